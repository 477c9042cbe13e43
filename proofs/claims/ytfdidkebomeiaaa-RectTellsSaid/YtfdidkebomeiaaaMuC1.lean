/- The code comes to what was worked out. -/
import Derived.Test.YtfdidkebomeiaaaMuDf
import Derived.Test.YtfdidkebomeiaaaMuPa
import Derived.Test.YtfdidkebomeiaaaMuC0
set_option linter.unusedVariables false
set_option linter.unnecessarySimpa false
set_option linter.unusedSimpArgs false
set_option maxHeartbeats 2000000
set_option maxRecDepth 10000
namespace Mu
open Go (IntKind BinOp UnOp)
theorem Zbw.ok {h:Hp}{d:Int}{times:Int}   {r:Int}(hp:Zbw d times=some r) :
  ∃ u k',Is G 77 [.n d,.n times] h u k'∧V.n r=u∧Own (fun r=>r<h.n) h k' []:=by
 refine WC.is (ZaD ZfE ?_)
 unfold Zbw at hp
 let B:Nat→Prop:=(fun r=>r<h.n)
 have hO:Own B h h []:=Own.start0 h
 refine Zg (Zb (.n 0) rfl (Ze (Z9 (Zg (Zb (.n d) rfl ?_)))))
 obtain ⟨x,⟨_,_,f,rfl,g⟩,hp⟩:=bdk hp fun _=>Zbv.ok (h:=h)  
 refine zU rfl rfl f ?_
 have a:=hO.call g rfl
 refine Zc (ZcJ rfl) (Ze (zu hp rfl (fun b hp=>?_) (fun b hp=>?_)))
 ·refine Zg (Zb (.n 0) rfl (Ze (zK (ZI (ZN (ZY rfl Z6) ?_)))))
  cases hp
  exact ⟨rfl,(a.pk [])⟩
 ·refine Zak (Zg (Zb (.n d) rfl (Zb (.n times) rfl (Zc (ZcO rfl rfl (by decide)) (ckk hp fun c hp=>Zc (ZV rfl rfl c) (ckk hp fun e hp=>Zc (ZV rfl rfl e) (Zc (ZcO rfl rfl (by decide)) (Zb (.n (((d+(times.tmod 4))+4).tmod 4)) rfl (Zj ?_)))))))))
  refine Zt (zK (ZN (ZY rfl Z6) ?_))
  cases hp
  exact ⟨rfl,(a.pk [])⟩

theorem Zd9.ok {h:Hp}{cells:List Za}{v:Int}{d:Int}{v_cells:V}(s_cells:Sl Zd h v_cells cells) {r:Int}(hp:Zd9 cells v d=some r) :
  ∃ u k',Is G 82 [v_cells,.n v,.n d] h u k'∧V.n r=u∧Own (fun r=>r<h.n) h k' []:=by
 refine WC.is (ZaD ZgS ?_)
 unfold Zd9 at hp
 let B:Nat→Prop:=(fun r=>r<h.n)
 have hO:Own B h h []:=Own.start0 h
 refine Zg (Zb (.n 0) rfl (Ze (Z9 (Zhl ?_))))
 have c:=hO.bump 16
 refine ZaK v_cells rfl (ZaK (.n v) rfl (ZaK (.n d) rfl (ckk hp fun j hp=>za rfl (ZP (c.rd0 s_cells.rd) rfl rfl j) (za rfl (ZaR (c.rd0 s_cells.rd) (Zf j) rfl rfl) (ckk hp fun o hp=>za rfl (Zbd (c.rd0 s_cells.rd) (Zf j) rfl rfl o rfl) (za rfl (zw (c.rd0 s_cells.rd) rfl (Zf j) (zL o)) (ZaK v_cells rfl (ZaK (.n v) rfl (ZaK (.n d) rfl (za rfl (ZP (c.rd0 s_cells.rd) rfl rfl j) (za rfl (ZaR (c.rd0 s_cells.rd) (Zf j) rfl rfl) ?_)))))))))))
 refine za rfl (Zbd (c.rd0 s_cells.rd) (Zf j) rfl rfl o rfl) (za rfl (zw (c.rd0 s_cells.rd) rfl (Zf j) (Zc2 o)) (ZaK (.n (((gi cells v.toNat).Next).get d)) rfl (ZaK (.n (((gi cells v.toNat).Owner).get d)) rfl (Zba (Zt (Z9 (Zg (Zb (.n (((gi cells v.toNat).Next).get d)) rfl (Zc (Zb7 rfl rfl) (Ze (zu hp rfl (fun H hp=>?_) (fun H hp=>?_))))))))))))
 ·refine Z9 (Zg (Zb (.n (((gi cells v.toNat).Owner).get d)) rfl (Zc (Zca rfl rfl) (Ze (zu hp rfl (fun I hp=>?_) (fun I hp=>?_))))))
  ·refine Zg (Zb (.n 9) rfl (Ze (zK (ZI (ZI (ZN (ZY rfl Z6) ?_))))))
   cases hp
   exact ⟨rfl,(c.pk [])⟩
  ·refine Zak (Zg (Zb (.n 0) rfl (Ze (zK (ZI (ZN (ZY rfl Z6) ?_))))))
   cases hp
   exact ⟨rfl,(c.pk [])⟩
 ·refine Zak (Z9 (Zg (Zb (.n (((gi cells v.toNat).Next).get d)) rfl (Zc (zA rfl rfl) (Zb (.b (decide ((((gi cells v.toNat).Next).get d)<0))) rfl (zN 5 (fun f k=>(h.bump 16)=k∧f 35=.b ((decide ((((gi cells v.toNat).Next).get d)<0))||(decide ((cells.length:Int)≤(((gi cells v.toNat).Next).get d))))∧f 0=v_cells∧f 1=.n v∧f 2=.n d∧f 7=.n (((gi cells v.toNat).Next).get d)∧f 8=.n (((gi cells v.toNat).Owner).get d)) ?_ ?_))))))
  ·rcases bc (decide ((((gi cells v.toNat).Next).get d)<0)) with e|e
   ·refine Zl rfl e (Zl rfl e (Zl rfl e (Zl rfl e (Zc (Zct (w:=(decide ((((gi cells v.toNat).Next).get d)<0))||(decide ((cells.length:Int)≤(((gi cells v.toNat).Next).get d)))) rfl e rfl) (Zj ?_)))))
    exact ⟨rfl,rfl,rfl,rfl,rfl,rfl,rfl⟩
   ·refine Zq rfl e (Zb (.n (((gi cells v.toNat).Next).get d)) rfl (Zq rfl e (Zb v_cells rfl (Zq rfl e (Zc (Zap (c.rd0 s_cells.rd) rfl) (Zq rfl e (Zc (Zda rfl rfl) (Zc (Zcu rfl e rfl) (Zj ?_)))))))))
    exact ⟨rfl,rfl,rfl,rfl,rfl,rfl,rfl⟩
  rintro _ _ ⟨rfl,M,y,q,A,s,C⟩
  refine Zb _ M (zN 4 (fun f k=>(h.bump 16)=k∧f 40=.b (((decide ((((gi cells v.toNat).Next).get d)<0))||(decide ((cells.length:Int)≤(((gi cells v.toNat).Next).get d))))||(decide (((gi cells v.toNat).Next).get d=v)))∧f 0=v_cells∧f 1=.n v∧f 2=.n d∧f 7=.n (((gi cells v.toNat).Next).get d)∧f 8=.n (((gi cells v.toNat).Owner).get d)) ?_ ?_)
  ·rcases bc ((decide ((((gi cells v.toNat).Next).get d)<0))||(decide ((cells.length:Int)≤(((gi cells v.toNat).Next).get d)))) with i|i
   ·refine Zl rfl i (Zl rfl i (Zl rfl i (Zc (Zct (w:=((decide ((((gi cells v.toNat).Next).get d)<0))||(decide ((cells.length:Int)≤(((gi cells v.toNat).Next).get d))))||(decide (((gi cells v.toNat).Next).get d=v))) rfl i rfl) (Zj ?_))))
    exact ⟨rfl,rfl,y,q,A,s,C⟩
   ·refine Zq rfl i (Zb _ s (Zq rfl i (Zb _ q (Zq rfl i (Zc (Zb7 rfl rfl) (Zc (Zcu rfl i rfl) (Zj ?_)))))))
    exact ⟨rfl,rfl,y,q,A,s,C⟩
  rintro _ _ ⟨rfl,P,D,N,O,E,t⟩
  refine Ze (zu hp P (fun J hp=>?_) (fun J hp=>?_))
  ·refine Zg (Zb (.n 3) rfl (Ze (zK (ZI (ZN (ZY rfl Z6) ?_)))))
   cases hp
   exact ⟨rfl,(c.pk [])⟩
  ·refine Zak (Zg (Zb _ O ?_))
   obtain ⟨x,⟨_,F,L,rfl,T⟩,hp⟩:=bdk hp fun _=>Zbw.ok (h:=(h.bump 16))  
   refine zU rfl rfl L ?_
   have g:=c.call T rfl
   refine Zb (.n x) rfl (Ze (Z9 (Zg (Zb _ D (Zb _ E (Zb (.n x) rfl (ckk hp fun l hp=>Zc (ZP (g.rd0 s_cells.rd) rfl rfl l) (Zc (ZaR (g.rd0 s_cells.rd) (Zf l) rfl rfl) (ckk hp fun p hp=>Zc (Zbd (g.rd0 s_cells.rd) (Zf l) rfl rfl p rfl) ?_)))))))))
   refine Zc (zw (g.rd0 s_cells.rd) rfl (Zf l) (zL p)) (Zb _ N (Zc (Zca rfl rfl) (Zb (.b (!(decide (((gi cells (((gi cells v.toNat).Next).get d:Int).toNat).Next).get x=v)))) rfl (zN 10 (fun f k=>F=k∧f 62=.b ((!(decide (((gi cells (((gi cells v.toNat).Next).get d:Int).toNat).Next).get x=v)))||(!(decide (((gi cells (((gi cells v.toNat).Next).get d:Int).toNat).Owner).get x=((gi cells v.toNat).Owner).get d))))∧f 8=.n (((gi cells v.toNat).Owner).get d)) ?_ ?_))))
   ·rcases bc (!(decide (((gi cells (((gi cells v.toNat).Next).get d:Int).toNat).Next).get x=v))) with a|a
    ·refine Zl rfl a (Zl rfl a (Zl rfl a (Zl rfl a (Zl rfl a (Zl rfl a (Zl rfl a (Zl rfl a (Zl rfl a (Zc (Zct (w:=(!(decide (((gi cells (((gi cells v.toNat).Next).get d:Int).toNat).Next).get x=v)))||(!(decide (((gi cells (((gi cells v.toNat).Next).get d:Int).toNat).Owner).get x=((gi cells v.toNat).Owner).get d)))) rfl a rfl) (Zj ?_))))))))))
     exact ⟨rfl,rfl,t⟩
    ·refine Zq rfl a (Zb _ D (Zq rfl a (Zb _ E (Zq rfl a (Zb (.n x) rfl (Zq rfl a (Zc (ZP (g.rd0 s_cells.rd) rfl rfl l) (Zq rfl a (Zc (ZaR (g.rd0 s_cells.rd) (Zf l) rfl rfl) (Zq rfl a (Zc (Zbd (g.rd0 s_cells.rd) (Zf l) rfl rfl p rfl) (Zq rfl a (Zc (zw (g.rd0 s_cells.rd) rfl (Zf l) (Zc2 p)) ?_)))))))))))))
     refine Zq rfl a (Zb _ t (Zq rfl a (Zc (Zca rfl rfl) (Zc (Zcu rfl a rfl) (Zj ?_)))))
     exact ⟨rfl,rfl,t⟩
   rintro _ _ ⟨rfl,Q,R⟩
   refine Zb _ Q (zN 3 (fun f k=>F=k∧f 66=.b (((!(decide (((gi cells (((gi cells v.toNat).Next).get d:Int).toNat).Next).get x=v)))||(!(decide (((gi cells (((gi cells v.toNat).Next).get d:Int).toNat).Owner).get x=((gi cells v.toNat).Owner).get d))))||(decide ((((gi cells v.toNat).Owner).get d)<(-2))))) ?_ ?_)
   ·rcases bc ((!(decide (((gi cells (((gi cells v.toNat).Next).get d:Int).toNat).Next).get x=v)))||(!(decide (((gi cells (((gi cells v.toNat).Next).get d:Int).toNat).Owner).get x=((gi cells v.toNat).Owner).get d)))) with m|m
    ·refine Zl rfl m (Zl rfl m (Zc (Zct (w:=((!(decide (((gi cells (((gi cells v.toNat).Next).get d:Int).toNat).Next).get x=v)))||(!(decide (((gi cells (((gi cells v.toNat).Next).get d:Int).toNat).Owner).get x=((gi cells v.toNat).Owner).get d))))||(decide ((((gi cells v.toNat).Owner).get d)<(-2)))) rfl m rfl) (Zj ?_)))
     exact ⟨rfl,rfl⟩
    ·refine Zq rfl m (Zb _ R (Zq rfl m (Zc (zA rfl rfl) (Zc (Zcu rfl m rfl) (Zj ?_)))))
     exact ⟨rfl,rfl⟩
   rintro _ _ ⟨rfl,S⟩
   refine Ze (zu hp S (fun K hp=>?_) (fun K hp=>?_))
   ·refine Zg (Zb (.n 9) rfl (Ze (zK (ZI (ZN (ZY rfl Z6) ?_)))))
    cases hp
    exact ⟨rfl,(g.pk [])⟩
   ·refine Zak (Zg (Zb (.n 0) rfl (Ze (zK (ZN (ZY rfl Z6) ?_)))))
    cases hp
    exact ⟨rfl,(g.pk [])⟩

theorem Zau.ok {h:Hp}{cells:List Za}{v_cells:V}(s_cells:Sl Zd h v_cells cells) {r:Int}(hp:Zau cells=some r) :
  ∃ u k',Is G 66 [v_cells] h u k'∧V.n r=u∧Own (fun r=>r<h.n) h k' []:=by
 refine WC.is (ZaD Zgv ?_)
 unfold Zau at hp
 let B:Nat→Prop:=(fun r=>r<h.n)
 have hO:Own B h h []:=Own.start0 h
 refine Zg (Zb (.n 0) rfl (Ze (Z9 (Zg (Zb v_cells rfl (Zc (Zap (hO.rd0 s_cells.rd) rfl) (Zc (Zd1 rfl rfl) (Ze (zu hp rfl (fun t hp=>?_) (fun t hp=>?_))))))))))
 ·refine Zg (Zb (.n 6) rfl (Ze (zK (ZI (ZN (ZY rfl Z6) ?_)))))
  cases hp
  exact ⟨rfl,(hO.pk [])⟩
 ·refine Zak (Z9 (Zg (Zb v_cells rfl (Zc (Zap (hO.rd0 s_cells.rd) rfl) (Zb (.n 0) rfl (Ze (Zai (ZbM hp (fun x fr k=>fr 0=v_cells∧fr 10=.n (cells.length:Int)∧fr 11=.n x∧Own B h k []) (fun|.inl _,e,fr,k=>e=(.exit 0)∧Own B h k []|.inr x1,e,fr,k=>e=.ret∧fr 2=.n x1∧Own B h k []) ⟨rfl,rfl,rfl,(hO.pk [])⟩ ?_ ?_))))))))
  ·rintro x _ _ ⟨I,o,d,l⟩ _ hp
   dsimp only [Zau.s0] at hp
   refine Zg (Zc (zA d o) (Ze (Z9 (zu hp rfl (fun v hp=>?_) (fun v hp=>?_)))))
   ·refine Zak (Z9 (Zai (Zg (Zb _ d (Zb (.n x) rfl (Ze (Zg (Zb (.n 0) rfl (Zj ?_)))))))))
    refine Zt (Zai (ZbM hp (fun x2 fr k=>fr 0=v_cells∧fr 3=.n x∧fr 10=.n (cells.length:Int)∧fr 11=.n x∧fr 14=.n x2∧Own B h k []) (fun|.inl _,e,fr,k=>e=(.exit 2)∧fr 0=v_cells∧fr 10=.n (cells.length:Int)∧fr 11=.n x∧Own B h k []|.inr x3,e,fr,k=>e=.ret∧fr 2=.n x3∧Own B h k []) ⟨I,rfl,o,d,rfl,(l.pk [])⟩ ?_ ?_))
    ·rintro x2 _ F ⟨f,s,p,q,g,c⟩ _ hp
     dsimp only [Zau.s1] at hp
     refine Zg (Zc (zA g rfl) (Ze (Z9 (zu hp rfl (fun w hp=>?_) (fun w hp=>?_)))))
     ·refine Zak (Z9 (Zai (Zg (Zb _ g (Zb (.n x2) rfl (Ze (Zg (Zb _ f (Zb _ s ?_)))))))))
      refine Zb (.n x2) rfl ?_
      obtain ⟨x4,⟨_,_,D,rfl,E⟩,hp⟩:=bdk hp fun _=>Zd9.ok (h:=F)  (c.rd0 s_cells.rd)
      refine zU rfl rfl D ?_
      have m:=c.call E rfl
      refine Zb (.n x4) rfl (Ze (Zg (Zb (.n x4) rfl (Zc (Zca rfl rfl) (Ze (zu hp rfl (fun y hp=>?_) (fun y hp=>?_)))))))
      ·refine Zg (Zb (.n x4) rfl (Zb (.n x4) rfl (Ze (zK (ZaZ (ZI ?_))))))
       cases hp
       exact ⟨nofun,rfl,rfl,(m.pk [])⟩
      ·refine ZcB (Zam (Zt (Zaf (ckk hp fun A hp=>Zc (ZV g rfl A) (Zb (.n (x2+1)) rfl (Zj ?_))))))
       cases hp
       exact ⟨rfl,f,s,p,q,rfl,(m.pk [])⟩
     ·refine Zb8 (zW ?_)
      cases hp
      exact ⟨nofun,rfl,f,p,q,(c.pk [])⟩
    rintro (_|x3) hp _ _ _ j
    ·obtain ⟨rfl,J,K,L,b⟩:=j
     refine Za9 (Zam (Zt (Zaf (ckk hp fun C hp=>Zc (ZV L rfl C) (Zb (.n (x+1)) rfl (Zj ?_))))))
     cases hp
     exact ⟨rfl,J,K,rfl,(b.pk [])⟩
    ·obtain ⟨rfl,M,b⟩:=j
     refine ZaZ (ZaZ (ZI ?_))
     cases hp
     exact ⟨nofun,rfl,M,(b.pk [])⟩
   ·refine Zb8 (zW ?_)
    cases hp
    exact ⟨nofun,rfl,(l.pk [])⟩
  rintro (_|x1) hp _ _ _ i
  ·obtain ⟨rfl,a⟩:=i
   refine Za9 (Zt (Zg (Zb (.n 0) rfl (Ze (zK (ZN (ZY rfl Z6) ?_))))))
   cases hp
   exact ⟨rfl,(a.pk [])⟩
  ·obtain ⟨rfl,H,a⟩:=i
   refine ZaZ (ZI (ZN (ZY H Z6) ?_))
   cases hp
   exact ⟨rfl,(a.pk [])⟩

theorem Zef.ok {h:Hp}{x:Int}{y:Int}   {r:Int×Int}(hp:Zef x y=some r) :
  ∃ u k',Is G 98 [.i .u64 x,.i .u64 y] h u k'∧V.tu [.i .u64 r.1,.i .u64 r.2]=u∧Own (fun r=>r<h.n) h k' []:=by
 refine WC.is (ZaD Zgr ?_)
 unfold Zef at hp
 let B:Nat→Prop:=(fun r=>r<h.n)
 have hO:Own B h h []:=Own.start0 h
 refine Zg (Zb (.i .u64 0) rfl (Zb (.i .u64 0) rfl (Ze (Zg (Zb (.i .u64 x) rfl (Zc (Zf3 (v:=.i .u64 (ZK .u64 x 4294967295)) rfl rfl (by decide) rfl) (Zb (.i .u64 (ZK .u64 x 4294967295)) rfl (Ze (Z9 ?_)))))))))
 refine Zaf (Zb (.i .u64 x) rfl (Zc (ZfV (v:=.i .u64 (zD .u64 x 32)) rfl rfl (by decide) (Ze5 (by decide))) (Zb (.i .u64 (zD .u64 x 32)) rfl (Ze (Zg (Zb (.i .u64 y) rfl (Zc (Zf3 (v:=.i .u64 (ZK .u64 y 4294967295)) rfl rfl (by decide) rfl) (Zb (.i .u64 (ZK .u64 y 4294967295)) rfl (Ze (Z9 ?_))))))))))
 refine Zaf (Zb (.i .u64 y) rfl (Zc (ZfV (v:=.i .u64 (zD .u64 y 32)) rfl rfl (by decide) (Ze5 (by decide))) (Zb (.i .u64 (zD .u64 y 32)) rfl (Ze (Zg (Zb (.i .u64 (ZK .u64 x 4294967295)) rfl (Zb (.i .u64 (ZK .u64 y 4294967295)) rfl (Zc (Zf3 (v:=.i .u64 (Zaj .u64 (ZK .u64 x 4294967295) (ZK .u64 y 4294967295))) rfl rfl (by decide) rfl) (Zb (.i .u64 (Zaj .u64 (ZK .u64 x 4294967295) (ZK .u64 y 4294967295))) rfl (Ze ?_))))))))))
 refine Zg (Zb (.i .u64 (zD .u64 x 32)) rfl (Zb (.i .u64 (ZK .u64 y 4294967295)) rfl (Zc (Zf3 (v:=.i .u64 (Zaj .u64 (zD .u64 x 32) (ZK .u64 y 4294967295))) rfl rfl (by decide) rfl) (Zb (.i .u64 (Zaj .u64 (ZK .u64 x 4294967295) (ZK .u64 y 4294967295))) rfl (Zc (ZfV (v:=.i .u64 (zD .u64 (Zaj .u64 (ZK .u64 x 4294967295) (ZK .u64 y 4294967295)) 32)) rfl rfl (by decide) (Ze5 (by decide))) (Zc (Zf3 (v:=.i .u64 (Zb1 .u64 (Zaj .u64 (zD .u64 x 32) (ZK .u64 y 4294967295)) (zD .u64 (Zaj .u64 (ZK .u64 x 4294967295) (ZK .u64 y 4294967295)) 32))) rfl rfl (by decide) rfl) (Zb (.i .u64 (Zb1 .u64 (Zaj .u64 (zD .u64 x 32) (ZK .u64 y 4294967295)) (zD .u64 (Zaj .u64 (ZK .u64 x 4294967295) (ZK .u64 y 4294967295)) 32))) rfl (Ze (Zg (Zb (.i .u64 (Zb1 .u64 (Zaj .u64 (zD .u64 x 32) (ZK .u64 y 4294967295)) (zD .u64 (Zaj .u64 (ZK .u64 x 4294967295) (ZK .u64 y 4294967295)) 32))) rfl ?_))))))))))
 refine Zc (Zf3 (v:=.i .u64 (ZK .u64 (Zb1 .u64 (Zaj .u64 (zD .u64 x 32) (ZK .u64 y 4294967295)) (zD .u64 (Zaj .u64 (ZK .u64 x 4294967295) (ZK .u64 y 4294967295)) 32)) 4294967295)) rfl rfl (by decide) rfl) (Zb (.i .u64 (ZK .u64 (Zb1 .u64 (Zaj .u64 (zD .u64 x 32) (ZK .u64 y 4294967295)) (zD .u64 (Zaj .u64 (ZK .u64 x 4294967295) (ZK .u64 y 4294967295)) 32)) 4294967295)) rfl (Ze (Zg (Zb (.i .u64 (Zb1 .u64 (Zaj .u64 (zD .u64 x 32) (ZK .u64 y 4294967295)) (zD .u64 (Zaj .u64 (ZK .u64 x 4294967295) (ZK .u64 y 4294967295)) 32))) rfl (Zc (ZfV (v:=.i .u64 (zD .u64 (Zb1 .u64 (Zaj .u64 (zD .u64 x 32) (ZK .u64 y 4294967295)) (zD .u64 (Zaj .u64 (ZK .u64 x 4294967295) (ZK .u64 y 4294967295)) 32)) 32)) rfl rfl (by decide) (Ze5 (by decide))) (Zb (.i .u64 (zD .u64 (Zb1 .u64 (Zaj .u64 (zD .u64 x 32) (ZK .u64 y 4294967295)) (zD .u64 (Zaj .u64 (ZK .u64 x 4294967295) (ZK .u64 y 4294967295)) 32)) 32)) rfl (Ze (Zg (Zb (.i .u64 (ZK .u64 (Zb1 .u64 (Zaj .u64 (zD .u64 x 32) (ZK .u64 y 4294967295)) (zD .u64 (Zaj .u64 (ZK .u64 x 4294967295) (ZK .u64 y 4294967295)) 32)) 4294967295)) rfl ?_)))))))))
 refine Zb (.i .u64 (ZK .u64 x 4294967295)) rfl (Zb (.i .u64 (zD .u64 y 32)) rfl (Zc (Zf3 (v:=.i .u64 (Zaj .u64 (ZK .u64 x 4294967295) (zD .u64 y 32))) rfl rfl (by decide) rfl) (Zc (Zf3 (v:=.i .u64 (Zb1 .u64 (ZK .u64 (Zb1 .u64 (Zaj .u64 (zD .u64 x 32) (ZK .u64 y 4294967295)) (zD .u64 (Zaj .u64 (ZK .u64 x 4294967295) (ZK .u64 y 4294967295)) 32)) 4294967295) (Zaj .u64 (ZK .u64 x 4294967295) (zD .u64 y 32)))) rfl rfl (by decide) rfl) (Zb (.i .u64 (Zb1 .u64 (ZK .u64 (Zb1 .u64 (Zaj .u64 (zD .u64 x 32) (ZK .u64 y 4294967295)) (zD .u64 (Zaj .u64 (ZK .u64 x 4294967295) (ZK .u64 y 4294967295)) 32)) 4294967295) (Zaj .u64 (ZK .u64 x 4294967295) (zD .u64 y 32)))) rfl (Ze (Zg (Zb (.i .u64 (zD .u64 x 32)) rfl (Zb (.i .u64 (zD .u64 y 32)) rfl (Zc (Zf3 (v:=.i .u64 (Zaj .u64 (zD .u64 x 32) (zD .u64 y 32))) rfl rfl (by decide) rfl) (Zb (.i .u64 (zD .u64 (Zb1 .u64 (Zaj .u64 (zD .u64 x 32) (ZK .u64 y 4294967295)) (zD .u64 (Zaj .u64 (ZK .u64 x 4294967295) (ZK .u64 y 4294967295)) 32)) 32)) rfl (Zc (Zf3 (v:=.i .u64 (Zb1 .u64 (Zaj .u64 (zD .u64 x 32) (zD .u64 y 32)) (zD .u64 (Zb1 .u64 (Zaj .u64 (zD .u64 x 32) (ZK .u64 y 4294967295)) (zD .u64 (Zaj .u64 (ZK .u64 x 4294967295) (ZK .u64 y 4294967295)) 32)) 32))) rfl rfl (by decide) rfl) ?_)))))))))))
 refine Zb (.i .u64 (Zb1 .u64 (ZK .u64 (Zb1 .u64 (Zaj .u64 (zD .u64 x 32) (ZK .u64 y 4294967295)) (zD .u64 (Zaj .u64 (ZK .u64 x 4294967295) (ZK .u64 y 4294967295)) 32)) 4294967295) (Zaj .u64 (ZK .u64 x 4294967295) (zD .u64 y 32)))) rfl (Zc (ZfV (v:=.i .u64 (zD .u64 (Zb1 .u64 (ZK .u64 (Zb1 .u64 (Zaj .u64 (zD .u64 x 32) (ZK .u64 y 4294967295)) (zD .u64 (Zaj .u64 (ZK .u64 x 4294967295) (ZK .u64 y 4294967295)) 32)) 4294967295) (Zaj .u64 (ZK .u64 x 4294967295) (zD .u64 y 32))) 32)) rfl rfl (by decide) (Ze5 (by decide))) (Zc (Zf3 (v:=.i .u64 (Zb1 .u64 (Zb1 .u64 (Zaj .u64 (zD .u64 x 32) (zD .u64 y 32)) (zD .u64 (Zb1 .u64 (Zaj .u64 (zD .u64 x 32) (ZK .u64 y 4294967295)) (zD .u64 (Zaj .u64 (ZK .u64 x 4294967295) (ZK .u64 y 4294967295)) 32)) 32)) (zD .u64 (Zb1 .u64 (ZK .u64 (Zb1 .u64 (Zaj .u64 (zD .u64 x 32) (ZK .u64 y 4294967295)) (zD .u64 (Zaj .u64 (ZK .u64 x 4294967295) (ZK .u64 y 4294967295)) 32)) 4294967295) (Zaj .u64 (ZK .u64 x 4294967295) (zD .u64 y 32))) 32))) rfl rfl (by decide) rfl) (Zb (.i .u64 (Zb1 .u64 (Zb1 .u64 (Zaj .u64 (zD .u64 x 32) (zD .u64 y 32)) (zD .u64 (Zb1 .u64 (Zaj .u64 (zD .u64 x 32) (ZK .u64 y 4294967295)) (zD .u64 (Zaj .u64 (ZK .u64 x 4294967295) (ZK .u64 y 4294967295)) 32)) 32)) (zD .u64 (Zb1 .u64 (ZK .u64 (Zb1 .u64 (Zaj .u64 (zD .u64 x 32) (ZK .u64 y 4294967295)) (zD .u64 (Zaj .u64 (ZK .u64 x 4294967295) (ZK .u64 y 4294967295)) 32)) 4294967295) (Zaj .u64 (ZK .u64 x 4294967295) (zD .u64 y 32))) 32))) rfl (Ze (Zg (Zb (.i .u64 x) rfl (Zb (.i .u64 y) rfl (Zc (Zf3 (v:=.i .u64 (Zaj .u64 x y)) rfl rfl (by decide) rfl) (Zb (.i .u64 (Zaj .u64 x y)) rfl (Ze ?_))))))))))
 refine zK (ZN (ZY rfl (ZY rfl Z6)) ?_)
 cases hp
 exact ⟨rfl,(hO.pk [])⟩

theorem ZdR.ok {h:Hp}{x:Int}{y:Int}   {r:Int×Int}(hp:ZdR x y=some r) :
  ∃ u k',Is G 89 [.i .u64 x,.i .u64 y] h u k'∧V.tu [.i .u64 r.1,.i .u64 r.2]=u∧Own (fun r=>r<h.n) h k' []:=by
 refine WC.is (ZaD Zhh ?_)
 unfold ZdR at hp
 let B:Nat→Prop:=(fun r=>r<h.n)
 have hO:Own B h h []:=Own.start0 h
 refine Zg (Zb (.i .u64 0) rfl (Zb (.i .u64 0) rfl (Ze (Z9 (Zkt rfl rfl (Zak (Zg (Zb (.i .u64 x) rfl (Zb (.i .u64 y) rfl ?_)))))))))
 obtain ⟨⟨x1,x2⟩,⟨_,_,a,rfl,c⟩,hp⟩:=bdk hp fun _=>Zef.ok (h:=h)  
 refine zU rfl rfl a ?_
 have b:=hO.call c rfl
 refine Zb (.tu [.i .u64 x1,.i .u64 x2]) rfl (Zc (zC rfl rfl) (Zc (zC rfl rfl) (Zb (.i .u64 x1) rfl (Zb (.i .u64 x2) rfl (Ze (Zg (Zb (.i .u64 x1) rfl (Zb (.i .u64 x2) rfl (Zb (.i .u64 x1) rfl (Zb (.i .u64 x2) rfl (Zj ?_)))))))))))
 refine Zt (zK (ZN (ZY rfl (ZY rfl Z6)) ?_))
 cases hp
 exact ⟨rfl,(b.pk [])⟩

theorem ZaE.ok {h:Hp}{x:List Int}{count:Int}{v_x:V}(s_x:Sl Zad h v_x x) {r:(List Int)}(hp:ZaE x count=some r) :
  ∃ u k',Is G 83 [v_x,.n count] h u k'∧∃ v,v=u∧Own (fun r=>r<h.n) h k' [eSl Zad v r]:=by
 refine WC.is (ZaD Zex ?_)
 unfold ZaE at hp
 let B:Nat→Prop:=(fun r=>r<h.n)
 have hO:Own B h h []:=Own.start0 h
 refine Zg (Zb (.sn) rfl (Ze (Z9 (Zg (Zb (.n count) rfl (Zc (zA rfl rfl) (Ze (Zii hp (fun _ e fr k=>e=.normal∧fr 0=v_x∧fr 1=.n count∧Own B h k []) (fun _ hp=>?_) ?_))))))))
 ·refine zu hp rfl (fun A hp=>?_) (fun A hp=>?_)
  ·exact nomatch hp
  ·refine ZcB ?_
   cases hp
   exact ⟨rfl,rfl,rfl,(hO.pk [])⟩
 rintro _ hp _ _ U ⟨rfl,o,Y,p⟩
 refine Zt (Zg (Zb _ o (Zc (Zap (p.rd0 s_x.rd) rfl) (ckk hp fun F hp=>Zc (Zf9 rfl F) (Zb _ Y (ckk hp fun H hp=>Zc (Zf9 rfl H) ?_))))))
 obtain ⟨⟨x1,x2⟩,⟨_,W,L,rfl,T⟩,hp⟩:=bdk hp fun _=>ZdR.ok (h:=U)  
 refine zU rfl rfl L ?_
 have P:=p.call T rfl
 refine Zb (.tu [.i .u64 x1,.i .u64 x2]) rfl (Zc (zC rfl rfl) (Zc (zC rfl rfl) (Zb (.i .u64 x1) rfl (Zb (.i .u64 x2) rfl (Ze (Z9 (Zg (Zb (.i .u64 x1) rfl (Zc (Zd1 rfl rfl) (Zb (.b (decide (0<x1))) rfl (zN 3 (fun f k=>W=k∧f 26=.b ((decide (0<x1))||(decide (9223372036854775807<x2)))∧f 0=v_x∧f 6=.i .u64 x2) ?_ ?_)))))))))))
 ·rcases bc (decide (0<x1)) with c|c
  ·refine Zl rfl c (Zl rfl c (Zc (Zct (w:=(decide (0<x1))||(decide (9223372036854775807<x2))) rfl c rfl) (Zj ?_)))
   exact ⟨rfl,rfl,o,rfl⟩
  ·refine Zq rfl c (Zb (.i .u64 x2) rfl (Zq rfl c (Zc (Zd1 rfl rfl) (Zc (Zcu rfl c rfl) (Zj ?_)))))
   exact ⟨rfl,rfl,o,rfl⟩
 rintro _ _ ⟨rfl,N,M,O⟩
 refine Ze (Zii hp (fun _ e fr k=>e=.normal∧fr 0=v_x∧fr 6=.i .u64 x2∧Own B h k []) (fun _ hp=>?_) ?_)
 ·refine zu hp N (fun C hp=>?_) (fun C hp=>?_)
  ·exact nomatch hp
  ·refine ZcB ?_
   cases hp
   exact ⟨rfl,M,O,(P.pk [])⟩
 rintro _ hp _ _ _ ⟨rfl,aa,ab,s⟩
 refine Zt (Zg (Zb _ ab (ckk hp fun I hp=>Zc (Zf9 rfl I) (ckk hp fun J hp=>zQ (s.mks (E:=Zad) (y:=(0:Int)) (bytes:=8) (z:=x2) s.fr rfl rfl rfl J (by decide)) ?_))))
 rintro a _ ⟨_,_,t⟩
 refine Zb a rfl (Ze (Zg (Zb a rfl (Zb _ aa (zQ (t.cpy 0 rfl (t.rd0 s_x.rd) rfl rfl (fun _=>rfl)) ?_)))))
 rintro _ _ ⟨rfl,_,Q⟩
 refine Zb (.n ((min x.length (List.replicate x2.toNat (0:Int)).length:Nat):Int)) rfl (Ze (Z9 (Zai (ZbM hp (fun|(newslice,n),fr,k=>fr 7=a∧fr 8=.n n∧Own B h k [eSl Zad a newslice]) (fun newslice1 e fr k=>e=(.exit 0)∧fr 7=a∧Own B h k [eSl Zad a newslice1]) ⟨rfl,rfl,(Q.pk [0])⟩ ?_ ?_))))
 ·rintro ⟨newslice,n⟩ _ X ⟨d,l,m⟩ _ hp
  dsimp only [ZaE.s0] at hp
  refine Z9 (Zg (Zb _ l (Zb _ d (Zc (Zap (m.sl 0 rfl) rfl) (Zc (zA rfl rfl) (Ze (zu hp rfl (fun D hp=>?_) (fun D hp=>?_))))))))
  ·refine Zak (Zai (Zgp ?_))
   have j:=m.bump 10
   refine Zbl _ l (Zbl _ d (Zbl _ l (ckk hp fun g hp=>z8 (Zm6 (E:=Zad) (z:=n) (j.sl 0 rfl) rfl rfl g) (Zbl _ d (Zbl _ l (z8 (ZkR (E:=Zad) (z:=n) (j.sl 0 rfl) rfl rfl g) (ZeT (j.cpyF (E:=Zad) (z:=n) 0 rfl g (Sl.cutU (j.sl 0 rfl) g:Sl Zad (X.bump 10) (V.cut a 0 n.toNat) (newslice.take n.toNat)) rfl rfl (fun _=>rfl)) ?_)))))))
   rintro _ _ _ ⟨rfl,_,S⟩
   refine ckk hp fun K hp=>z8 (ZV rfl rfl K) (Zbl (.n (n+((min (newslice.take n.toNat).length (newslice.drop n.toNat).length:Nat):Int))) rfl (ZcW ?_))
   refine And.intro ?_ ?_
   ·intro q hq
    cases hq
   refine Zam ?_
   cases hp
   exact ⟨rfl,d,rfl,(S.pk [0])⟩
  ·refine Zb8 (zW ?_)
   cases hp
   exact ⟨nofun,rfl,d,(m.pk [0])⟩
 rintro newslice1 hp _ _ _ ⟨rfl,ac,R⟩
 refine Za9 (Zt (Zg (Zb _ ac (Zb a rfl (Ze (zK (ZN (ZY rfl Z6) ?_)))))))
 cases hp
 exact ⟨a,rfl,(R.pk [0])⟩

theorem Zbe.ok {h:Hp}{cells:List Za}{v:Int}{v_cells:V}(s_cells:Sl Zd h v_cells cells) {r:(List Int)×(List Int)}(hp:Zbe cells v=some r) :
  ∃ u k',Is G 67 [v_cells,.n v] h u k'∧∃ ap ar,V.tu [ap,ar]=u∧Own (fun r=>r<h.n) h k' [eSl Zad ap r.1,eSl Zad ar r.2]:=by
 refine WC.is (ZaD Zgh ?_)
 unfold Zbe at hp
 let B:Nat→Prop:=(fun r=>r<h.n)
 have hO:Own B h h []:=Own.start0 h
 refine Zg (Zb (.sn) rfl (Zb (.sn) rfl (Ze (Zg (zQ (hO.bsl (E:=Zad) (l:=([(-1)]:List Int)) hO.fr (by rw [(zf (v:=.n (-1)) rfl Zbb)];rfl) rfl) ?_)))))
 rintro a1 al ⟨_,_,J⟩
 refine Zb v_cells rfl (Zc (Zap (J.rd0 s_cells.rd) rfl) ?_)
 obtain ⟨x,⟨_,_,aC,c,rfl,aL⟩,hp⟩:=bdk hp fun _=>ZaE.ok (h:=al)  (J.sl 0 rfl:Sl Zad al a1 ([(-1)]:List Int))
 refine zU rfl rfl aC ?_
 have ai:=J.call aL rfl
 refine zQ (ai.bsl (E:=Zad) (l:=([(-1)]:List Int)) ai.fr (by rw [(zf (v:=.n (-1)) rfl Zbb)];rfl) rfl) ?_
 rintro a2 am ⟨_,_,L⟩
 refine Zb v_cells rfl (Zc (Zap (L.rd0 s_cells.rd) rfl) ?_)
 obtain ⟨x1,⟨_,_,aD,d,rfl,aM⟩,hp⟩:=bdk hp fun _=>ZaE.ok (h:=am)  (L.sl 2 rfl:Sl Zad am a2 ([(-1)]:List Int))
 refine zU rfl rfl aD ?_
 have aj:=L.call aM rfl
 refine Zb c rfl (Zb d rfl (Ze (Zg (Zb (.n v) rfl (zQ (aj.bsl (E:=Zad) (l:=[v]) aj.fr (by rw [(zf (v:=.n v) rfl Zbb)];rfl) rfl) ?_)))))
 rintro au _ ⟨_,_,M⟩
 refine Zb au rfl (Ze (Zg (Zb v_cells rfl (Zc (Zap (M.rd0 s_cells.rd) rfl) (ckk hp fun ay hp=>zQ (M.mks (E:=e_bool) (y:=false) (bytes:=1) (z:=(cells.length:Int)) M.fr rfl rfl rfl ay (by decide)) ?_)))))
 rintro i aQ ⟨_,_,ak⟩
 refine Zb i rfl (Ze (Zg (Zb i rfl (Zb (.n v) rfl (ckk hp fun T hp=>Zc (ZP (ak.sl 5 rfl:Sl e_bool aQ i (List.replicate ((cells.length:Int):Int).toNat false)) rfl rfl T) (zQ (ak.ste (y:=true) 5 rfl rfl (Zf T) rfl rfl ⟨rfl,Nat.le_of_ble_eq_true rfl,rfl⟩ rfl) ?_))))))
 rintro _ _ ⟨rfl,_,_,aJ⟩
 refine Ze (Z9 (Zai (ZbM hp (fun|(from_,dir,l,met),fr,k=>∃ o,fr 0=v_cells∧fr 6=c∧fr 7=d∧fr 8=o∧fr 9=i∧Own B h k [eSl Zad c from_,eSl Zad d dir,eSl Zad o l,eSl e_bool i met]) (fun|(from_1,dir1),e,fr,k=>e=(.exit 0)∧fr 6=c∧fr 7=d∧Own B h k [eSl Zad c from_1,eSl Zad d dir1]) ⟨au,rfl,rfl,rfl,rfl,rfl,(aJ.pk [1,3,4,5])⟩ ?_ ?_)))
 ·rintro ⟨from_,dir,l,met⟩ _ _ ⟨o,aT,an,ao,N,aU,j⟩ _ hp
  dsimp only [Zbe.s0] at hp
  refine Z9 (Zg (Zb _ N (Zc (Zap (j.sl 2 rfl) rfl) (Zc (Zd1 rfl rfl) (Ze (zu hp rfl (fun av hp=>?_) (fun av hp=>?_)))))))
  ·refine Zak (Zai (Zg (Zb _ N (ckk hp fun U hp=>Zc (ZP (j.sl 2 rfl) rfl rfl U) (Zc (zw (j.sl 2 rfl) rfl (Zf U) rfl) (Zb (.n (gi l (0:Int).toNat)) rfl (Ze (Zg ?_))))))))
   refine Zb _ N (ckk hp fun W hp=>Zc (Zm6 (E:=Zad) (z:=1) (j.sl 2 rfl) rfl rfl W) (Zb ((V.cut o (1:Int).toNat (l).length)) rfl (Ze (Zg (Zb (.n 0) rfl (Ze (Zai ?_)))))))
   have aH:=j.cutF 2 rfl W
   refine ZbM hp (fun|(from_2,dir2,l1,met1,x2),fr,k=>∃ m,fr 0=v_cells∧fr 6=c∧fr 7=d∧fr 8=m∧fr 9=i∧fr 10=.n (gi l (0:Int).toNat)∧fr 37=.n x2∧Own B h k [eSl Zad c from_2,eSl Zad d dir2,eSl Zad m l1,eSl e_bool i met1]) (fun|(from_3,dir3,l2,met2),e,fr,k=>e=(.exit 2)∧∃ C,fr 0=v_cells∧fr 6=c∧fr 7=d∧fr 8=C∧fr 9=i∧Own B h k [eSl Zad c from_3,eSl Zad d dir3,eSl Zad C l2,eSl e_bool i met2]) ⟨(V.cut o (1:Int).toNat (l).length),aT,an,ao,rfl,aU,rfl,rfl,(aH.pk [0,1,2,3])⟩ ?_ ?_
   ·rintro ⟨from_2,dir2,l1,met1,x2⟩ _ aO ⟨m,s,P,Q,R,A,O,w,g⟩ _ hp
    dsimp only [Zbe.s1] at hp
    refine Zg (Zc (zA w rfl) (Ze (Z9 (zu hp rfl (fun aw hp=>?_) (fun aw hp=>?_)))))
    ·refine Zak (Z9 (Zai (Zg (Zb _ w (Zb (.n x2) rfl (Ze (Zg (Zb _ s (Zb _ O ?_)))))))))
     refine Zb (.n x2) rfl (ckk hp fun p hp=>Zc (ZP (g.rd0 s_cells.rd) rfl rfl p) (Zc (ZaR (g.rd0 s_cells.rd) (Zf p) rfl rfl) (ckk hp fun X hp=>Zc (Zbd (g.rd0 s_cells.rd) (Zf p) rfl rfl X rfl) (Zc (zw (g.rd0 s_cells.rd) rfl (Zf p) (zL X)) (Zb (.n (((gi cells (gi l (0:Int).toNat:Int).toNat).Next).get x2)) rfl (Ze (Zg (Zb (.n (((gi cells (gi l (0:Int).toNat:Int).toNat).Next).get x2)) rfl (Zc (Zda rfl rfl) ?_)))))))))
     refine Zb (.b (decide (0≤(((gi cells (gi l (0:Int).toNat:Int).toNat).Next).get x2)))) rfl ?_
     obtain ⟨t,aN,hp⟩:=ZaP hp
     refine zN 6 (fun f k=>aO=k∧f 55=.b t∧f 0=v_cells∧f 10=.n (gi l (0:Int).toNat)∧f 11=.n x2∧f 12=.n (((gi cells (gi l (0:Int).toNat:Int).toNat).Next).get x2)∧f 37=.n x2∧f 6=c∧f 7=d∧f 8=m∧f 9=i) ?_ ?_
     ·clear hp;rcases Zbi aN with ⟨a,hp⟩|⟨a,hp⟩
      ·refine Zq rfl a (Zb _ A (Zq rfl a (Zb (.n (((gi cells (gi l (0:Int).toNat:Int).toNat).Next).get x2)) rfl (Zq rfl a (ckk hp fun Y hp=>Zc (ZP (g.sl 3 rfl) rfl rfl Y) (Zq rfl a (Zc (zw (g.sl 3 rfl) rfl (Zf Y) rfl) (Zq rfl a (Zc (ZcJ rfl) (Zc (ZaT (v:=.b t) rfl a (Eq.trans (b:=V.b (!(gi met1 (((gi cells (gi l (0:Int).toNat:Int).toNat).Next).get x2:Int).toNat))) rfl (congrArg V.b (Option.some.inj hp)))) (Zj ?_)))))))))))
       exact ⟨rfl,rfl,s,O,rfl,rfl,w,P,Q,R,A⟩
      ·refine Zl rfl a (Zl rfl a (Zl rfl a (Zl rfl a (Zl rfl a (Zc (ZaI (v:=.b t) rfl a (Eq.trans (b:=V.b false) rfl (congrArg V.b (Option.some.inj hp)))) (Zj ?_))))))
       exact ⟨rfl,rfl,s,O,rfl,rfl,w,P,Q,R,A⟩
     rintro _ _ ⟨rfl,aF,ac,D,aE,q,ad,F,H,ae,I⟩
     refine Ze (zu hp aF (fun ax hp=>?_) (fun ax hp=>?_))
     ·refine Zg (Zb _ I (Zb _ q (Zb _ F (Zb _ q (Zb _ H (Zb _ q (Zb _ D (Zb _ aE (ckk hp fun aa hp=>Zc (ZP (g.sl 3 rfl) rfl rfl aa) (zQ (g.ste (y:=true) 3 rfl rfl (Zf aa) rfl rfl ⟨rfl,Nat.le_of_ble_eq_true rfl,rfl⟩ rfl) ?_))))))))))
      rintro _ _ ⟨rfl,_,_,af⟩
      refine ckk hp fun ab hp=>Zc (ZP (af.sl 0 rfl) rfl rfl ab) (zQ (af.ste (y:=(gi l (0:Int).toNat)) 0 rfl rfl (Zf ab) rfl rfl ⟨rfl,Nat.le_of_ble_eq_true rfl,rfl⟩ rfl) ?_)
      rintro _ _ ⟨rfl,_,_,ag⟩
      refine ckk hp fun S hp=>Zc (ZP (ag.sl 1 rfl) rfl rfl S) (zQ (ag.ste (y:=x2) 1 rfl rfl (Zf S) rfl rfl ⟨rfl,Nat.le_of_ble_eq_true rfl,rfl⟩ rfl) ?_)
      rintro _ _ ⟨rfl,_,_,ah⟩
      refine Ze (Zaf (Zb _ ae (Zb _ q (zQ (ah.bsl (E:=Zad) (l:=[((gi cells (gi l (0:Int).toNat:Int).toNat).Next).get x2]) ah.fr (by rw [(zf (v:=.n (((gi cells (gi l (0:Int).toNat:Int).toNat).Next).get x2)) rfl Zbb)];rfl) rfl) ?_))))
      rintro a0 aP ⟨_,_,K⟩
      refine ckk hp fun az hp=>zQ (K.app (bytes:=8) 2 K.fr rfl (K.sl 4 rfl:Sl Zad aP a0 [((gi cells (gi l (0:Int).toNat:Int).toNat).Next).get x2]) rfl rfl (fun _=>rfl) az (by decide)) ?_
      rintro aq _ ⟨_,aI⟩
      refine Zb aq rfl (Zj (Zam (Zt (Zaf (ckk hp fun aA hp=>Zc (ZV ad rfl aA) (Zb (.n (x2+1)) rfl (Zj ?_)))))))
      cases hp
      exact ⟨rfl,aq,ac,F,H,rfl,I,D,rfl,(aI.pk [0,1,2,3])⟩
     ·refine ZcB (Zam (Zt (Zaf (ckk hp fun aB hp=>Zc (ZV ad rfl aB) (Zb (.n (x2+1)) rfl (Zj ?_))))))
      cases hp
      exact ⟨rfl,m,ac,F,H,ae,I,D,rfl,(g.pk [0,1,2,3])⟩
    ·refine Zb8 (zW ?_)
     cases hp
     exact ⟨nofun,rfl,m,s,P,Q,R,A,(g.pk [0,1,2,3])⟩
   rintro ⟨from_3,dir3,l2,met2⟩ hp _ _ _ ⟨rfl,C,aV,aW,aX,aY,aZ,aG⟩
   refine Za9 (Zam ?_)
   cases hp
   exact ⟨rfl,C,aV,aW,aX,aY,aZ,(aG.pk [0,1,2,3])⟩
  ·refine Zb8 (zW ?_)
   cases hp
   exact ⟨nofun,rfl,an,ao,(j.pk [0,1])⟩
 rintro ⟨from_1,dir1⟩ hp _ _ _ ⟨rfl,aR,aS,aK⟩
 refine Za9 (Zt (Zg (Zb _ aR (Zb _ aS (Zb c rfl (Zb d rfl (Ze (zK (ZN (ZY rfl (ZY rfl Z6)) ?_)))))))))
 cases hp
 exact ⟨c,d,rfl,(aK.pk [0,1])⟩

theorem Zbn.ok {h:Hp}{cells:List Za}{v_cells:V}(s_cells:Sl Zd h v_cells cells) {r:(List (List Int))×Int}(hp:Zbn cells=some r) :
  ∃ u k',Is G 29 [v_cells] h u k'∧∃ ap aw,V.tu [ap,.n r.2]=u∧Own (fun r=>r<h.n) h k' [eSl eV ap aw,Zci Zad aw r.1]:=by
 refine WC.is (ZaD Zgx ?_)
 unfold Zbn at hp
 let B:Nat→Prop:=(fun r=>r<h.n)
 have hO:Own B h h []:=Own.start0 h
 refine Zg (Zb (.sn) rfl (Zb (.n 0) rfl (Ze (Z9 (Zg (Zb v_cells rfl ?_))))))
 obtain ⟨x,⟨_,_,aJ,rfl,aU⟩,hp⟩:=bdk hp fun _=>Zau.ok (h:=h)  (hO.rd0 s_cells.rd)
 refine zU rfl rfl aJ ?_
 have w:=hO.call aU rfl
 refine Zb (.n x) rfl (Ze (Zg (Zb (.n x) rfl (Zc (Zca rfl rfl) (Ze (zu hp rfl (fun ax hp=>?_) (fun ax hp=>?_)))))))
 ·refine Zg (Zb (.n x) rfl (Zb (.sn) rfl (Zb (.n x) rfl (Ze (zK (ZI ?_))))))
  have aP:=w.nil eV
  have aQ:=aP.allNil Zad 0
  refine ZN (ZY rfl (ZY rfl Z6)) ?_
  cases hp
  exact ⟨V.sn,[],rfl,(aQ.pk [0,1])⟩
 ·refine Zak (Zg (Zb (.sn) rfl (Ze (Zg (Zb v_cells rfl (Zc (Zap (w.rd0 s_cells.rd) rfl) (ckk hp fun aC hp=>zQ (w.mks (E:=e_bool) (y:=false) (bytes:=1) (z:=(cells.length:Int)) w.fr rfl rfl rfl aC (by decide)) ?_)))))))
  rintro g _ ⟨_,_,an⟩
  refine Zb g rfl (Ze (Z9 (Zg (Zb v_cells rfl (Zc (Zap (an.rd0 s_cells.rd) rfl) (Zb (.n 0) rfl (Ze (Zai ?_))))))))
  have aS:=an.nil eV
  have aT:=aS.allNil Zad 0
  refine ZbM hp (fun|(l,met,x1),fr,k=>∃ d c,fr 0=v_cells∧fr 5=d∧fr 6=g∧fr 21=.n (cells.length:Int)∧fr 22=.n x1∧Own B h k [eSl eV d c,Zci Zad c l,eSl e_bool g met]) (fun l1 e fr k=>e=(.exit 0)∧∃ q F,fr 5=q∧Own B h k [eSl eV q F,Zci Zad F l1]) ⟨V.sn,[],rfl,rfl,rfl,rfl,rfl,(aT.pk [1,2,0])⟩ ?_ ?_
  ·rintro ⟨l,met,x1⟩ _ aX ⟨d,c,A,L,M,K,C,j⟩ _ hp
   dsimp only [Zbn.s0] at hp
   refine Zg (Zc (zA C K) (Ze (Z9 (zu hp rfl (fun ay hp=>?_) (fun ay hp=>?_)))))
   ·refine Zak (Z9 (Zai (Zg (Zb _ C (Zb (.n x1) rfl (Ze (Z9 (Zg (Zb _ M ?_)))))))))
    refine Zb (.n x1) rfl (ckk hp fun X hp=>Zc (ZP (j.sl 2 rfl) rfl rfl X) (Zc (zw (j.sl 2 rfl) rfl (Zf X) rfl) (Ze (zu hp rfl (fun az hp=>?_) (fun az hp=>?_)))))
    ·refine Zb8 (zW (Za9 (Zt (Zaf (ckk hp fun aE hp=>Zc (ZV C rfl aE) (Zb (.n (x1+1)) rfl (Zj ?_)))))))
     cases hp
     exact ⟨rfl,d,c,A,L,M,K,rfl,(j.pk [0,1,2])⟩
    ·refine Zak (Zg (Zb _ A (Zb (.n x1) rfl ?_)))
     obtain ⟨⟨x2,x3⟩,⟨_,_,aK,au,s,rfl,aV⟩,hp⟩:=bdk hp fun _=>Zbe.ok (h:=aX)  (j.rd0 s_cells.rd)
     refine zU rfl rfl aK ?_
     have ao:=j.call aV rfl
     refine Zb (.tu [au,s]) rfl (Zc (zC rfl rfl) (Zc (zC rfl rfl) (Zb au rfl (Zb s rfl (Ze (Zg (zQ (ao.bsl (E:=Zad) (l:=[]) ao.fr (by rw [Zbb];rfl) rfl) ?_)))))))
     rintro av _ ⟨_,_,al⟩
     refine Zb av rfl (Ze (Z9 (Zg (Zb _ A (Zc (Zap (al.rd0 s_cells.rd) rfl) (Zb (.n 0) rfl (Ze (Zai (ZbM hp (fun|(met1,part,x4),fr,k=>∃ m,fr 0=v_cells∧fr 5=d∧fr 6=g∧fr 7=.n x1∧fr 9=s∧fr 10=m∧fr 21=.n (cells.length:Int)∧fr 22=.n x1∧fr 37=.n (cells.length:Int)∧fr 38=.n x4∧Own B h k [eSl eV d c,Zci Zad c l,eSl e_bool g met1,eSl Zad s x3,eSl Zad m part]) (fun|(met2,part1),e,fr,k=>e=(.exit 2)∧∃ o,fr 0=v_cells∧fr 5=d∧fr 6=g∧fr 10=o∧fr 21=.n (cells.length:Int)∧fr 22=.n x1∧Own B h k [eSl eV d c,Zci Zad c l,eSl e_bool g met2,eSl Zad o part1]) ⟨av,A,L,M,rfl,rfl,rfl,K,C,rfl,rfl,(al.pk [0,1,2,4,5])⟩ ?_ ?_)))))))))
     ·rintro ⟨met1,part,x4⟩ _ aY ⟨m,N,S,T,U,W,O,P,Q,R,D,i⟩ _ hp
      dsimp only [Zbn.s1] at hp
      refine Zg (Zc (zA D R) (Ze (Z9 (zu hp rfl (fun aA hp=>?_) (fun aA hp=>?_)))))
      ·refine Zak (Z9 (Zai (Zg (Zb _ D (Zb (.n x4) rfl (Ze (Zg (Zb (.n x4) rfl (Zb _ U ?_)))))))))
       refine Zc (Zb7 rfl rfl) (Zb (.b (decide (x4=x1))) rfl ?_)
       obtain ⟨t,aW,hp⟩:=ZaP hp
       refine zN 6 (fun f k=>aY=k∧f 50=.b t∧f 0=v_cells∧f 10=m∧f 11=.n x4∧f 21=.n (cells.length:Int)∧f 22=.n x1∧f 37=.n (cells.length:Int)∧f 38=.n x4∧f 5=d∧f 6=g∧f 7=.n x1∧f 9=s) ?_ ?_
       ·clear hp;rcases Zbi aW with ⟨a,hp⟩|⟨a,hp⟩
        ·refine Zl rfl a (Zl rfl a (Zl rfl a (Zl rfl a (Zl rfl a (Zc (ZaT (v:=.b t) rfl a (Eq.trans (b:=V.b true) rfl (congrArg V.b (Option.some.inj hp)))) (Zj ?_))))))
         exact ⟨rfl,rfl,N,O,rfl,P,Q,R,D,S,T,U,W⟩
        ·refine Zq rfl a (Zb _ W (Zq rfl a (Zb (.n x4) rfl (Zq rfl a (ckk hp fun Y hp=>Zc (ZP (i.sl 3 rfl) rfl rfl Y) (Zq rfl a (Zc (zw (i.sl 3 rfl) rfl (Zf Y) rfl) (Zq rfl a (Zc (Zda rfl rfl) (Zc (ZaI (v:=.b t) rfl a (Eq.trans (b:=V.b (decide (0≤(gi x3 x4.toNat)))) rfl (congrArg V.b (Option.some.inj hp)))) (Zj ?_)))))))))))
         exact ⟨rfl,rfl,N,O,rfl,P,Q,R,D,S,T,U,W⟩
       rintro _ _ ⟨rfl,aL,ab,ac,ad,ae,af,ag,ah,ai,H,aj,ak⟩
       refine Ze (zu hp aL (fun aB hp=>?_) (fun aB hp=>?_))
       ·refine Zg (Zb _ H (Zb _ ad (ckk hp fun aa hp=>Zc (ZP (i.sl 2 rfl) rfl rfl aa) (zQ (i.ste (y:=true) 2 rfl rfl (Zf aa) rfl rfl ⟨rfl,Nat.le_of_ble_eq_true rfl,rfl⟩ rfl) ?_))))
        rintro _ _ ⟨rfl,_,_,am⟩
        refine Ze (Zaf (Zb _ ac (Zb _ ad (zQ (am.bsl (E:=Zad) (l:=[x4]) am.fr (by rw [(zf (v:=.n x4) rfl Zbb)];rfl) rfl) ?_))))
        rintro _ _ ⟨_,_,J⟩
        refine ckk hp fun aF hp=>zQ (J.app (bytes:=8) 4 J.fr rfl (J.sl 5 rfl) rfl rfl (fun _=>rfl) aF (by decide)) ?_
        rintro aq _ ⟨_,aM⟩
        refine Zb aq rfl (Zj (Zam (Zt (Zaf (ckk hp fun aG hp=>Zc (ZV ah rfl aG) (Zb (.n (x4+1)) rfl (Zj ?_)))))))
        cases hp
        exact ⟨rfl,aq,ab,ai,H,aj,ak,rfl,ae,af,ag,rfl,(aM.pk [0,1,2,3,4])⟩
       ·refine ZcB (Zam (Zt (Zaf (ckk hp fun aH hp=>Zc (ZV ah rfl aH) (Zb (.n (x4+1)) rfl (Zj ?_))))))
        cases hp
        exact ⟨rfl,m,ab,ai,H,aj,ak,ac,ae,af,ag,rfl,(i.pk [0,1,2,3,4])⟩
      ·refine Zb8 (zW ?_)
       cases hp
       exact ⟨nofun,rfl,m,N,S,T,O,P,Q,(i.pk [0,1,2,4])⟩
     rintro ⟨met2,part1⟩ hp _ _ _ ⟨rfl,o,a0,a4,a5,a1,a2,a3,I⟩
     refine Za9 (Zt (Zaf (Zb _ a4 (Zb _ a1 (zQ (I.bsl (E:=eV) (l:=[o]) I.fr (by rw [(zf (v:=o) rfl Zbb)];simp only [fill,(I.sl 3 rfl).cells];simp [over]) rfl) ?_)))))
     rintro _ _ ⟨_,_,p⟩
     refine ckk hp fun aI hp=>zQ (p.appV (bytes:=24) 0 p.fr rfl (p.sl 4 rfl) rfl rfl (by simp only [List.all_cons,List.all_nil,Bool.and_true];exact (p.sl 3 rfl).oneV) (by rw [(p.allLen 1 rfl:(c).length=(l).length)];exact aI) (by decide)) ?_
     rintro ar _ ⟨_,aN⟩
     have aO:=aN.absorb 1 3 rfl rfl (by decide)
     refine Zb ar rfl (Zj (Zam (Zt (Zaf (ckk hp fun aD hp=>Zc (ZV a3 rfl aD) (Zb (.n (x1+1)) rfl (Zj ?_)))))))
     cases hp
     exact ⟨rfl,ar,c++[o],a0,rfl,a5,a2,rfl,(aO.pk [0,1,2])⟩
   ·refine Zb8 (zW ?_)
    cases hp
    exact ⟨nofun,rfl,d,c,L,(j.pk [0,1])⟩
  rintro l1 hp _ _ _ ⟨rfl,q,F,aZ,aR⟩
  refine Za9 (Zt (Zg (Zb _ aZ (Zb q rfl (Zb (.n 0) rfl (Ze (zK (ZN (ZY rfl (ZY rfl Z6)) ?_))))))))
  cases hp
  exact ⟨q,F,rfl,(aR.pk [0,1])⟩

theorem Zdp.ok {h:Hp}{cells:List Za}{v_cells:V}(s_cells:Sl Zd h v_cells cells) {r:Bool}(hp:Zdp cells=some r) :
  ∃ u k',Is G 32 [v_cells] h u k'∧V.b r=u∧Own (fun r=>r<h.n) h k' []:=by
 refine WC.is (ZaD Zgy ?_)
 unfold Zdp at hp
 let B:Nat→Prop:=(fun r=>r<h.n)
 have hO:Own B h h []:=Own.start0 h
 refine Zg (Zb (.b false) rfl (Ze (Zg (Zb v_cells rfl ?_))))
 obtain ⟨⟨x,x1⟩,⟨_,j,e,d,l,rfl,i⟩,hp⟩:=bdk hp fun _=>Zbn.ok (h:=h)  (hO.rd0 s_cells.rd)
 refine zU rfl rfl e ?_
 have c:=hO.call i rfl
 refine Zb (.tu [d,.n x1]) rfl (Zc (zC rfl rfl) (Zc (zC rfl rfl) (Zb d rfl (Zb (.n x1) rfl (Ze (Zg (Zb (.n x1) rfl (Zc (Zb7 rfl rfl) (Zb (.b (decide (x1=0))) rfl (zN 4 (fun f k=>j=k∧f 16=.b ((decide (x1=0))&&(decide ((x.length:Int)=1)))) ?_ ?_))))))))))
 ·rcases bc (decide (x1=0)) with a|a
  ·refine Zq rfl a (Zb d rfl (Zq rfl a (Zc (Zh8 (n:=(x).length) (c.sl 0 rfl) (c.allLen 1 rfl:(l).length=(x).length) rfl) (Zq rfl a (Zc (Zb7 rfl rfl) (Zc (ZcU rfl a rfl) (Zj ?_)))))))
   exact ⟨rfl,rfl⟩
  ·refine Zl rfl a (Zl rfl a (Zl rfl a (Zc (ZcT (w:=(decide (x1=0))&&(decide ((x.length:Int)=1))) rfl a rfl) (Zj ?_))))
   exact ⟨rfl,rfl⟩
 rintro _ _ ⟨rfl,g⟩
 refine Zb _ g (Ze (zK (ZN (ZY rfl Z6) ?_)))
 cases hp
 exact ⟨rfl,(c.pk [])⟩

theorem ZbN.ok {h:Hp}{d:Z5}{cells:List Za}{v_cells:V}(s_cells:Sl Zd h v_cells cells) {r:Bool}(hp:ZbN d cells=some r) :
  ∃ u k',Is G 220 [.ag (Zn.c d),v_cells] h u k'∧V.b r=u∧Own (fun r=>r<h.n) h k' []:=by
 refine WC.is (ZaD ZfG ?_)
 unfold ZbN at hp
 let B:Nat→Prop:=(fun r=>r<h.n)
 have hO:Own B h h []:=Own.start0 h
 refine Zg (zQ (hO.boxd (cs:=Zn.c d) hO.fr rfl rfl) ?_)
 rintro _ t ⟨j,rfl,_,_,p⟩
 refine Zb (.b false) rfl (Ze (Z9 (Zgp ?_)))
 have i:=p.bump 28
 refine z8 (Zal (r:=j) (o:=0) rfl rfl) (z8 (zy (i.box 0 rfl) rfl rfl) (z8 (Zda rfl rfl) (Zbl (.b (decide (0≤d.Cell))) rfl ?_)))
 refine ifk hp (fun e hp=>?_) (fun e hp=>?_)
 ·refine ZcS rfl e (z8 (Zal (r:=j) (o:=0) rfl rfl) (ZcS rfl e (z8 (zy (i.box 0 rfl) rfl rfl) (ZcS rfl e (Zbl v_cells rfl (ZcS rfl e (z8 (Zap (i.rd0 s_cells.rd) rfl) (ZcS rfl e (z8 (zA rfl rfl) (z8 (ZaT (v:=.b (decide (d.Cell<(cells.length:Int)))) rfl e rfl) (Zbl (.b (decide (d.Cell<(cells.length:Int)))) rfl ?_)))))))))))
  refine ifk hp (fun f hp=>?_) (fun f hp=>?_)
  ·refine ZcS rfl f (z8 (Zal (r:=j) (o:=0) rfl rfl) (ZcS rfl f (z8 (zy (i.box 0 rfl) rfl rfl) (ZcS rfl f ?_))))
   obtain ⟨x,⟨_,_,m,rfl,s⟩,hp⟩:=bdk hp fun _=>Zbv.ok (h:=(t.bump 28))  
   refine ZiM rfl rfl m ?_
   have g:=i.call s rfl
   refine z8 (ZaT (v:=.b x) rfl f rfl) (Zbl (.b x) rfl ?_)
   refine ifk hp (fun a hp=>?_) (fun a hp=>?_)
   ·refine ZcS rfl a (Zbl v_cells rfl (ZcS rfl a (z8 (Zal (r:=j) (o:=0) rfl rfl) (ZcS rfl a (z8 (zy (g.box 0 rfl) rfl rfl) (ZcS rfl a (z8 (Zal (r:=j) (o:=0) rfl rfl) (ZcS rfl a (z8 (zy (g.box 0 rfl) rfl rfl) (ZcS rfl a (ckk hp fun k hp=>z8 (ZP (g.rd0 s_cells.rd) rfl rfl k) (ZcS rfl a ?_))))))))))))
    refine z8 (ZaR (g.rd0 s_cells.rd) (Zf k) rfl rfl) (ZcS rfl a (ckk hp fun l hp=>z8 (Zbd (g.rd0 s_cells.rd) (Zf k) rfl rfl l rfl) (ZcS rfl a (z8 (zw (g.rd0 s_cells.rd) rfl (Zf k) (zL l)) (ZcS rfl a (z8 (Zda rfl rfl) (z8 (ZaT (v:=.b (decide (0≤(((gi cells (d.Cell:Int).toNat).Next).get d.Dir)))) rfl a rfl) (Zbl (.b (decide (0≤(((gi cells (d.Cell:Int).toNat).Next).get d.Dir)))) rfl (ZcW ?_)))))))))
    refine And.intro ?_ ?_
    ·intro q hq
     simp only [List.mem_cons,List.not_mem_nil,or_false] at hq
     rcases hq with rfl
     ·refine ZaX ?_ ?_
      ·exact (fun h=>nomatch h)
      ·exact (fun h=>nomatch h)
    refine Zt (zK (ZN (ZY rfl Z6) ?_))
    cases hp
    exact ⟨rfl,(g.pk [])⟩
   ·refine ZaY rfl a (ZaY rfl a (ZaY rfl a (ZaY rfl a (ZaY rfl a (ZaY rfl a (ZaY rfl a (ZaY rfl a (ZaY rfl a (ZaY rfl a (z8 (ZaI (v:=.b false) rfl a rfl) (Zbl (.b false) rfl (ZcW ?_))))))))))))
    refine And.intro ?_ ?_
    ·intro q hq
     simp only [List.mem_cons,List.not_mem_nil,or_false] at hq
     rcases hq with rfl
     ·exact ZlD
    refine Zt (zK (ZN (ZY rfl Z6) ?_))
    cases hp
    exact ⟨rfl,(g.pk [])⟩
  ·refine ZaY rfl f (ZaY rfl f (ZaY rfl f (z8 (ZaI (v:=.b false) rfl f rfl) (Zbl (.b false) rfl (ZaY rfl rfl (ZaY rfl rfl (ZaY rfl rfl (ZaY rfl rfl (ZaY rfl rfl (ZaY rfl rfl (ZaY rfl rfl (ZaY rfl rfl (ZaY rfl rfl ?_)))))))))))))
   refine ZaY rfl rfl (z8 (ZaI (v:=.b false) rfl rfl rfl) (Zbl (.b false) rfl (ZcW ?_)))
   refine And.intro ?_ ?_
   ·intro q hq
    simp only [List.mem_cons,List.not_mem_nil,or_false] at hq
    rcases hq with rfl
    ·exact ZlD
   refine Zt (zK (ZN (ZY rfl Z6) ?_))
   cases hp
   exact ⟨rfl,(i.pk [])⟩
 ·refine ZaY rfl e (ZaY rfl e (ZaY rfl e (ZaY rfl e (ZaY rfl e (z8 (ZaI (v:=.b false) rfl e rfl) (Zbl (.b false) rfl (ZaY rfl rfl (ZaY rfl rfl (ZaY rfl rfl (z8 (ZaI (v:=.b false) rfl rfl rfl) (Zbl (.b false) rfl (ZaY rfl rfl (ZaY rfl rfl ?_)))))))))))))
  refine ZaY rfl rfl (ZaY rfl rfl (ZaY rfl rfl (ZaY rfl rfl (ZaY rfl rfl (ZaY rfl rfl (ZaY rfl rfl (ZaY rfl rfl (z8 (ZaI (v:=.b false) rfl rfl rfl) (Zbl (.b false) rfl (ZcW ?_))))))))))
  refine And.intro ?_ ?_
  ·intro q hq
   simp only [List.mem_cons,List.not_mem_nil,or_false] at hq
   rcases hq with rfl
   ·exact ZlD
  refine Zt (zK (ZN (ZY rfl Z6) ?_))
  cases hp
  exact ⟨rfl,(i.pk [])⟩

theorem ZaB.ok {h:Hp}{d:Z5}{cells:List Za}{v_cells:V}(s_cells:Sl Zd h v_cells cells) {r:Z5}(hp:ZaB d cells=some r) :
  ∃ u k',Is G 221 [.ag (Zn.c d),v_cells] h u k'∧V.ag (Zn.c r)=u∧Own (fun r=>r<h.n) h k' []:=by
 refine WC.is (ZaD Ze9 ?_)
 unfold ZaB at hp
 let B:Nat→Prop:=(fun r=>r<h.n)
 have hO:Own B h h []:=Own.start0 h
 refine Zg (zQ (hO.boxd (cs:=Zn.c d) hO.fr rfl rfl) ?_)
 rintro _ _ ⟨b,rfl,_,_,D⟩
 refine zQ (D.alloc (cs:=Zn.c (⟨0,0⟩:Z5)) D.fr) ?_
 rintro _ _ ⟨f,rfl,_,_,Q⟩
 refine Ze (Z9 (Zhl ?_))
 have a:=Q.bump 10
 refine ZaK v_cells rfl (za rfl (Zal (r:=b) (o:=0) rfl rfl) (za rfl (zy (a.box 0 rfl) rfl rfl) (za rfl (Zal (r:=b) (o:=0) rfl rfl) (za rfl (zy (a.box 0 rfl) rfl rfl) (ckk hp fun i hp=>za rfl (ZP (a.rd0 s_cells.rd) rfl rfl i) (za rfl (ZaR (a.rd0 s_cells.rd) (Zf i) rfl rfl) (ckk hp fun y hp=>za rfl (Zbd (a.rd0 s_cells.rd) (Zf i) rfl rfl y rfl) (za rfl (zw (a.rd0 s_cells.rd) rfl (Zf i) (zL y)) (ZaK (.n (((gi cells (d.Cell:Int).toNat).Next).get d.Dir)) rfl (Zba (Zt ?_)))))))))))
 refine Z9 (Zg (Zc (Zdy (cs:=Zdi.c (⟨1,0,(-1),2⟩:A4 Int)) (by rw [(zf (v:=.n 1) rfl (zf (v:=.n 0) rfl (zf (v:=.n (-1)) rfl (zf (v:=.n 2) rfl Zbb))))];rfl)) (Zb (.n 0) rfl (Ze (Zai (ZbM hp (fun x fr k=>fr 1=v_cells∧fr 2=.p b 0∧fr 4=.p f 0∧fr 5=.n (((gi cells (d.Cell:Int).toNat).Next).get d.Dir)∧fr 18=.ag (Zdi.c (⟨1,0,(-1),2⟩:A4 Int))∧fr 19=.n x∧Own B h k [zO b (Zn.c d),zO f (Zn.c (⟨0,0⟩:Z5))]) (fun|.inl _,e,fr,k=>e=(.exit 0)∧fr 2=.p b 0∧fr 4=.p f 0∧Own B h k [zO b (Zn.c d),zO f (Zn.c (⟨0,0⟩:Z5))]|.inr x1,e,fr,k=>e=.ret∧fr 4=.p f 0∧Own B h k [zO f (Zn.c x1)]) ⟨rfl,rfl,rfl,rfl,rfl,rfl,(a.pk [0,1])⟩ ?_ ?_))))))
 ·rintro x _ U ⟨H,w,l,J,I,t,m⟩ _ hp
  dsimp only [ZaB.s0] at hp
  refine Zg (Zc (zA t rfl) (Ze (Z9 (zu hp rfl (fun K hp=>?_) (fun K hp=>?_)))))
  ·refine Zak (Z9 (Zai (Zg (ckk hp fun A hp=>Zc (ZqA (cs:=Zdi.c (⟨1,0,(-1),2⟩:A4 Int)) (z:=x) (v:=.n ((⟨1,0,(-1),2⟩:A4 Int).get x)) I t A (Zjg A)) (Zb (.n ((⟨1,0,(-1),2⟩:A4 Int).get x)) rfl (Ze (Zg (Zb _ J ?_))))))))
   refine Zc (Zal (r:=b) (o:=0) w rfl) (Zc (zy (m.box 0 rfl) rfl rfl) (Zb (.n ((⟨1,0,(-1),2⟩:A4 Int).get x)) rfl ?_))
   obtain ⟨x2,⟨_,_,N,rfl,S⟩,hp⟩:=bdk hp fun _=>Zbw.ok (h:=U)  
   refine zU rfl rfl N ?_
   have F:=m.call S rfl
   refine Zc (Zdy (cs:=Zn.c (⟨((gi cells (d.Cell:Int).toNat).Next).get d.Dir,x2⟩:Z5)) (by rw [(zf (v:=.n (((gi cells (d.Cell:Int).toNat).Next).get d.Dir)) rfl (zf (v:=.n x2) rfl Zbb))];rfl)) (zQ (F.alloc (cs:=Zn.c (⟨0,0⟩:Z5)) F.fr) ?_)
   rintro _ _ ⟨_,rfl,_,_,R⟩
   refine zQ (R.stb (cs':=Zn.c (⟨((gi cells (d.Cell:Int).toNat).Next).get d.Dir,x2⟩:Z5)) 2 rfl rfl rfl rfl ⟨rfl,Nat.le_of_ble_eq_true rfl,rfl⟩ rfl) ?_
   rintro _ W ⟨rfl,_,_,q⟩
   refine Ze (Zg (Zc (ZbI (q.box 2 rfl) rfl rfl) (Zb _ H ?_)))
   obtain ⟨x3,⟨_,_,O,rfl,T⟩,hp⟩:=bdk hp fun _=>ZbN.ok (h:=W)  (q.rd0 s_cells.rd)
   refine zU rfl rfl O ?_
   have s:=q.call T rfl
   refine Ze (zu hp rfl (fun L hp=>?_) (fun L hp=>?_))
   ·refine Zg (Zc (ZbI (s.box 2 rfl) rfl rfl) (zQ (s.stb (cs':=Zn.c (⟨((gi cells (d.Cell:Int).toNat).Next).get d.Dir,x2⟩:Z5)) 1 rfl l rfl rfl ⟨rfl,Nat.le_of_ble_eq_true rfl,rfl⟩ rfl) ?_))
    rintro _ _ ⟨rfl,_,_,P⟩
    refine Ze (zK (ZaZ (ZI ?_)))
    cases hp
    exact ⟨nofun,rfl,l,(P.pk [1])⟩
   ·refine ZcB (Zam (Zt (Zaf (ckk hp fun M hp=>Zc (ZV t rfl M) (Zb (.n (x+1)) rfl (Zj ?_))))))
    cases hp
    exact ⟨rfl,H,w,l,J,I,rfl,(s.pk [0,1])⟩
  ·refine Zb8 (zW ?_)
   cases hp
   exact ⟨nofun,rfl,w,l,(m.pk [0,1])⟩
 rintro (_|x1) hp _ _ _ C
 ·obtain ⟨rfl,X,j,g⟩:=C
  refine Za9 (Zt (Zg (Zc (ZbI (g.box 0 rfl) X rfl) (zQ (g.stb (cs':=Zn.c d) 1 rfl j rfl rfl ⟨rfl,Nat.le_of_ble_eq_true rfl,rfl⟩ rfl) ?_))))
  rintro _ _ ⟨rfl,_,_,E⟩
  refine Ze (zK (ZN (ZiR j (E.box 1 rfl) rfl Z6) ?_))
  cases hp
  exact ⟨rfl,(E.pk [])⟩
 ·obtain ⟨rfl,j,g⟩:=C
  refine ZaZ (ZI (ZN (ZiR j (g.box 0 rfl) rfl Z6) ?_))
  cases hp
  exact ⟨rfl,(g.pk [])⟩

theorem Zan.ok {h:Hp}{cells:List Za}{v_cells:V}(s_cells:Sl Zd h v_cells cells) {r:(List (List Z5))×Int}(hp:Zan cells=some r) :
  ∃ u k',Is G 203 [v_cells] h u k'∧∃ az aC,V.tu [az,.n r.2]=u∧Own (fun r=>r<h.n) h k' [eSl eV az aC,Zci Zn aC r.1]:=by
 refine WC.is (ZaD Zgs ?_)
 unfold Zan at hp
 let B:Nat→Prop:=(fun r=>r<h.n)
 have hO:Own B h h []:=Own.start0 h
 refine Zg (Zb (.sn) rfl (Zb (.n 0) rfl (Ze (Z9 (Zg (Zb v_cells rfl ?_))))))
 obtain ⟨x,⟨_,_,aN,rfl,a7⟩,hp⟩:=bdk hp fun _=>Zau.ok (h:=h)  (hO.rd0 s_cells.rd)
 refine zU rfl rfl aN ?_
 have O:=hO.call a7 rfl
 refine Zb (.n x) rfl (Ze (Zg (Zb (.n x) rfl (Zc (Zca rfl rfl) (Ze (zu hp rfl (fun aD hp=>?_) (fun aD hp=>?_)))))))
 ·refine Zg (Zb (.n x) rfl (Zb (.sn) rfl (Zb (.n x) rfl (Ze (zK (ZI ?_))))))
  have aW:=O.nil eV
  have a2:=aW.allNil Zn 0
  refine ZN (ZY rfl (ZY rfl Z6)) ?_
  cases hp
  exact ⟨V.sn,[],rfl,(a2.pk [0,1])⟩
 ·refine Zak (Zg (Zb (.sn) rfl (Ze (Zg (zQ (O.mkm Zn O.fr) ?_)))))
  rintro _ _ ⟨a,rfl,_,_,an⟩
  refine Zb (.mp a) rfl (Ze (Z9 (Zg (Zb v_cells rfl (Zc (Zap (an.rd0 s_cells.rd) rfl) (Zb (.n 0) rfl (Ze (Zai ?_))))))))
  have a4:=an.nil eV
  have a5:=a4.allNil Zn 0
  refine ZbM hp (fun|(l,met,x1),fr,k=>∃ y C,fr 0=v_cells∧fr 5=y∧fr 6=.mp a∧fr 19=.n (cells.length:Int)∧fr 20=.n x1∧Own B h k [eSl eV y C,Zci Zn C l,eMp Zn a met]) (fun l1 e fr k=>e=(.exit 0)∧∃ A M,fr 5=A∧Own B h k [eSl eV A M,Zci Zn M l1]) ⟨V.sn,[],rfl,rfl,rfl,rfl,rfl,(a5.pk [1,2,0])⟩ ?_ ?_
  ·rintro ⟨l,met,x1⟩ _ _ ⟨y,C,bf,aq,bg,ap,X,ao⟩ _ hp
   dsimp only [Zan.s0] at hp
   refine Zg (Zc (zA X ap) (Ze (Z9 (zu hp rfl (fun aE hp=>?_) (fun aE hp=>?_)))))
   ·refine Zak (Z9 (Zai (Zg (Zb _ X (Zb (.n x1) rfl (Ze (Zg (Zb (.n 0) rfl (Zj ?_)))))))))
    refine Zt (Zai (ZbM hp (fun|(l2,met1,x2),fr,k=>∃ g d,fr 0=v_cells∧fr 5=g∧fr 6=.mp a∧fr 7=.n x1∧fr 19=.n (cells.length:Int)∧fr 20=.n x1∧fr 23=.n x2∧Own B h k [eSl eV g d,Zci Zn d l2,eMp Zn a met1]) (fun|(l3,met2),e,fr,k=>e=(.exit 2)∧∃ K N,fr 0=v_cells∧fr 5=K∧fr 6=.mp a∧fr 19=.n (cells.length:Int)∧fr 20=.n x1∧Own B h k [eSl eV K N,Zci Zn N l3,eMp Zn a met2]) ⟨y,C,bf,aq,bg,rfl,ap,X,rfl,(ao.pk [0,1,2])⟩ ?_ ?_))
    ·rintro ⟨l2,met1,x2⟩ _ _ ⟨g,d,D,ab,H,ac,Y,aa,F,P⟩ _ hp
     dsimp only [Zan.s1] at hp
     refine Zg (Zc (zA F rfl) (Ze (Z9 (zu hp rfl (fun aF hp=>?_) (fun aF hp=>?_)))))
     ·refine Zak (Z9 (Zai (Zg (Zb _ F (Zb (.n x2) rfl (Ze (Zg (Zb _ ac (Zb (.n x2) rfl ?_)))))))))
      refine Zc (Zdy (cs:=Zn.c (⟨x1,x2⟩:Z5)) (by rw [(zf (v:=.n x1) rfl (zf (v:=.n x2) rfl Zbb))];rfl)) (zQ (P.alloc (cs:=Zn.c (⟨0,0⟩:Z5)) P.fr) ?_)
      rintro _ _ ⟨bu,rfl,_,_,aS⟩
      refine zQ (aS.stb (cs':=Zn.c (⟨x1,x2⟩:Z5)) 3 rfl rfl rfl rfl ⟨rfl,Nat.le_of_ble_eq_true rfl,rfl⟩ rfl) ?_
      rintro _ bb ⟨rfl,_,_,Q⟩
      refine Ze (Z9 (Zg (Zc (ZbI (Q.box 3 rfl) rfl rfl) (Zb _ D ?_))))
      obtain ⟨x3,⟨_,bd,aO,rfl,a8⟩,hp⟩:=bdk hp fun _=>ZbN.ok (h:=bb)  (Q.rd0 s_cells.rd)
      refine zU rfl rfl aO ?_
      have j:=Q.call a8 rfl
      refine Zc (ZcJ rfl) (Zb (.b (!x3)) rfl (zN 4 (fun f k=>bd=k∧f 37=.b ((!x3)||(Zgo false (⟨x1,x2⟩:Z5) met1))∧f 0=v_cells∧f 19=.n (cells.length:Int)∧f 20=.n x1∧f 23=.n x2∧f 5=g∧f 6=.mp a∧f 7=.n x1∧f 9=.p bu 0) ?_ ?_))
      ·rcases bc (!x3) with i|i
       ·refine Zl rfl i (Zl rfl i (Zl rfl i (Zc (Zct (w:=(!x3)||(Zgo false (⟨x1,x2⟩:Z5) met1)) rfl i rfl) (Zj ?_))))
        exact ⟨rfl,rfl,D,Y,aa,F,ab,H,ac,rfl⟩
       ·refine Zq rfl i (Zb _ H (Zq rfl i (Zc (ZbI (j.box 3 rfl) rfl rfl) (Zq rfl i (Zc (ZoO (E:=Zn) (m:=met1) (q:=(⟨x1,x2⟩:Z5)) (j.mpP 2 rfl) rfl rfl (Mu.Zn.same)) (Zc (Zcu rfl i rfl) (Zj ?_)))))))
        exact ⟨rfl,rfl,D,Y,aa,F,ab,H,ac,rfl⟩
      rintro _ _ ⟨rfl,aQ,af,ah,ai,aj,ak,al,am,aR⟩
      refine Ze (zu hp aQ (fun aG hp=>?_) (fun aG hp=>?_))
      ·refine Zb8 (zW (Za9 (Zt (Zaf (ckk hp fun aI hp=>Zc (ZV aj rfl aI) (Zb (.n (x2+1)) rfl (Zj ?_)))))))
       cases hp
       exact ⟨rfl,g,d,af,ak,al,am,ah,ai,rfl,(j.pk [0,1,2])⟩
      ·refine Zak (Zg (Zb (.sn) rfl (Ze (Z9 (Zg (Zc (ZbI (j.box 3 rfl) aR rfl) (zQ (j.alloc (cs:=Zn.c (⟨0,0⟩:Z5)) j.fr) ?_)))))))
       rintro _ _ ⟨bv,rfl,_,_,aT⟩
       refine zQ (aT.stb (cs':=Zn.c (⟨x1,x2⟩:Z5)) 4 rfl rfl rfl rfl ⟨rfl,Nat.le_of_ble_eq_true rfl,rfl⟩ rfl) ?_
       rintro _ _ ⟨rfl,_,_,aU⟩
       refine Ze (Zai ?_)
       have aV:=aU.nil Zn
       refine ZbM hp (fun|(met3,f,x4),fr,k=>∃ L ae,fr 0=v_cells∧fr 5=g∧fr 6=.mp a∧fr 7=.n x1∧fr 10=L∧fr 11=.p ae 0∧fr 19=.n (cells.length:Int)∧fr 20=.n x1∧fr 23=.n x2∧Own B h k [eSl eV g d,Zci Zn d l2,eMp Zn a met3,eSl Zn L f,zO ae (Zn.c x4)]) (fun|(met4,f1),e,fr,k=>e=(.exit 4)∧∃ o,fr 0=v_cells∧fr 5=g∧fr 6=.mp a∧fr 7=.n x1∧fr 10=o∧fr 19=.n (cells.length:Int)∧fr 20=.n x1∧fr 23=.n x2∧Own B h k [eSl eV g d,Zci Zn d l2,eMp Zn a met4,eSl Zn o f1]) ⟨V.sn,bv,af,ak,al,am,rfl,rfl,ah,ai,aj,(aV.pk [0,1,2,5,4])⟩ ?_ ?_
       ·rintro ⟨met3,f,x4⟩ _ _ ⟨L,ae,ad,ax,J,ay,ar,I,au,av,aw,s⟩ _ hp
        dsimp only [Zan.s2] at hp
        refine Z9 (Zg (Zb _ J (Zc (ZbI (s.box 4 rfl) I rfl) (Zc (ZoO (E:=Zn) (m:=met3) (q:=x4) (s.mpP 2 rfl) rfl rfl (Mu.Zn.same)) (Zc (ZcJ rfl) (Ze (zu hp rfl (fun aH hp=>?_) (fun aH hp=>?_))))))))
        ·refine Zak (Z9 (Zai (Zg (Zb _ J (Zc (ZbI (s.box 4 rfl) I rfl) (zQ (s.mup (E:=Zn) (m:=met3) (q:=x4) (v:=true) 2 rfl rfl rfl rfl (Mu.Zn.same)) ?_))))))
         rintro _ _ ⟨rfl,_,_,S⟩
         refine Ze (Zaf (Zb _ ar (Zc (ZbI (S.box 4 rfl) I rfl) (zQ (S.bsl (E:=Zn) (l:=[x4]) S.fr (by rw [(zf (v:=.ag (Zn.c x4)) rfl Zbb)];rfl) rfl) ?_))))
         rintro _ _ ⟨_,_,T⟩
         refine ckk hp fun aJ hp=>zQ (T.app (bytes:=16) 3 T.fr rfl (T.sl 5 rfl) rfl rfl (fun _=>rfl) aJ (by decide)) ?_
         rintro aB _ ⟨_,U⟩
         refine Zb aB rfl (Zj (Zam (Zt (Z9 (Zg (Zc (ZbI (U.box 4 rfl) I rfl) (Ze (Zaf (zQ (U.alloc (cs:=Zn.c (⟨0,0⟩:Z5)) U.fr) ?_)))))))))
         rintro _ _ ⟨bw,rfl,_,_,aX⟩
         refine zQ (aX.stb (cs':=Zn.c x4) 6 rfl rfl rfl rfl ⟨rfl,Nat.le_of_ble_eq_true rfl,rfl⟩ rfl) ?_
         rintro _ ba ⟨rfl,_,_,W⟩
         refine Ze (Zaf (Zc (ZbI (W.box 6 rfl) rfl rfl) (Zb _ ad ?_)))
         obtain ⟨x5,⟨_,_,aP,rfl,a9⟩,hp⟩:=bdk hp fun _=>ZaB.ok (h:=ba)  (W.rd0 s_cells.rd)
         refine zU rfl rfl aP ?_
         have aY:=W.call a9 rfl
         refine zQ (aY.stb (cs':=Zn.c x5) 6 rfl rfl rfl rfl ⟨rfl,Nat.le_of_ble_eq_true rfl,rfl⟩ rfl) ?_
         rintro _ _ ⟨rfl,_,_,aZ⟩
         refine Zj ?_
         cases hp
         exact ⟨rfl,aB,bw,ad,ax,J,ay,rfl,rfl,au,av,aw,(aZ.pk [0,1,2,3,6])⟩
        ·refine Zb8 (zW ?_)
         cases hp
         exact ⟨nofun,rfl,L,ad,ax,J,ay,ar,au,av,aw,(s.pk [0,1,2,3])⟩
       rintro ⟨met4,f1⟩ hp _ _ _ ⟨rfl,o,bm,br,bs,bt,bn,bo,bp,bq,R⟩
       refine Za9 (Zt (Zaf (Zb _ br (Zb _ bn (zQ (R.bsl (E:=eV) (l:=[o]) R.fr (by rw [(zf (v:=o) rfl Zbb)];simp only [fill,(R.sl 3 rfl).cells];simp [over]) rfl) ?_)))))
       rintro _ _ ⟨_,_,t⟩
       refine ckk hp fun aK hp=>zQ (t.appV (bytes:=24) 0 t.fr rfl (t.sl 4 rfl) rfl rfl (by simp only [List.all_cons,List.all_nil,Bool.and_true];exact (t.sl 3 rfl).oneV) (by rw [(t.allLen 1 rfl:(d).length=(l2).length)];exact aK) (by decide)) ?_
       rintro aA _ ⟨_,a0⟩
       have a1:=a0.absorb 1 3 rfl rfl (by decide)
       refine Zb aA rfl (Zj (Zam (Zt (Zaf (ckk hp fun aL hp=>Zc (ZV bq rfl aL) (Zb (.n (x2+1)) rfl (Zj ?_)))))))
       cases hp
       exact ⟨rfl,aA,d++[o],bm,rfl,bs,bt,bo,bp,rfl,(a1.pk [0,1,2])⟩
     ·refine Zb8 (zW ?_)
      cases hp
      exact ⟨nofun,rfl,g,d,D,ab,H,Y,aa,(P.pk [0,1,2])⟩
    rintro ⟨l3,met2⟩ hp _ _ _ ⟨rfl,K,N,bh,bk,bl,bi,bj,a6⟩
    refine Za9 (Zam (Zt (Zaf (ckk hp fun aM hp=>Zc (ZV bj rfl aM) (Zb (.n (x1+1)) rfl (Zj ?_))))))
    cases hp
    exact ⟨rfl,K,N,bh,bk,bl,bi,rfl,(a6.pk [0,1,2])⟩
   ·refine Zb8 (zW ?_)
    cases hp
    exact ⟨nofun,rfl,y,C,aq,(ao.pk [0,1])⟩
  rintro l1 hp _ _ _ ⟨rfl,A,M,be,a3⟩
  refine Za9 (Zt (Zg (Zb _ be (Zb A rfl (Zb (.n 0) rfl (Ze (zK (ZN (ZY rfl (ZY rfl Z6)) ?_))))))))
  cases hp
  exact ⟨A,M,rfl,(a3.pk [0,1])⟩

theorem ZcQ.ok {h:Hp}{d:Int}{e_:Int}   {r:Int}(hp:ZcQ d e_=some r) :
  ∃ u k',Is G 222 [.n d,.n e_] h u k'∧V.n r=u∧Own (fun r=>r<h.n) h k' []:=by
 refine WC.is (ZaD ZfF ?_)
 unfold ZcQ at hp
 let B:Nat→Prop:=(fun r=>r<h.n)
 have hO:Own B h h []:=Own.start0 h
 refine Zg (Zb (.n 0) rfl (Ze (Z9 (Zg (Zb (.n d) rfl ?_)))))
 obtain ⟨x,⟨_,E,o,rfl,A⟩,hp⟩:=bdk hp fun _=>Zbv.ok (h:=h)  
 refine zU rfl rfl o ?_
 have g:=hO.call A rfl
 refine Zc (ZcJ rfl) (Zb (.b (!x)) rfl ?_)
 obtain ⟨t,D,hp⟩:=ZaP hp
 refine zN 4 (fun f k=>Own B h k []∧f 12=.b t∧f 0=.n d∧f 1=.n e_) ?_ ?_
 ·clear hp;rcases Zbi D with ⟨a,hp⟩|⟨a,hp⟩
  ·refine Zl rfl a (Zl rfl a (Zl rfl a (Zc (ZaT (v:=.b t) rfl a (Eq.trans (b:=V.b true) rfl (congrArg V.b (Option.some.inj hp)))) (Zj ?_))))
   exact ⟨g.pk [],rfl,rfl,rfl⟩
  ·refine Zq rfl a (Zb (.n e_) rfl (Zq rfl a ?_))
   obtain ⟨x1,⟨_,_,p,rfl,C⟩,hp⟩:=bdk hp fun _=>Zbv.ok (h:=E)  
   refine zU rfl rfl p ?_
   have y:=g.call C rfl
   refine Zq rfl a (Zc (ZcJ rfl) (Zc (ZaI (v:=.b t) rfl a (Eq.trans (b:=V.b (!x1)) rfl (congrArg V.b (Option.some.inj hp)))) (Zj ?_)))
   exact ⟨y.pk [],rfl,rfl,rfl⟩
 rintro _ _ ⟨i,w,q,s⟩
 refine Ze (zu hp w (fun j hp=>?_) (fun j hp=>?_))
 ·refine Zg (Zb (.n 0) rfl (Ze (zK (ZI (ZN (ZY rfl Z6) ?_)))))
  cases hp
  exact ⟨rfl,(i.pk [])⟩
 ·refine Zak (Zg (Zc (Zdy (cs:=Zdi.c (⟨0,1,(-2),(-1)⟩:A4 Int)) (by rw [(zf (v:=.n 0) rfl (zf (v:=.n 1) rfl (zf (v:=.n (-2)) rfl (zf (v:=.n (-1)) rfl Zbb))))];rfl)) (Zb _ s (Zb _ q (ckk hp fun l hp=>Zc (ZoP rfl rfl l) (ckk hp fun m hp=>Zc (ZV rfl rfl m) (Zc (ZcO rfl rfl (by decide)) (ckk hp fun e hp=>Zc (ZqA (cs:=Zdi.c (⟨0,1,(-2),(-1)⟩:A4 Int)) (z:=(((e_-d)+4).tmod 4)) (v:=.n ((⟨0,1,(-2),(-1)⟩:A4 Int).get (((e_-d)+4).tmod 4))) rfl rfl e (Zjg e)) ?_))))))))
  refine Zb (.n ((⟨0,1,(-2),(-1)⟩:A4 Int).get (((e_-d)+4).tmod 4))) rfl (Ze (zK (ZN (ZY rfl Z6) ?_)))
  cases hp
  exact ⟨rfl,(i.pk [])⟩

theorem Zbm.ok {h:Hp}{cells:List Za}{f:List Z5}{v_cells:V}{v_f:V}(s_cells:Sl Zd h v_cells cells) (s_f:Sl Zn h v_f f) {r:(List Int)}(hp:Zbm cells f=some r) :
  ∃ u k',Is G 204 [v_cells,v_f] h u k'∧∃ J,J=u∧Own (fun r=>r<h.n) h k' [eSl Zad J r]:=by
 refine WC.is (ZaD Zgt ?_)
 unfold Zbm at hp
 let B:Nat→Prop:=(fun r=>r<h.n)
 have hO:Own B h h []:=Own.start0 h
 refine Zg (Zb (.sn) rfl (Ze (Zg (Zb v_f rfl (Zc (Zap (hO.rd0 s_f.rd) rfl) (ckk hp fun N hp=>zQ (hO.mks (E:=Zad) (y:=(0:Int)) (bytes:=8) (z:=(f.length:Int)) hO.fr rfl rfl rfl N (by decide)) ?_))))))
 rintro a ae ⟨_,_,D⟩
 refine Zb a rfl (Ze (Z9 (Zg (Zb v_cells rfl ?_))))
 obtain ⟨x,⟨_,_,Q,rfl,ab⟩,hp⟩:=bdk hp fun _=>Zau.ok (h:=ae)  (D.rd0 s_cells.rd)
 refine zU rfl rfl Q ?_
 have m:=D.call ab rfl
 refine Zc (Zca rfl rfl) (Ze (zu hp rfl (fun K hp=>?_) (fun K hp=>?_)))
 ·refine Zg (Zb a rfl (Zb a rfl (Ze (zK (ZI (ZN (ZY rfl Z6) ?_))))))
  cases hp
  exact ⟨a,rfl,(m.pk [0])⟩
 ·refine Zak (Z9 (Zg (Zb v_f rfl (Zc (Zap (m.rd0 s_f.rd) rfl) (Zb (.n 0) rfl (Ze (Zai (ZbM hp (fun|(l,x1),fr,k=>fr 0=v_cells∧fr 5=a∧fr 15=v_f∧fr 16=.n (f.length:Int)∧fr 17=.n x1∧Own B h k [eSl Zad a l]) (fun l1 e fr k=>e=(.exit 0)∧fr 5=a∧Own B h k [eSl Zad a l1]) ⟨rfl,rfl,rfl,rfl,rfl,(m.pk [0])⟩ ?_ ?_))))))))
  ·rintro ⟨l,x1⟩ _ _ ⟨i,j,t,w,d,b⟩ _ hp
   dsimp only [Zbm.s0] at hp
   refine Zg (Zc (zA d w) (Ze (Z9 (zu hp rfl (fun L hp=>?_) (fun L hp=>?_)))))
   ·refine Zak (Z9 (Zai (Zg (Zb _ d (ckk hp fun A hp=>Zc (ZP (b.rd0 s_f.rd) t d A) (Zc (Zfm (b.rd0 s_f.rd) rfl (Zf A)) (zQ (b.alloc (cs:=Zn.c (⟨0,0⟩:Z5)) b.fr) ?_)))))))
    rintro _ _ ⟨ai,rfl,_,_,Y⟩
    refine Zb (.n x1) rfl (zQ (Y.stb (cs':=Zn.c (gi f x1.toNat)) 1 rfl rfl rfl rfl ⟨rfl,Nat.le_of_ble_eq_true rfl,rfl⟩ rfl) ?_)
    rintro _ af ⟨rfl,_,_,p⟩
    refine Ze (Zg (Zc (ZbI (p.box 1 rfl) rfl rfl) (Zb _ i ?_)))
    obtain ⟨x2,⟨_,I,R,rfl,ac⟩,hp⟩:=bdk hp fun _=>ZbN.ok (h:=af)  (p.rd0 s_cells.rd)
    refine zU rfl rfl R ?_
    have s:=p.call ac rfl
    refine Ze (zu hp rfl (fun M hp=>?_) (fun M hp=>?_))
    ·refine Zgp ?_
     have g:=s.bump 11
     have U:=Fresh.start I 11
     refine Zbl _ j (Zbl (.n x1) rfl (z8 (Zal (r:=ai) (o:=0) rfl rfl) (z8 (zy (g.box 1 rfl) rfl rfl) (z8 (ZbI (g.box 1 rfl) rfl rfl) (Zbl _ i ?_)))))
     obtain ⟨x3,⟨_,ag,S,rfl,H⟩,hp⟩:=bdk hp fun _=>ZaB.ok (h:=(I.bump 11))  (g.rd0 s_cells.rd)
     refine ZiM rfl rfl S ?_
     have aa:=g.call H rfl
     refine z8 (Zq9 (cs:=Zn.c x3) (v:=.n x3.Dir) rfl rfl) ?_
     obtain ⟨x4,⟨_,_,T,rfl,ad⟩,hp⟩:=bdk hp fun _=>ZcQ.ok (h:=ag)  
     refine ZiM rfl rfl T ?_
     have F:=aa.call ad rfl
     refine ckk hp fun C hp=>z8 (ZP (F.sl 0 rfl) rfl rfl C) (ZeT (F.ste (y:=x4) 0 rfl rfl (Zf C) rfl rfl ⟨rfl,Nat.le_of_ble_eq_true rfl,rfl⟩ rfl) ?_)
     rintro _ _ _ ⟨rfl,_,_,W⟩
     refine ZcW ?_
     refine And.intro ?_ ?_
     ·intro q hq
      simp only [List.mem_cons,List.not_mem_nil,or_false] at hq
      rcases hq with rfl|rfl
      ·refine ZaX ?_ ?_
       ·exact (fun h=>nomatch h)
       ·exact (fun h=>nomatch h)
      ·refine ZmF rfl rfl ?_
       ·exact (fun r hm hc=>hc (H.base r (Nat.lt_of_lt_of_le (s.ltAt 1 rfl _ (tch (ZcV hm) rfl)) (Nat.le_trans (Nat.le_add_right _ _) U.n))))
     refine Zam (Zt (Zaf (ckk hp fun O hp=>Zc (ZV d rfl O) (Zb (.n (x1+1)) rfl (Zj ?_)))))
     cases hp
     exact ⟨rfl,i,j,t,w,rfl,(W.pk [0])⟩
    ·refine ZcB (Zam (Zt (Zaf (ckk hp fun P hp=>Zc (ZV d rfl P) (Zb (.n (x1+1)) rfl (Zj ?_))))))
     cases hp
     exact ⟨rfl,i,j,t,w,rfl,(s.pk [0])⟩
   ·refine Zb8 (zW ?_)
    cases hp
    exact ⟨nofun,rfl,j,(b.pk [0])⟩
  rintro l1 hp _ _ _ ⟨rfl,ah,X⟩
  refine Za9 (Zt (Zg (Zb _ ah (Zb a rfl (Ze (zK (ZN (ZY rfl Z6) ?_)))))))
  cases hp
  exact ⟨a,rfl,(X.pk [0])⟩

theorem ZbA.ok {h:Hp}{turns:List Int}{v_turns:V}(s_turns:Sl Zad h v_turns turns) {r:Int}(hp:ZbA turns=some r) :
  ∃ u k',Is G 219 [v_turns] h u k'∧V.n r=u∧Own (fun r=>r<h.n) h k' []:=by
 refine WC.is (ZaD Zfx ?_)
 unfold ZbA at hp
 let B:Nat→Prop:=(fun r=>r<h.n)
 have hO:Own B h h []:=Own.start0 h
 refine Zg (Zb (.n 0) rfl (Ze (Zg (Zb (.n 0) rfl (Ze (Z9 (Zg (Zb v_turns rfl ?_))))))))
 refine Zc (Zap (hO.rd0 s_turns.rd) rfl) (Zb (.n 0) rfl (Ze (Zai (ZbM hp (fun|(n,x),fr,k=>fr 3=.n n∧fr 6=v_turns∧fr 7=.n (turns.length:Int)∧fr 8=.n x∧Own B h k []) (fun n1 e fr k=>e=(.exit 0)∧fr 3=.n n1∧Own B h k []) ⟨rfl,rfl,rfl,rfl,(hO.pk [])⟩ ?_ ?_))))
 ·rintro ⟨n,x⟩ _ F ⟨g,i,j,d,c⟩ _ hp
  dsimp only [ZbA.s0] at hp
  refine Zg (Zc (zA d j) (Ze (Z9 (zu hp rfl (fun s hp=>?_) (fun s hp=>?_)))))
  ·refine Zak (Z9 (Zai (Zg (ckk hp fun l hp=>Zc (ZP (c.rd0 s_turns.rd) i d l) (Zc (zw (c.rd0 s_turns.rd) rfl (Zf l) rfl) (Zb (.n (gi turns x.toNat)) rfl (Ze (Zg ?_))))))))
   refine Zb (.n (gi turns x.toNat)) rfl (Zc (Zda rfl rfl) (Zb (.b (decide ((-2)≤(gi turns x.toNat)))) rfl (zN 3 (fun f k=>F=k∧f 17=.b ((decide ((-2)≤(gi turns x.toNat)))&&(decide ((gi turns x.toNat)≤1)))∧f 3=.n n∧f 5=.n (gi turns x.toNat)∧f 6=v_turns∧f 7=.n (turns.length:Int)∧f 8=.n x) ?_ ?_)))
   ·rcases bc (decide ((-2)≤(gi turns x.toNat))) with a|a
    ·refine Zq rfl a (Zb (.n (gi turns x.toNat)) rfl (Zq rfl a (Zc (Zkw rfl rfl) (Zc (ZcU rfl a rfl) (Zj ?_)))))
     exact ⟨rfl,rfl,g,rfl,i,j,d⟩
    ·refine Zl rfl a (Zl rfl a (Zc (ZcT (w:=(decide ((-2)≤(gi turns x.toNat)))&&(decide ((gi turns x.toNat)≤1))) rfl a rfl) (Zj ?_)))
     exact ⟨rfl,rfl,g,rfl,i,j,d⟩
   rintro _ _ ⟨rfl,C,m,D,o,p,q⟩
   refine Ze (zu hp C (fun t hp=>?_) (fun t hp=>?_))
   ·refine Zaf (Zb _ m (Zb _ D (ckk hp fun v hp=>Zc (ZV rfl rfl v) (Zb (.n (n+(gi turns x.toNat))) rfl (Zj (Zam (Zt (Zaf (ckk hp fun y hp=>Zc (ZV q rfl y) (Zb (.n (x+1)) rfl (Zj ?_)))))))))))
    cases hp
    exact ⟨rfl,rfl,o,p,rfl,(c.pk [])⟩
   ·refine ZcB (Zam (Zt (Zaf (ckk hp fun A hp=>Zc (ZV q rfl A) (Zb (.n (x+1)) rfl (Zj ?_))))))
    cases hp
    exact ⟨rfl,m,o,p,rfl,(c.pk [])⟩
  ·refine Zb8 (zW ?_)
   cases hp
   exact ⟨nofun,rfl,g,(c.pk [])⟩
 rintro n1 hp _ _ _ ⟨rfl,H,E⟩
 refine Za9 (Zt (Zg (Zb _ H (Zb (.n n1) rfl (Ze (zK (ZN (ZY rfl Z6) ?_)))))))
 cases hp
 exact ⟨rfl,(E.pk [])⟩

theorem Zb6.ok {h:Hp}{cells:List Za}{v_cells:V}(s_cells:Sl Zd h v_cells cells) {r:Int×Bool}(hp:Zb6 cells=some r) :
  ∃ u k',Is G 201 [v_cells] h u k'∧V.tu [.n r.1,.b r.2]=u∧Own (fun r=>r<h.n) h k' []:=by
 refine WC.is (ZaD Zgm ?_)
 unfold Zb6 at hp
 let B:Nat→Prop:=(fun r=>r<h.n)
 have hO:Own B h h []:=Own.start0 h
 refine Zg (Zb (.n 0) rfl (Zb (.b false) rfl (Ze (Zg (Zb v_cells rfl ?_)))))
 obtain ⟨⟨x,x1⟩,⟨_,_,H,f,c,rfl,K⟩,hp⟩:=bdk hp fun _=>Zan.ok (h:=h)  (hO.rd0 s_cells.rd)
 refine zU rfl rfl H ?_
 have j:=hO.call K rfl
 refine Zb (.tu [f,.n x1]) rfl (Zc (zC rfl rfl) (Zc (zC rfl rfl) (Zb f rfl (Zb (.n x1) rfl (Ze (Zg (Zb (.n (-1)) rfl (Ze (Z9 (Z9 ?_))))))))))
 refine Zaf (Zb f rfl (Zc (Zh8 (n:=(x).length) (j.sl 0 rfl) (j.allLen 1 rfl:(c).length=(x).length) rfl) (Zb (.n 0) rfl (Ze (Zai (ZbM hp (fun|(at_,x2),fr,k=>fr 0=v_cells∧fr 6=.n at_∧fr 14=f∧fr 15=.n (x.length:Int)∧fr 16=.n x2∧Own B h k [eSl eV f c,Zci Zn c x]) (fun|.inl at_1,e,fr,k=>e=(.exit 0)∧fr 6=.n at_1∧Own B h k []|.inr _,e,fr,k=>e=.ret∧fr 2=.n 0∧fr 3=.b false∧Own B h k []) ⟨rfl,rfl,rfl,rfl,rfl,(j.pk [0,1])⟩ ?_ ?_))))))
 ·rintro ⟨at_,x2⟩ _ v ⟨m,q,o,p,d,a⟩ _ hp
  dsimp only [Zb6.s0] at hp
  refine Zg (Zc (zA d p) (Ze (Z9 (zu hp rfl (fun y hp=>?_) (fun y hp=>?_)))))
  ·refine Zak (Z9 (Zai (Zg (Zb _ d (ckk hp fun i hp=>Zc (ZP (a.sl 0 rfl) o d (by rw [(a.allLen 1 rfl:(c).length=(x).length)];exact i)) (Zc (zw (a.sl 0 rfl) rfl (by rw [(a.allLen 1 rfl:(c).length=(x).length)];exact Zf i) rfl) (Zb (.n x2) rfl (Zb ((gi c x2.toNat)) rfl (Ze ?_)))))))))
   refine Zg (Zb _ m (Zb ((gi c x2.toNat)) rfl ?_))
   obtain ⟨x3,⟨_,N,I,_,rfl,L⟩,hp⟩:=bdk hp fun _=>Zbm.ok (h:=v)  (a.rd0 s_cells.rd) (a.inn 1 rfl (Zf i):Sl Zn v (gi c x2.toNat) (gi x x2.toNat))
   refine zU rfl rfl I ?_
   have t:=a.call L rfl
   obtain ⟨x4,⟨_,_,J,rfl,M⟩,hp⟩:=bdk hp fun _=>ZbA.ok (h:=N)  (t.sl 2 rfl)
   refine zU rfl rfl J ?_
   have g:=t.call M rfl
   refine Ze (Zai (Zg (Zc (Zb7 rfl rfl) (Zb (.b (decide (x4=4))) rfl (Ze (zu hp rfl (fun A hp=>?_) (fun A hp=>?_)))))))
   ·refine ZcB (Zam (Zam (Zt (Zaf (ckk hp fun E hp=>Zc (ZV d rfl E) (Zb (.n (x2+1)) rfl (Zj ?_)))))))
    cases hp
    exact ⟨rfl,m,q,o,p,rfl,(g.pk [0,1])⟩
   ·refine Zg (Zc (Zb7 rfl rfl) (Zb (.b (decide (x4=(-4)))) rfl (Ze (zu hp rfl (fun C hp=>?_) (fun C hp=>?_)))))
    ·refine Z9 (Zg (Zb _ q (Zc (Zda rfl rfl) (Ze (zu hp rfl (fun D hp=>?_) (fun D hp=>?_))))))
     ·refine Zg (Zb (.n 0) rfl (Zb (.b false) rfl (Ze (zK (ZI (ZaZ (ZaZ (ZI ?_))))))))
      cases hp
      exact ⟨nofun,rfl,rfl,rfl,(g.pk [])⟩
     ·refine Zak (Zaf (Zb (.n x2) rfl (Zb (.n x2) rfl (Zj (Zam (Zam (Zt (Zaf (ckk hp fun F hp=>Zc (ZV d rfl F) (Zb (.n (x2+1)) rfl (Zj ?_)))))))))))
      cases hp
      exact ⟨rfl,m,rfl,o,p,rfl,(g.pk [0,1])⟩
    ·refine Zg (Zb (.n 0) rfl (Zb (.b false) rfl (Ze (zK (ZaZ (ZaZ (ZI ?_)))))))
     cases hp
     exact ⟨nofun,rfl,rfl,rfl,(g.pk [])⟩
  ·refine Zb8 (zW ?_)
   cases hp
   exact ⟨nofun,rfl,q,(a.pk [])⟩
 rintro (at_1|_) hp _ _ _ s
 ·obtain ⟨rfl,w,l⟩:=s
  refine Za9 (Zt (Zg (Zb _ w (Zb _ w (Zc (Zda rfl rfl) (Zb (.n at_1) rfl (Zb (.b (decide (0≤at_1))) rfl (Ze (zK (ZN (ZY rfl (ZY rfl Z6)) ?_))))))))))
  cases hp
  exact ⟨rfl,(l.pk [])⟩
 ·obtain ⟨rfl,O,P,l⟩:=s
  refine ZaZ (ZI (ZN (ZY O (ZY P Z6)) ?_))
  cases hp
  exact ⟨rfl,(l.pk [])⟩

theorem ZcG.ok {h:Hp}{cells:List Za}{v_cells:V}(s_cells:Sl Zd h v_cells cells) {r:Int}(hp:ZcG cells=some r) :
  ∃ u k',Is G 176 [v_cells] h u k'∧V.n r=u∧Own (fun r=>r<h.n) h k' []:=by
 refine WC.is (ZaD Zgk ?_)
 unfold ZcG at hp
 let B:Nat→Prop:=(fun r=>r<h.n)
 have hO:Own B h h []:=Own.start0 h
 refine Zg (Zb (.n 0) rfl (Ze (Z9 (Zg (Zb v_cells rfl ?_)))))
 obtain ⟨x,⟨_,v,l,rfl,q⟩,hp⟩:=bdk hp fun _=>Zau.ok (h:=h)  (hO.rd0 s_cells.rd)
 refine zU rfl rfl l ?_
 have c:=hO.call q rfl
 refine Zb (.n x) rfl (Ze (Zg (Zb (.n x) rfl (Zc (Zca rfl rfl) (Ze (zu hp rfl (fun g hp=>?_) (fun g hp=>?_)))))))
 ·refine Zg (Zb (.n x) rfl (Zb (.n x) rfl (Ze (zK (ZI (ZN (ZY rfl Z6) ?_))))))
  cases hp
  exact ⟨rfl,(c.pk [])⟩
 ·refine Zak (Z9 (Zg (Zb v_cells rfl ?_)))
  obtain ⟨x1,⟨_,y,m,rfl,s⟩,hp⟩:=bdk hp fun _=>Zdp.ok (h:=v)  (c.rd0 s_cells.rd)
  refine zU rfl rfl m ?_
  have d:=c.call s rfl
  refine Zc (ZcJ rfl) (Ze (zu hp rfl (fun i hp=>?_) (fun i hp=>?_)))
  ·refine Zg (Zb (.n 13) rfl (Ze (zK (ZI (ZN (ZY rfl Z6) ?_)))))
   cases hp
   exact ⟨rfl,(d.pk [])⟩
  ·refine Zak (Z9 (Zg (Zb v_cells rfl ?_)))
   obtain ⟨⟨x2,x3⟩,⟨_,A,o,rfl,t⟩,hp⟩:=bdk hp fun _=>Zb6.ok (h:=y)  (d.rd0 s_cells.rd)
   refine zU rfl rfl o ?_
   have e:=d.call t rfl
   refine Zb (.tu [.n x2,.b x3]) rfl (Zc (zC rfl rfl) (Zc (zC rfl rfl) (Zb (.n x2) rfl (Zb (.b x3) rfl (Ze (Zg (Zb (.b x3) rfl (Zc (ZcJ rfl) (Zb (.b (!x3)) rfl (zN 4 (fun f k=>A=k∧f 25=.b ((!x3)&&(decide (1<(cells.length:Int))))) ?_ ?_))))))))))
   ·rcases bc (!x3) with a|a
    ·refine Zq rfl a (Zb v_cells rfl (Zq rfl a (Zc (Zap (e.rd0 s_cells.rd) rfl) (Zq rfl a (Zc (Zd1 rfl rfl) (Zc (ZcU rfl a rfl) (Zj ?_)))))))
     exact ⟨rfl,rfl⟩
    ·refine Zl rfl a (Zl rfl a (Zl rfl a (Zc (ZcT (w:=(!x3)&&(decide (1<(cells.length:Int)))) rfl a rfl) (Zj ?_))))
     exact ⟨rfl,rfl⟩
   rintro _ _ ⟨rfl,p⟩
   refine Ze (zu hp p (fun j hp=>?_) (fun j hp=>?_))
   ·refine Zg (Zb (.n 10) rfl (Ze (zK (ZI (ZN (ZY rfl Z6) ?_)))))
    cases hp
    exact ⟨rfl,(e.pk [])⟩
   ·refine Zak (Zg (Zb (.n 0) rfl (Ze (zK (ZN (ZY rfl Z6) ?_)))))
    cases hp
    exact ⟨rfl,(e.pk [])⟩

theorem ZcH.ok {h:Hp}{cells:List Za}{v_cells:V}(s_cells:Sl Zd h v_cells cells) {r:Int×Int}(hp:ZcH cells=some r) :
  ∃ u k',Is G 195 [v_cells] h u k'∧V.tu [.n r.1,.n r.2]=u∧Own (fun r=>r<h.n) h k' []:=by
 refine WC.is (ZaD Zgl ?_)
 unfold ZcH at hp
 let B:Nat→Prop:=(fun r=>r<h.n)
 have hO:Own B h h []:=Own.start0 h
 refine Zg (Zb (.n 0) rfl (Zb (.n 0) rfl (Ze (Z9 (Zg (Zb v_cells rfl ?_))))))
 obtain ⟨x,⟨_,k,f,rfl,i⟩,hp⟩:=bdk hp fun _=>ZcG.ok (h:=h)  (hO.rd0 s_cells.rd)
 refine zU rfl rfl f ?_
 have a:=hO.call i rfl
 refine Zb (.n x) rfl (Ze (Zg (Zb (.n x) rfl (Zc (Zca rfl rfl) (Ze (zu hp rfl (fun d hp=>?_) (fun d hp=>?_)))))))
 ·refine Zg (Zb (.n x) rfl (Zb (.n 0) rfl (Zb (.n x) rfl (Ze (zK (ZI (ZN (ZY rfl (ZY rfl Z6)) ?_)))))))
  cases hp
  exact ⟨rfl,(a.pk [])⟩
 ·refine Zak (Zg (Zb v_cells rfl ?_))
  obtain ⟨⟨x1,x2⟩,⟨_,_,g,rfl,j⟩,hp⟩:=bdk hp fun _=>Zb6.ok (h:=k)  (a.rd0 s_cells.rd)
  refine zU rfl rfl g ?_
  have c:=a.call j rfl
  refine Zb (.tu [.n x1,.b x2]) rfl (Zc (zC rfl rfl) (Zc (zC rfl rfl) (Zb (.n x1) rfl (Zb (.b x2) rfl (Ze (Z9 (Zg (Zb (.b x2) rfl (Zc (ZcJ rfl) (Ze (zu hp rfl (fun e hp=>?_) (fun e hp=>?_))))))))))))
  ·refine Zg (Zb (.n 0) rfl (Zb (.n 2) rfl (Ze (zK (ZI (ZN (ZY rfl (ZY rfl Z6)) ?_))))))
   cases hp
   exact ⟨rfl,(c.pk [])⟩
  ·refine Zak (Zg (Zb (.n x1) rfl (Zb (.n x1) rfl (Zb (.n 0) rfl (Ze (zK (ZN (ZY rfl (ZY rfl Z6)) ?_)))))))
   cases hp
   exact ⟨rfl,(c.pk [])⟩

theorem zE.ok {h:Hp}{s:List Int}{f:Int→Option Bool}{v_s:V}{id_f:Nat}{cap_f:List V}(s_s:Sl Zad h v_s s) (f_f:∀ (k:Hp) (x0:Int) (y:Bool),Ex' (fun r=>r<h.n) h k→f x0=some y→∃ u k',Is G id_f (.n x0::cap_f) k u k'∧V.b y=u∧Own (fun r=>r<k.n) k k' []) {r:Int}(hp:zE s f=some r) :
  ∃ u k',Is G 91 [v_s,.f id_f cap_f] h u k'∧V.n r=u∧Own (fun r=>r<h.n) h k' []:=by
 refine WC.is (ZaD ZdM ?_)
 unfold zE at hp
 let B:Nat→Prop:=(fun r=>r<h.n)
 have hO:Own B h h []:=Own.start0 h
 refine Zg (Zb (.n 0) rfl (Ze (Z9 (Zg (Zb v_s rfl (Zc (Zap (hO.rd0 s_s.rd) rfl) (Zb (.n 0) rfl (Ze (Zai (ZbM hp (fun x fr k=>fr 0=v_s∧fr 1=.f id_f cap_f∧fr 7=.n (s.length:Int)∧fr 8=.n x∧Own B h k []) (fun|.inl _,e,fr,k=>e=(.exit 0)∧Own B h k []|.inr x1,e,fr,k=>e=.ret∧fr 4=.n x1∧Own B h k []) ⟨rfl,rfl,rfl,rfl,(hO.pk [])⟩ ?_ ?_))))))))))
 ·rintro x _ _ ⟨l,m,o,d,a⟩ _ hp
  dsimp only [zE.s0] at hp
  refine Zg (Zc (zA d o) (Ze (Z9 (zu hp rfl (fun p hp=>?_) (fun p hp=>?_)))))
  ·refine Zak (Z9 (Zai (Zg (Zb _ d (Zb (.n x) rfl (Ze (Zg (Zb _ m (Zb _ l ?_)))))))))
   refine Zb (.n x) rfl (ckk hp fun g hp=>Zc (ZP (a.rd0 s_s.rd) rfl rfl g) (Zc (zw (a.rd0 s_s.rd) rfl (Zf g) rfl) ?_))
   obtain ⟨x2,A,hp⟩:=ZaP hp
   obtain ⟨_,_,v,rfl,w⟩:=f_f _ _ _ a.ext A
   refine zU rfl rfl v ?_
   have j:=a.call w rfl
   refine Ze (zu hp rfl (fun q hp=>?_) (fun q hp=>?_))
   ·refine Zg (Zb (.n x) rfl (Zb (.n x) rfl (Ze (zK (ZaZ (ZI ?_))))))
    cases hp
    exact ⟨nofun,rfl,rfl,(j.pk [])⟩
   ·refine ZcB (Zam (Zt (Zaf (ckk hp fun t hp=>Zc (ZV d rfl t) (Zb (.n (x+1)) rfl (Zj ?_))))))
    cases hp
    exact ⟨rfl,l,m,o,rfl,(j.pk [])⟩
  ·refine Zb8 (zW ?_)
   cases hp
   exact ⟨nofun,rfl,(a.pk [])⟩
 rintro (_|x1) hp _ _ _ i
 ·obtain ⟨rfl,c⟩:=i
  refine Za9 (Zt (Zg (Zb (.n (-1)) rfl (Ze (zK (ZN (ZY rfl Z6) ?_))))))
  cases hp
  exact ⟨rfl,(c.pk [])⟩
 ·obtain ⟨rfl,C,c⟩:=i
  refine ZaZ (ZI (ZN (ZY C Z6) ?_))
  cases hp
  exact ⟨rfl,(c.pk [])⟩

theorem ZbF.ok {h:Hp}{s:List Int}{f:Int→Option Bool}{v_s:V}{id_f:Nat}{cap_f:List V}(s_s:Sl Zad h v_s s) (f_f:∀ (k:Hp) (x0:Int) (y:Bool),Ex' (fun r=>r<h.n) h k→f x0=some y→∃ u k',Is G id_f (.n x0::cap_f) k u k'∧V.b y=u∧Own (fun r=>r<k.n) k k' []) {r:Bool}(hp:ZbF s f=some r) :
  ∃ u k',Is G 78 [v_s,.f id_f cap_f] h u k'∧V.b r=u∧Own (fun r=>r<h.n) h k' []:=by
 refine WC.is (ZaD Zdx ?_)
 unfold ZbF at hp
 let B:Nat→Prop:=(fun r=>r<h.n)
 have hO:Own B h h []:=Own.start0 h
 refine Zg (Zb (.b false) rfl (Ze (Zg (Zb v_s rfl (Zb (.f id_f cap_f) rfl ?_)))))
 obtain ⟨x,⟨_,_,a,rfl,d⟩,hp⟩:=bdk hp fun _=>zE.ok (h:=h)  (hO.rd0 s_s.rd) (fun k z0 y hk hx=>f_f k z0 y (Zrz hO hk) hx)
 refine zU rfl rfl a ?_
 have c:=hO.call d rfl
 refine Zc (Zda rfl rfl) (Zb (.b (decide (0≤x))) rfl (Ze (zK (ZN (ZY rfl Z6) ?_))))
 cases hp
 exact ⟨rfl,(c.pk [])⟩

theorem ZcY.ok {h:Hp}{t:Int}   {r:Bool}(hp:ZcY t=some r) :
  ∃ u k',Is G 79 [.n t] h u k'∧V.b r=u∧Own (fun r=>r<h.n) h k' []:=by
 refine WC.is (ZaD Zfz ?_)
 unfold ZcY at hp
 let B:Nat→Prop:=(fun r=>r<h.n)
 have hO:Own B h h []:=Own.start0 h
 refine Zg (Zb (.b false) rfl (Ze (Zg (Zb (.n t) rfl (Zc (zA rfl rfl) (Zb (.b (decide (t<(-2)))) rfl (zN 3 (fun f k=>h=k∧f 8=.b ((decide (t<(-2)))||(decide (1<t)))) ?_ ?_)))))))
 ·rcases bc (decide (t<(-2))) with a|a
  ·refine Zl rfl a (Zl rfl a (Zc (Zct (w:=(decide (t<(-2)))||(decide (1<t))) rfl a rfl) (Zj ?_)))
   exact ⟨rfl,rfl⟩
  ·refine Zq rfl a (Zb (.n t) rfl (Zq rfl a (Zc (Zd1 rfl rfl) (Zc (Zcu rfl a rfl) (Zj ?_)))))
   exact ⟨rfl,rfl⟩
 rintro _ _ ⟨rfl,c⟩
 refine Zb _ c (Ze (zK (ZN (ZY rfl Z6) ?_)))
 cases hp
 exact ⟨rfl,(hO.pk [])⟩

theorem ZcF.ok {h:Hp}{turns:List Int}{v_turns:V}(s_turns:Sl Zad h v_turns turns) {r:Bool}(hp:ZcF turns=some r) :
  ∃ u k',Is G 58 [v_turns] h u k'∧V.b r=u∧Own (fun r=>r<h.n) h k' []:=by
 refine WC.is (ZaD Zgg ?_)
 unfold ZcF at hp
 let B:Nat→Prop:=(fun r=>r<h.n)
 have hO:Own B h h []:=Own.start0 h
 refine Zg (Zb (.b false) rfl (Ze (Zg (Zb v_turns rfl ?_))))
 obtain ⟨x,⟨_,_,a,rfl,d⟩,hp⟩:=bdk hp fun _=>ZbF.ok (h:=h)  (hO.rd0 s_turns.rd) (fun k z0 y hk hx=>ZcY.ok (h:=k)  hx)
 refine zU rfl rfl a ?_
 have c:=hO.call d rfl
 refine Zc (ZcJ rfl) (Zb (.b (!x)) rfl (Ze (zK (ZN (ZY rfl Z6) ?_))))
 cases hp
 exact ⟨rfl,(c.pk [])⟩

theorem Zb5.ok {h:Hp}{turns:List Int}{i:Int}{v_turns:V}(s_turns:Sl Zad h v_turns turns) {r:Int×Bool}(hp:Zb5 turns i=some r) :
  ∃ u k',Is G 13 [v_turns,.n i] h u k'∧V.tu [.n r.1,.b r.2]=u∧Own (fun r=>r<h.n) h k' []:=by
 refine WC.is (ZaD Zhi ?_)
 unfold Zb5 at hp
 let B:Nat→Prop:=(fun r=>r<h.n)
 have hO:Own B h h []:=Own.start0 h
 refine Zg (Zb (.n 0) rfl (Zb (.b false) rfl (Ze (Z9 (Zg (Zb v_turns rfl ?_))))))
 obtain ⟨x,⟨_,y,R,rfl,X⟩,hp⟩:=bdk hp fun _=>ZcF.ok (h:=h)  (hO.rd0 s_turns.rd)
 refine zU rfl rfl R ?_
 have j:=hO.call X rfl
 refine Zc (ZcJ rfl) (Zb (.b (!x)) rfl (zN 3 (fun f k=>y=k∧f 15=.b ((!x)||(decide (i<0)))∧f 0=v_turns∧f 1=.n i) ?_ ?_))
 ·rcases bc (!x) with d|d
  ·refine Zl rfl d (Zl rfl d (Zc (Zct (w:=(!x)||(decide (i<0))) rfl d rfl) (Zj ?_)))
   exact ⟨rfl,rfl,rfl,rfl⟩
  ·refine Zq rfl d (Zb (.n i) rfl (Zq rfl d (Zc (zA rfl rfl) (Zc (Zcu rfl d rfl) (Zj ?_)))))
   exact ⟨rfl,rfl,rfl,rfl⟩
 rintro _ _ ⟨rfl,S,m,o⟩
 refine Zb _ S (zN 5 (fun f k=>y=k∧f 21=.b (((!x)||(decide (i<0)))||(decide ((turns.length:Int)≤i)))∧f 0=v_turns∧f 1=.n i) ?_ ?_)
 ·rcases bc ((!x)||(decide (i<0))) with c|c
  ·refine Zl rfl c (Zl rfl c (Zl rfl c (Zl rfl c (Zc (Zct (w:=((!x)||(decide (i<0)))||(decide ((turns.length:Int)≤i))) rfl c rfl) (Zj ?_)))))
   exact ⟨rfl,rfl,m,o⟩
  ·refine Zq rfl c (Zb _ o (Zq rfl c (Zb _ m (Zq rfl c (Zc (Zap (j.rd0 s_turns.rd) rfl) (Zq rfl c (Zc (Zda rfl rfl) (Zc (Zcu rfl c rfl) (Zj ?_)))))))))
   exact ⟨rfl,rfl,m,o⟩
 rintro _ _ ⟨rfl,T,p,q⟩
 refine Zb _ T ?_
 obtain ⟨t,Y,hp⟩:=ZaP hp
 refine zN 6 (fun f k=>y=k∧f 28=.b t∧f 0=v_turns∧f 1=.n i) ?_ ?_
 ·clear hp;rcases Zbi Y with ⟨a,hp⟩|⟨a,hp⟩
  ·refine Zl rfl a (Zl rfl a (Zl rfl a (Zl rfl a (Zl rfl a (Zc (ZaT (v:=.b t) rfl a (Eq.trans (b:=V.b true) rfl (congrArg V.b (Option.some.inj hp)))) (Zj ?_))))))
   exact ⟨rfl,rfl,p,q⟩
  ·refine Zq rfl a (Zb _ p (Zq rfl a (Zb _ q (Zq rfl a (ckk hp fun C hp=>Zc (ZP (j.rd0 s_turns.rd) rfl rfl C) (Zq rfl a (Zc (zw (j.rd0 s_turns.rd) rfl (Zf C) rfl) (Zq rfl a (Zc (Zda rfl rfl) (Zc (ZaI (v:=.b t) rfl a (Eq.trans (b:=V.b (decide (0≤(gi turns i.toNat)))) rfl (congrArg V.b (Option.some.inj hp)))) (Zj ?_)))))))))))
   exact ⟨rfl,rfl,p,q⟩
 rintro _ _ ⟨rfl,W,F,U⟩
 refine Ze (zu hp W (fun K hp=>?_) (fun K hp=>?_))
 ·refine Zg (Zb (.n 0) rfl (Zb (.b false) rfl (Ze (zK (ZI (ZN (ZY rfl (ZY rfl Z6)) ?_))))))
  cases hp
  exact ⟨rfl,(j.pk [])⟩
 ·refine Zak (Zg (Zb (.n 0) rfl (Ze (Z9 (Zg (Zb _ F (Zc (Zap (j.rd0 s_turns.rd) rfl) (Zb (.n 0) rfl (Zj ?_)))))))))
  refine Zt (Zai (ZbM hp (fun|(sum,x1),fr,k=>fr 0=v_turns∧fr 1=.n i∧fr 6=.n sum∧fr 30=.n (turns.length:Int)∧fr 31=.n x1∧Own B h k []) (fun|.inl _,e,fr,k=>e=(.exit 0)∧Own B h k []|.inr x2,e,fr,k=>e=.ret∧fr 4=.n x2∧fr 5=.b true∧Own B h k []) ⟨F,U,rfl,rfl,rfl,(j.pk [])⟩ ?_ ?_))
  ·rintro ⟨sum,x1⟩ _ _ ⟨l,I,ac,J,A,g⟩ _ hp
   dsimp only [Zb5.s0] at hp
   refine Zg (Zc (zA A J) (Ze (Z9 (zu hp rfl (fun L hp=>?_) (fun L hp=>?_)))))
   ·refine Zak (Z9 (Zai (Zg (Zb _ A (Zb (.n x1) rfl (Ze (Zg (Zb _ I (Zb (.n x1) rfl ?_)))))))))
    refine ckk hp fun N hp=>Zc (ZV rfl rfl N) (Zb _ l (Zc (Zap (g.rd0 s_turns.rd) rfl) (ckk hp fun D hp=>Zc (ZcO rfl rfl D) (Zb (.n ((i+x1).tmod (turns.length:Int))) rfl (Ze (Zg (Zb _ ac (Zb _ l (Zb (.n ((i+x1).tmod (turns.length:Int))) rfl ?_)))))))))
    refine ckk hp fun E hp=>Zc (ZP (g.rd0 s_turns.rd) rfl rfl E) (Zc (zw (g.rd0 s_turns.rd) rfl (Zf E) rfl) (ckk hp fun O hp=>Zc (ZV rfl rfl O) (Zb (.n (sum+(gi turns ((i+x1).tmod (turns.length:Int):Int).toNat))) rfl (Ze (Zg (Zb (.n (sum+(gi turns ((i+x1).tmod (turns.length:Int):Int).toNat))) rfl (Zc (Zb7 rfl rfl) (Ze (zu hp rfl (fun M hp=>?_) (fun M hp=>?_))))))))))
    ·refine Zg (Zb (.n ((i+x1).tmod (turns.length:Int))) rfl (ckk hp fun P hp=>Zc (ZV rfl rfl P) (Zb _ l (Zc (Zap (g.rd0 s_turns.rd) rfl) (Zc (ZcO rfl rfl D) (Zb (.n ((((i+x1).tmod (turns.length:Int))+1).tmod (turns.length:Int))) rfl (Zb (.b true) rfl (Ze (zK (ZaZ ?_))))))))))
     refine ZI ?_
     cases hp
     exact ⟨nofun,rfl,rfl,rfl,(g.pk [])⟩
    ·refine ZcB (Zam (Zt (Zaf (ckk hp fun Q hp=>Zc (ZV A rfl Q) (Zb (.n (x1+1)) rfl (Zj ?_))))))
     cases hp
     exact ⟨rfl,l,I,rfl,J,rfl,(g.pk [])⟩
   ·refine Zb8 (zW ?_)
    cases hp
    exact ⟨nofun,rfl,(g.pk [])⟩
  rintro (_|x2) hp _ _ _ H
  ·obtain ⟨rfl,s⟩:=H
   refine Za9 (Zt (Zg (Zb (.n 0) rfl (Zb (.b false) rfl (Ze (zK (ZN (ZY rfl (ZY rfl Z6)) ?_)))))))
   cases hp
   exact ⟨rfl,(s.pk [])⟩
  ·obtain ⟨rfl,aa,ab,s⟩:=H
   refine ZaZ (ZI (ZN (ZY aa (ZY ab Z6)) ?_))
   cases hp
   exact ⟨rfl,(s.pk [])⟩

end Mu
