/- The code comes to what was worked out. -/
import Derived.Test.YtdefkboekpjiiaaMuDf
import Derived.Test.YtdefkboekpjiiaaMuPa
import Derived.Test.YtdefkboekpjiiaaMuC1
set_option linter.unusedVariables false
set_option linter.unnecessarySimpa false
set_option linter.unusedSimpArgs false
set_option maxHeartbeats 2000000
set_option maxRecDepth 10000
namespace Mu
open Go (IntKind BinOp UnOp)
theorem Zay.ok {h:Hp} {d:Int}   {r:Bool} (hp:Zay d=some r) :
  ∃ u k',Is G 90 [.n d] h u k'∧V.b r=u∧Own (fun r=>r < h.n) h k' []:=by
 refine WC.is (ZaI Zdk ?_)
 unfold Zay at hp
 let B:Nat→Prop:=(fun r=>r < h.n)
 have hO:Own B h h []:=Own.start0 h
 refine Zl (Zb (.b false) rfl (Zg (Zl (Zb (.n d) rfl (Zc (Zcr rfl rfl) ?_)))))
 refine Zb (.b (decide (0≤d))) rfl (zO 3 (fun f k=>h=k∧f 8=.b ((decide (0≤d)) && (decide (d≤3)))) ?_ ?_)
 ·rcases bc (decide (0≤d)) with a | a
  ·refine Z5 rfl a (Zb (.n d) rfl (Z5 rfl a (Zc (Zlb rfl rfl) (Zc (Zda rfl a rfl) (Zj ?_)))))
   exact ⟨rfl,rfl⟩
  ·refine Zr rfl a (Zr rfl a (Zc (ZcZ (w:=(decide (0≤d)) && (decide (d≤3))) rfl a rfl) (Zj ?_)))
   exact ⟨rfl,rfl⟩
 rintro e _ ⟨rfl,c⟩
 refine Zb _ c (Zg (Zak (z6 (zJ rfl ze) ?_)))
 cases hp
 exact ⟨rfl,(hO.pk [])⟩

theorem ZaG.ok {h:Hp} {d:Int} {times:Int}   {r:Int} (hp:ZaG d times=some r) :
  ∃ u k',Is G 77 [.n d,.n times] h u k'∧V.n r=u∧Own (fun r=>r < h.n) h k' []:=by
 refine WC.is (ZaI Zdl ?_)
 unfold ZaG at hp
 let B:Nat→Prop:=(fun r=>r < h.n)
 have hO:Own B h h []:=Own.start0 h
 refine Zl (Zb (.n 0) rfl (Zg (ZN (Zl (Zb (.n d) rfl ?_)))))
 obtain ⟨x,⟨j,i,f,rfl,g⟩,hp⟩:=bdk hp fun _=>Zay.ok (h:=h)  
 refine Zat rfl rfl f ?_
 have a:=hO.call g rfl
 refine Zc (Zdd rfl) (Zg (zB hp rfl (fun b hp=>?_) (fun b hp=>?_)))
 ·refine Zl (Zb (.n 0) rfl (Zg (Zak (zG (z6 (zJ rfl ze) ?_)))))
  cases hp
  exact ⟨rfl,(a.pk [])⟩
 ·refine Zal (Zl (Zb (.n d) rfl (Zb (.n times) rfl (Zc (Zbx rfl rfl (by decide)) (ckk hp fun c hp=>Zc (zn rfl rfl c) ?_)))))
  refine ckk hp fun e hp=>Zc (zn rfl rfl e) (Zc (Zbx rfl rfl (by decide)) (Zb (.n (((d + (times.tmod 4)) + 4).tmod 4)) rfl (Zg (Zak (z6 (zJ rfl ze) ?_)))))
  cases hp
  exact ⟨rfl,(a.pk [])⟩

theorem ZbC.ok {h:Hp} {cells:List Za} {v:Int} {d:Int} {v_cells:V} (s_cells:Sl Zd h v_cells cells) {r:Int} (hp:ZbC cells v d=some r) :
  ∃ u k',Is G 82 [v_cells,.n v,.n d] h u k'∧V.n r=u∧Own (fun r=>r < h.n) h k' []:=by
 refine WC.is (ZaI Zej ?_)
 unfold ZbC at hp
 let B:Nat→Prop:=(fun r=>r < h.n)
 have hO:Own B h h []:=Own.start0 h
 refine Zl (Zb (.n 0) rfl (Zg (ZN (Zhy ?_))))
 have c:=hO.bump 16
 refine Zaj v_cells rfl (Zaj (.n v) rfl (Zaj (.n d) rfl (ckk hp fun j hp=>ZY rfl (zm (c.rd0 s_cells.rd) rfl rfl j) (ZY rfl (Za9 (c.rd0 s_cells.rd) (Zh j) rfl rfl) (ckk hp fun o hp=>ZY rfl (ZaE (c.rd0 s_cells.rd) (Zh j) rfl rfl o rfl) (ZY rfl (zE (c.rd0 s_cells.rd) rfl (Zh j) (zS o)) ?_))))))
 refine Zaj v_cells rfl (Zaj (.n v) rfl (Zaj (.n d) rfl (ZY rfl (zm (c.rd0 s_cells.rd) rfl rfl j) (ZY rfl (Za9 (c.rd0 s_cells.rd) (Zh j) rfl rfl) (ZY rfl (ZaE (c.rd0 s_cells.rd) (Zh j) rfl rfl o rfl) (ZY rfl (zE (c.rd0 s_cells.rd) rfl (Zh j) (Zbe o)) (Zaj (.n (((gi cells v.toNat).Next).get d)) rfl (Zaj (.n (((gi cells v.toNat).Owner).get d)) rfl ?_))))))))
 refine Zae (Zs (ZN (Zl (Zb (.n (((gi cells v.toNat).Next).get d)) rfl (Zc (ZaX rfl rfl) (Zg (zB hp rfl (fun H hp=>?_) (fun H hp=>?_))))))))
 ·refine ZN (Zl (Zb (.n (((gi cells v.toNat).Owner).get d)) rfl (Zc (ZcH rfl rfl) (Zg (zB hp rfl (fun I hp=>?_) (fun I hp=>?_))))))
  ·refine Zl (Zb (.n 9) rfl (Zg (Zak (zG (zG (z6 (zJ rfl ze) ?_))))))
   cases hp
   exact ⟨rfl,(c.pk [])⟩
  ·refine Zal (Zl (Zb (.n 0) rfl (Zg (Zak (zG ?_)))))
   refine z6 (zJ rfl ze) ?_
   cases hp
   exact ⟨rfl,(c.pk [])⟩
 ·refine Zal (ZN (Zl (Zb (.n (((gi cells v.toNat).Next).get d)) rfl (Zc (z3 rfl rfl) (Zb (.b (decide ((((gi cells v.toNat).Next).get d) < 0))) rfl (zO 5 (fun f k=>(h.bump 16)=k∧f 35=.b ((decide ((((gi cells v.toNat).Next).get d) < 0)) || (decide ((cells.length:Int)≤(((gi cells v.toNat).Next).get d))))∧f 0=v_cells∧f 1=.n v∧f 2=.n d∧f 7=.n (((gi cells v.toNat).Next).get d)∧f 8=.n (((gi cells v.toNat).Owner).get d)) ?_ ?_))))))
  ·rcases bc (decide ((((gi cells v.toNat).Next).get d) < 0)) with e | e
   ·refine Zr rfl e (Zr rfl e (Zr rfl e (Zr rfl e (Zc (Zbt (w:=(decide ((((gi cells v.toNat).Next).get d) < 0)) || (decide ((cells.length:Int)≤(((gi cells v.toNat).Next).get d)))) rfl e rfl) (Zj ?_)))))
    exact ⟨rfl,rfl,rfl,rfl,rfl,rfl,rfl⟩
   ·refine Z5 rfl e (Zb (.n (((gi cells v.toNat).Next).get d)) rfl (Z5 rfl e (Zb v_cells rfl (Z5 rfl e (Zc (zP (c.rd0 s_cells.rd) rfl) (Z5 rfl e (Zc (Zcr rfl rfl) (Zc (Zbu rfl e rfl) ?_))))))))
    refine Zj ?_
    exact ⟨rfl,rfl,rfl,rfl,rfl,rfl,rfl⟩
  rintro U _ ⟨rfl,M,y,q,A,s,C⟩
  refine Zb _ M (zO 4 (fun f k=>(h.bump 16)=k∧f 40=.b (((decide ((((gi cells v.toNat).Next).get d) < 0)) || (decide ((cells.length:Int)≤(((gi cells v.toNat).Next).get d)))) || (decide (((gi cells v.toNat).Next).get d=v)))∧f 0=v_cells∧f 1=.n v∧f 2=.n d∧f 7=.n (((gi cells v.toNat).Next).get d)∧f 8=.n (((gi cells v.toNat).Owner).get d)) ?_ ?_)
  ·rcases bc ((decide ((((gi cells v.toNat).Next).get d) < 0)) || (decide ((cells.length:Int)≤(((gi cells v.toNat).Next).get d)))) with i | i
   ·refine Zr rfl i (Zr rfl i (Zr rfl i (Zc (Zbt (w:=((decide ((((gi cells v.toNat).Next).get d) < 0)) || (decide ((cells.length:Int)≤(((gi cells v.toNat).Next).get d)))) || (decide (((gi cells v.toNat).Next).get d=v))) rfl i rfl) (Zj ?_))))
    exact ⟨rfl,rfl,y,q,A,s,C⟩
   ·refine Z5 rfl i (Zb _ s (Z5 rfl i (Zb _ q (Z5 rfl i (Zc (ZaX rfl rfl) (Zc (Zbu rfl i rfl) (Zj ?_)))))))
    exact ⟨rfl,rfl,y,q,A,s,C⟩
  rintro W _ ⟨rfl,P,D,N,O,E,t⟩
  refine Zg (zB hp P (fun J hp=>?_) (fun J hp=>?_))
  ·refine Zl (Zb (.n 3) rfl (Zg (Zak (zG (z6 (zJ rfl ze) ?_)))))
   cases hp
   exact ⟨rfl,(c.pk [])⟩
  ·refine Zal (Zl (Zb _ O ?_))
   obtain ⟨x,⟨aa,F,L,rfl,T⟩,hp⟩:=bdk hp fun _=>ZaG.ok (h:=(h.bump 16))  
   refine Zat rfl rfl L ?_
   have g:=c.call T rfl
   refine Zb (.n x) rfl (Zg (ZN (Zl (Zb _ D (Zb _ E (Zb (.n x) rfl ?_))))))
   refine ckk hp fun l hp=>Zc (zm (g.rd0 s_cells.rd) rfl rfl l) (Zc (Za9 (g.rd0 s_cells.rd) (Zh l) rfl rfl) (ckk hp fun p hp=>Zc (ZaE (g.rd0 s_cells.rd) (Zh l) rfl rfl p rfl) (Zc (zE (g.rd0 s_cells.rd) rfl (Zh l) (zS p)) (Zb _ N (Zc (ZcH rfl rfl) (Zb (.b (!(decide (((gi cells (((gi cells v.toNat).Next).get d:Int).toNat).Next).get x=v)))) rfl (zO 10 (fun f k=>F=k∧f 62=.b ((!(decide (((gi cells (((gi cells v.toNat).Next).get d:Int).toNat).Next).get x=v))) || (!(decide (((gi cells (((gi cells v.toNat).Next).get d:Int).toNat).Owner).get x=((gi cells v.toNat).Owner).get d))))∧f 8=.n (((gi cells v.toNat).Owner).get d)) ?_ ?_)))))))
   ·rcases bc (!(decide (((gi cells (((gi cells v.toNat).Next).get d:Int).toNat).Next).get x=v))) with a | a
    ·refine Zr rfl a (Zr rfl a (Zr rfl a (Zr rfl a (Zr rfl a (Zr rfl a (Zr rfl a (Zr rfl a (Zr rfl a ?_))))))))
     refine Zc (Zbt (w:=(!(decide (((gi cells (((gi cells v.toNat).Next).get d:Int).toNat).Next).get x=v))) || (!(decide (((gi cells (((gi cells v.toNat).Next).get d:Int).toNat).Owner).get x=((gi cells v.toNat).Owner).get d)))) rfl a rfl) (Zj ?_)
     exact ⟨rfl,rfl,t⟩
    ·refine Z5 rfl a (Zb _ D (Z5 rfl a (Zb _ E (Z5 rfl a (Zb (.n x) rfl (Z5 rfl a (Zc (zm (g.rd0 s_cells.rd) rfl rfl l) (Z5 rfl a ?_))))))))
     refine Zc (Za9 (g.rd0 s_cells.rd) (Zh l) rfl rfl) (Z5 rfl a (Zc (ZaE (g.rd0 s_cells.rd) (Zh l) rfl rfl p rfl) (Z5 rfl a (Zc (zE (g.rd0 s_cells.rd) rfl (Zh l) (Zbe p)) (Z5 rfl a (Zb _ t (Z5 rfl a (Zc (ZcH rfl rfl) ?_))))))))
     refine Zc (Zbu rfl a rfl) (Zj ?_)
     exact ⟨rfl,rfl,t⟩
   rintro X _ ⟨rfl,Q,R⟩
   refine Zb _ Q (zO 3 (fun f k=>F=k∧f 66=.b (((!(decide (((gi cells (((gi cells v.toNat).Next).get d:Int).toNat).Next).get x=v))) || (!(decide (((gi cells (((gi cells v.toNat).Next).get d:Int).toNat).Owner).get x=((gi cells v.toNat).Owner).get d)))) || (decide ((((gi cells v.toNat).Owner).get d) < (-2))))) ?_ ?_)
   ·rcases bc ((!(decide (((gi cells (((gi cells v.toNat).Next).get d:Int).toNat).Next).get x=v))) || (!(decide (((gi cells (((gi cells v.toNat).Next).get d:Int).toNat).Owner).get x=((gi cells v.toNat).Owner).get d)))) with m | m
    ·refine Zr rfl m (Zr rfl m (Zc (Zbt (w:=((!(decide (((gi cells (((gi cells v.toNat).Next).get d:Int).toNat).Next).get x=v))) || (!(decide (((gi cells (((gi cells v.toNat).Next).get d:Int).toNat).Owner).get x=((gi cells v.toNat).Owner).get d)))) || (decide ((((gi cells v.toNat).Owner).get d) < (-2)))) rfl m rfl) (Zj ?_)))
     exact ⟨rfl,rfl⟩
    ·refine Z5 rfl m (Zb _ R (Z5 rfl m (Zc (z3 rfl rfl) (Zc (Zbu rfl m rfl) (Zj ?_)))))
     exact ⟨rfl,rfl⟩
   rintro Y _ ⟨rfl,S⟩
   refine Zg (zB hp S (fun K hp=>?_) (fun K hp=>?_))
   ·refine Zl (Zb (.n 9) rfl (Zg (Zak (zG (z6 (zJ rfl ze) ?_)))))
    cases hp
    exact ⟨rfl,(g.pk [])⟩
   ·refine Zal (Zl (Zb (.n 0) rfl (Zg (Zak (z6 (zJ rfl ze) ?_)))))
    cases hp
    exact ⟨rfl,(g.pk [])⟩

theorem zu.ok {h:Hp} {cells:List Za} {v_cells:V} (s_cells:Sl Zd h v_cells cells) {r:Int} (hp:zu cells=some r) :
  ∃ u k',Is G 66 [v_cells] h u k'∧V.n r=u∧Own (fun r=>r < h.n) h k' []:=by
 refine WC.is (ZaI ZdM ?_)
 unfold zu at hp
 let B:Nat→Prop:=(fun r=>r < h.n)
 have hO:Own B h h []:=Own.start0 h
 refine Zl (Zb (.n 0) rfl (Zg (ZN (Zl (Zb v_cells rfl ?_)))))
 refine Zc (zP (hO.rd0 s_cells.rd) rfl) (Zc (Zc6 rfl rfl) (Zg (zB hp rfl (fun t hp=>?_) (fun t hp=>?_))))
 ·refine Zl (Zb (.n 6) rfl (Zg (Zak (zG (z6 (zJ rfl ze) ?_)))))
  cases hp
  exact ⟨rfl,(hO.pk [])⟩
 ·refine Zal (ZN (Zl (Zb v_cells rfl (Zc (zP (hO.rd0 s_cells.rd) rfl) (Zb (.n 0) rfl (Zj ?_))))))
  refine Zs (zW (Zbf hp (fun x fr k=>fr 0=v_cells∧fr 10=.n (cells.length:Int)∧fr 11=.n x∧Own B h k []) (fun | .inl _,e,fr,k=>e=(.exit 0)∧Own B h k [] | .inr x1,e,fr,k=>e=.ret∧fr 2=.n x1∧Own B h k []) ⟨rfl,rfl,rfl,(hO.pk [])⟩ ?_ ?_))
  ·rintro x U O ⟨I,o,d,l⟩ R hp
   dsimp only [zu.s0] at hp
   refine Zl (Zc (z3 d o) (Zg (ZN (zB hp rfl (fun v hp=>?_) (fun v hp=>?_)))))
   ·refine Zal (ZN (zW (Zl (Zb _ d (Zb (.n x) rfl (Zj ?_))))))
    refine Zs (Zl (Zb (.n 0) rfl (Zg (zW (Zbf hp (fun x2 fr k=>fr 0=v_cells∧fr 3=.n x∧fr 10=.n (cells.length:Int)∧fr 11=.n x∧fr 14=.n x2∧Own B h k []) (fun | .inl _,e,fr,k=>e=(.exit 2)∧fr 0=v_cells∧fr 10=.n (cells.length:Int)∧fr 11=.n x∧Own B h k [] | .inr x3,e,fr,k=>e=.ret∧fr 2=.n x3∧Own B h k []) ⟨I,rfl,o,d,rfl,(l.pk [])⟩ ?_ ?_)))))
    ·rintro x2 X F ⟨f,s,p,q,g,c⟩ S hp
     dsimp only [zu.s1] at hp
     refine Zl (Zc (z3 g rfl) (Zg (ZN (zB hp rfl (fun w hp=>?_) (fun w hp=>?_)))))
     ·refine Zal (ZN (zW (Zl (Zb _ g (Zb (.n x2) rfl (Zj ?_))))))
      refine Zs (Zl (Zb _ f (Zb _ s (Zb (.n x2) rfl ?_))))
      obtain ⟨x4,⟨Y,Q,D,rfl,E⟩,hp⟩:=bdk hp fun _=>ZbC.ok (h:=F)  (c.rd0 s_cells.rd)
      refine Zat rfl rfl D ?_
      have m:=c.call E rfl
      refine Zb (.n x4) rfl (Zg (Zl (Zb (.n x4) rfl (Zc (ZcH rfl rfl) (Zg (zB hp rfl (fun y hp=>?_) (fun y hp=>?_)))))))
      ·refine Zl (Zb (.n x4) rfl (Zb (.n x4) rfl (Zg (Zak (Zbh (zG ?_))))))
       cases hp
       exact ⟨nofun,rfl,rfl,(m.pk [])⟩
      ·refine ZbN (zV (Zs (zF (ckk hp fun A hp=>Zc (zn g rfl A) (Zb (.n (x2 + 1)) rfl (Zj ?_))))))
       cases hp
       exact ⟨rfl,f,s,p,q,rfl,(m.pk [])⟩
     ·refine ZaZ (zM ?_)
      cases hp
      exact ⟨nofun,rfl,f,p,q,(c.pk [])⟩
    rintro (_ | x3) hp _ W P j
    ·obtain ⟨rfl,J,K,L,b⟩:=j
     refine Zav (zV (Zs (zF (ckk hp fun C hp=>Zc (zn L rfl C) (Zb (.n (x + 1)) rfl (Zj ?_))))))
     cases hp
     exact ⟨rfl,J,K,rfl,(b.pk [])⟩
    ·obtain ⟨rfl,M,b⟩:=j
     refine Zbh (Zbh (zG ?_))
     cases hp
     exact ⟨nofun,rfl,M,(b.pk [])⟩
   ·refine ZaZ (zM ?_)
    cases hp
    exact ⟨nofun,rfl,(l.pk [])⟩
  rintro (_ | x1) hp _ T N i
  ·obtain ⟨rfl,a⟩:=i
   refine Zav (Zs (Zl (Zb (.n 0) rfl (Zg (Zak (z6 (zJ rfl ze) ?_))))))
   cases hp
   exact ⟨rfl,(a.pk [])⟩
  ·obtain ⟨rfl,H,a⟩:=i
   refine Zbh (zG (z6 (zJ H ze) ?_))
   cases hp
   exact ⟨rfl,(a.pk [])⟩

theorem Zcg.ok {h:Hp} {x:Int} {y:Int}   {r:Int × Int} (hp:Zcg x y=some r) :
  ∃ u k',Is G 98 [.i .u64 x,.i .u64 y] h u k'∧V.tu [.i .u64 r.1,.i .u64 r.2]=u∧Own (fun r=>r < h.n) h k' []:=by
 refine WC.is (ZaI ZdJ ?_)
 unfold Zcg at hp
 let B:Nat→Prop:=(fun r=>r < h.n)
 have hO:Own B h h []:=Own.start0 h
 refine Zl (Zb (.i .u64 0) rfl (Zb (.i .u64 0) rfl (Zg (Zl (Zb (.i .u64 x) rfl ?_)))))
 refine Zc (Zdb (v:=.i .u64 (Z4 .u64 x 4294967295)) rfl rfl (by decide) rfl) (Zb (.i .u64 (Z4 .u64 x 4294967295)) rfl (Zg (Zl (Zb (.i .u64 x) rfl (Zc (Zdz (v:=.i .u64 (ZT .u64 x 32)) rfl rfl (by decide) (Zcv (by decide))) (Zb (.i .u64 (ZT .u64 x 32)) rfl ?_))))))
 refine Zg (Zl (Zb (.i .u64 y) rfl (Zc (Zdb (v:=.i .u64 (Z4 .u64 y 4294967295)) rfl rfl (by decide) rfl) (Zb (.i .u64 (Z4 .u64 y 4294967295)) rfl (Zg ?_)))))
 refine Zl (Zb (.i .u64 y) rfl (Zc (Zdz (v:=.i .u64 (ZT .u64 y 32)) rfl rfl (by decide) (Zcv (by decide))) (Zb (.i .u64 (ZT .u64 y 32)) rfl (Zg (Zl ?_)))))
 refine Zb (.i .u64 (Z4 .u64 x 4294967295)) rfl (Zb (.i .u64 (Z4 .u64 y 4294967295)) rfl (Zc (Zdb (v:=.i .u64 (zh .u64 (Z4 .u64 x 4294967295) (Z4 .u64 y 4294967295))) rfl rfl (by decide) rfl) (Zb (.i .u64 (zh .u64 (Z4 .u64 x 4294967295) (Z4 .u64 y 4294967295))) rfl (Zg (Zl (Zb (.i .u64 (ZT .u64 x 32)) rfl ?_))))))
 refine Zb (.i .u64 (Z4 .u64 y 4294967295)) rfl (Zc (Zdb (v:=.i .u64 (zh .u64 (ZT .u64 x 32) (Z4 .u64 y 4294967295))) rfl rfl (by decide) rfl) (Zb (.i .u64 (zh .u64 (Z4 .u64 x 4294967295) (Z4 .u64 y 4294967295))) rfl (Zc (Zdz (v:=.i .u64 (ZT .u64 (zh .u64 (Z4 .u64 x 4294967295) (Z4 .u64 y 4294967295)) 32)) rfl rfl (by decide) (Zcv (by decide))) (Zc (Zdb (v:=.i .u64 (Zah .u64 (zh .u64 (ZT .u64 x 32) (Z4 .u64 y 4294967295)) (ZT .u64 (zh .u64 (Z4 .u64 x 4294967295) (Z4 .u64 y 4294967295)) 32))) rfl rfl (by decide) rfl) (Zb (.i .u64 (Zah .u64 (zh .u64 (ZT .u64 x 32) (Z4 .u64 y 4294967295)) (ZT .u64 (zh .u64 (Z4 .u64 x 4294967295) (Z4 .u64 y 4294967295)) 32))) rfl (Zg (ZN ?_)))))))
 refine zF (Zb (.i .u64 (Zah .u64 (zh .u64 (ZT .u64 x 32) (Z4 .u64 y 4294967295)) (ZT .u64 (zh .u64 (Z4 .u64 x 4294967295) (Z4 .u64 y 4294967295)) 32))) rfl (Zc (Zdb (v:=.i .u64 (Z4 .u64 (Zah .u64 (zh .u64 (ZT .u64 x 32) (Z4 .u64 y 4294967295)) (ZT .u64 (zh .u64 (Z4 .u64 x 4294967295) (Z4 .u64 y 4294967295)) 32)) 4294967295)) rfl rfl (by decide) rfl) (Zb (.i .u64 (Z4 .u64 (Zah .u64 (zh .u64 (ZT .u64 x 32) (Z4 .u64 y 4294967295)) (ZT .u64 (zh .u64 (Z4 .u64 x 4294967295) (Z4 .u64 y 4294967295)) 32)) 4294967295)) rfl (Zg (Zl (Zb (.i .u64 (Zah .u64 (zh .u64 (ZT .u64 x 32) (Z4 .u64 y 4294967295)) (ZT .u64 (zh .u64 (Z4 .u64 x 4294967295) (Z4 .u64 y 4294967295)) 32))) rfl ?_))))))
 refine Zc (Zdz (v:=.i .u64 (ZT .u64 (Zah .u64 (zh .u64 (ZT .u64 x 32) (Z4 .u64 y 4294967295)) (ZT .u64 (zh .u64 (Z4 .u64 x 4294967295) (Z4 .u64 y 4294967295)) 32)) 32)) rfl rfl (by decide) (Zcv (by decide))) (Zb (.i .u64 (ZT .u64 (Zah .u64 (zh .u64 (ZT .u64 x 32) (Z4 .u64 y 4294967295)) (ZT .u64 (zh .u64 (Z4 .u64 x 4294967295) (Z4 .u64 y 4294967295)) 32)) 32)) rfl (Zg (Zl (Zb (.i .u64 (Z4 .u64 (Zah .u64 (zh .u64 (ZT .u64 x 32) (Z4 .u64 y 4294967295)) (ZT .u64 (zh .u64 (Z4 .u64 x 4294967295) (Z4 .u64 y 4294967295)) 32)) 4294967295)) rfl (Zb (.i .u64 (Z4 .u64 x 4294967295)) rfl (Zb (.i .u64 (ZT .u64 y 32)) rfl ?_))))))
 refine Zc (Zdb (v:=.i .u64 (zh .u64 (Z4 .u64 x 4294967295) (ZT .u64 y 32))) rfl rfl (by decide) rfl) (Zc (Zdb (v:=.i .u64 (Zah .u64 (Z4 .u64 (Zah .u64 (zh .u64 (ZT .u64 x 32) (Z4 .u64 y 4294967295)) (ZT .u64 (zh .u64 (Z4 .u64 x 4294967295) (Z4 .u64 y 4294967295)) 32)) 4294967295) (zh .u64 (Z4 .u64 x 4294967295) (ZT .u64 y 32)))) rfl rfl (by decide) rfl) (Zb (.i .u64 (Zah .u64 (Z4 .u64 (Zah .u64 (zh .u64 (ZT .u64 x 32) (Z4 .u64 y 4294967295)) (ZT .u64 (zh .u64 (Z4 .u64 x 4294967295) (Z4 .u64 y 4294967295)) 32)) 4294967295) (zh .u64 (Z4 .u64 x 4294967295) (ZT .u64 y 32)))) rfl (Zg (Zl (Zb (.i .u64 (ZT .u64 x 32)) rfl (Zb (.i .u64 (ZT .u64 y 32)) rfl ?_))))))
 refine Zc (Zdb (v:=.i .u64 (zh .u64 (ZT .u64 x 32) (ZT .u64 y 32))) rfl rfl (by decide) rfl) (Zb (.i .u64 (ZT .u64 (Zah .u64 (zh .u64 (ZT .u64 x 32) (Z4 .u64 y 4294967295)) (ZT .u64 (zh .u64 (Z4 .u64 x 4294967295) (Z4 .u64 y 4294967295)) 32)) 32)) rfl (Zc (Zdb (v:=.i .u64 (Zah .u64 (zh .u64 (ZT .u64 x 32) (ZT .u64 y 32)) (ZT .u64 (Zah .u64 (zh .u64 (ZT .u64 x 32) (Z4 .u64 y 4294967295)) (ZT .u64 (zh .u64 (Z4 .u64 x 4294967295) (Z4 .u64 y 4294967295)) 32)) 32))) rfl rfl (by decide) rfl) (Zb (.i .u64 (Zah .u64 (Z4 .u64 (Zah .u64 (zh .u64 (ZT .u64 x 32) (Z4 .u64 y 4294967295)) (ZT .u64 (zh .u64 (Z4 .u64 x 4294967295) (Z4 .u64 y 4294967295)) 32)) 4294967295) (zh .u64 (Z4 .u64 x 4294967295) (ZT .u64 y 32)))) rfl (Zc (Zdz (v:=.i .u64 (ZT .u64 (Zah .u64 (Z4 .u64 (Zah .u64 (zh .u64 (ZT .u64 x 32) (Z4 .u64 y 4294967295)) (ZT .u64 (zh .u64 (Z4 .u64 x 4294967295) (Z4 .u64 y 4294967295)) 32)) 4294967295) (zh .u64 (Z4 .u64 x 4294967295) (ZT .u64 y 32))) 32)) rfl rfl (by decide) (Zcv (by decide))) (Zc (Zdb (v:=.i .u64 (Zah .u64 (Zah .u64 (zh .u64 (ZT .u64 x 32) (ZT .u64 y 32)) (ZT .u64 (Zah .u64 (zh .u64 (ZT .u64 x 32) (Z4 .u64 y 4294967295)) (ZT .u64 (zh .u64 (Z4 .u64 x 4294967295) (Z4 .u64 y 4294967295)) 32)) 32)) (ZT .u64 (Zah .u64 (Z4 .u64 (Zah .u64 (zh .u64 (ZT .u64 x 32) (Z4 .u64 y 4294967295)) (ZT .u64 (zh .u64 (Z4 .u64 x 4294967295) (Z4 .u64 y 4294967295)) 32)) 4294967295) (zh .u64 (Z4 .u64 x 4294967295) (ZT .u64 y 32))) 32))) rfl rfl (by decide) rfl) (Zb (.i .u64 (Zah .u64 (Zah .u64 (zh .u64 (ZT .u64 x 32) (ZT .u64 y 32)) (ZT .u64 (Zah .u64 (zh .u64 (ZT .u64 x 32) (Z4 .u64 y 4294967295)) (ZT .u64 (zh .u64 (Z4 .u64 x 4294967295) (Z4 .u64 y 4294967295)) 32)) 32)) (ZT .u64 (Zah .u64 (Z4 .u64 (Zah .u64 (zh .u64 (ZT .u64 x 32) (Z4 .u64 y 4294967295)) (ZT .u64 (zh .u64 (Z4 .u64 x 4294967295) (Z4 .u64 y 4294967295)) 32)) 4294967295) (zh .u64 (Z4 .u64 x 4294967295) (ZT .u64 y 32))) 32))) rfl (Zg ?_)))))))
 refine Zl (Zb (.i .u64 x) rfl (Zb (.i .u64 y) rfl (Zc (Zdb (v:=.i .u64 (zh .u64 x y)) rfl rfl (by decide) rfl) (Zb (.i .u64 (zh .u64 x y)) rfl (Zg (Zak ?_))))))
 refine z6 (zJ rfl (zJ rfl ze)) ?_
 cases hp
 exact ⟨rfl,(hO.pk [])⟩

theorem ZbR.ok {h:Hp} {x:Int} {y:Int}   {r:Int × Int} (hp:ZbR x y=some r) :
  ∃ u k',Is G 89 [.i .u64 x,.i .u64 y] h u k'∧V.tu [.i .u64 r.1,.i .u64 r.2]=u∧Own (fun r=>r < h.n) h k' []:=by
 refine WC.is (ZaI Zex ?_)
 unfold ZbR at hp
 let B:Nat→Prop:=(fun r=>r < h.n)
 have hO:Own B h h []:=Own.start0 h
 refine Zl (Zb (.i .u64 0) rfl (Zb (.i .u64 0) rfl (Zg (ZN (Zmt rfl rfl (ZbN ?_))))))
 refine Zs (Zl (Zb (.i .u64 x) rfl (Zb (.i .u64 y) rfl ?_)))
 obtain ⟨⟨x1,x2⟩,⟨e,d,a,rfl,c⟩,hp⟩:=bdk hp fun _=>Zcg.ok (h:=h)  
 refine Zat rfl rfl a ?_
 have b:=hO.call c rfl
 refine Zb (.tu [.i .u64 x1,.i .u64 x2]) rfl (Zc (ZaJ rfl rfl) (Zc (ZaJ rfl rfl) (Zb (.i .u64 x1) rfl (Zb (.i .u64 x2) rfl (Zg (Zl ?_))))))
 refine Zb (.i .u64 x1) rfl (Zb (.i .u64 x2) rfl (Zb (.i .u64 x1) rfl (Zb (.i .u64 x2) rfl (Zg (Zak (z6 (zJ rfl (zJ rfl ze)) ?_))))))
 cases hp
 exact ⟨rfl,(b.pk [])⟩

theorem z2.ok {h:Hp} {x:List Int} {count:Int} {v_x:V} (s_x:Sl z7 h v_x x) {r:(List Int)} (hp:z2 x count=some r) :
  ∃ u k',Is G 83 [v_x,.n count] h u k'∧∃ A,A=u∧Own (fun r=>r < h.n) h k' [eSl z7 A r]:=by
 refine WC.is (ZaI Zcp ?_)
 unfold z2 at hp
 let B:Nat→Prop:=(fun r=>r < h.n)
 have hO:Own B h h []:=Own.start0 h
 refine Zl (Zb (.sn) rfl (Zg (ZN (Zl (Zb (.n count) rfl ?_)))))
 refine Zc (z3 rfl rfl) (Zg (Zgw hp (fun _ e fr k=>e=.normal∧fr 0=v_x∧fr 1=.n count∧Own B h k []) (fun _ hp=>?_) ?_))
 ·refine zB hp rfl (fun C hp=>?_) (fun C hp=>?_)
  ·exact nomatch hp
  ·refine ZbN ?_
   cases hp
   exact ⟨rfl,rfl,rfl,(hO.pk [])⟩
 rintro _ hp _ aq Y ⟨rfl,p,ab,s⟩
 refine Zs (Zl (Zb _ p (Zc (zP (s.rd0 s_x.rd) rfl) (ckk hp fun H hp=>Zc (ZcB rfl H) (Zb _ ab (ckk hp fun I hp=>?_))))))
 refine Zc (ZcB rfl I) ?_
 obtain ⟨⟨x1,x2⟩,⟨ax,aa,M,rfl,X⟩,hp⟩:=bdk hp fun _=>ZbR.ok (h:=Y)  
 refine Zat rfl rfl M ?_
 have S:=s.call X rfl
 refine Zb (.tu [.i .u64 x1,.i .u64 x2]) rfl (Zc (ZaJ rfl rfl) (Zc (ZaJ rfl rfl) (Zb (.i .u64 x1) rfl (Zb (.i .u64 x2) rfl (Zg (ZN (ZN ?_)))))))
 refine zF (Zb (.i .u64 x1) rfl (Zc (Zc6 rfl rfl) (Zb (.b (decide (0 < x1))) rfl (zO 3 (fun f k=>aa=k∧f 26=.b ((decide (0 < x1)) || (decide (9223372036854775807 < x2)))∧f 0=v_x∧f 6=.i .u64 x2) ?_ ?_))))
 ·rcases bc (decide (0 < x1)) with c | c
  ·refine Zr rfl c (Zr rfl c (Zc (Zbt (w:=(decide (0 < x1)) || (decide (9223372036854775807 < x2))) rfl c rfl) (Zj ?_)))
   exact ⟨rfl,rfl,p,rfl⟩
  ·refine Z5 rfl c (Zb (.i .u64 x2) rfl (Z5 rfl c (Zc (Zc6 rfl rfl) (Zc (Zbu rfl c rfl) (Zj ?_)))))
   exact ⟨rfl,rfl,p,rfl⟩
 rintro ai _ ⟨rfl,Q,P,R⟩
 refine Zg (Zgw hp (fun _ e fr k=>e=.normal∧fr 0=v_x∧fr 6=.i .u64 x2∧Own B h k []) (fun _ hp=>?_) ?_)
 ·refine zB hp Q (fun D hp=>?_) (fun D hp=>?_)
  ·exact nomatch hp
  ·refine ZbN ?_
   cases hp
   exact ⟨rfl,P,R,(S.pk [])⟩
 rintro _ hp _ ar aj ⟨rfl,ac,ad,t⟩
 refine Zs (Zl (Zb _ ad (ckk hp fun J hp=>Zc (ZcB rfl J) (ckk hp fun K hp=>zq (t.mks (E:=z7) (y:=(0:Int)) (bytes:=8) (z:=x2) t.fr rfl rfl rfl K (by decide)) ?_))))
 rintro a ak ⟨aw,af,v⟩
 refine Zb a rfl (Zg (Zl (Zb a rfl (Zb _ ac (zq (v.cpy 0 rfl (v.rd0 s_x.rd) rfl rfl (fun _=>rfl)) ?_)))))
 rintro _ al ⟨rfl,ag,T⟩
 refine Zb (.n ((min x.length (List.replicate x2.toNat (0:Int)).length:Nat):Int)) rfl (Zg (ZN (zW (Zbf hp (fun | (newslice,n),fr,k=>fr 7=a∧fr 8=.n n∧Own B h k [eSl z7 a newslice]) (fun newslice1 e fr k=>e=(.exit 0)∧fr 7=a∧Own B h k [eSl z7 a newslice1]) ⟨rfl,rfl,(T.pk [0])⟩ ?_ ?_))))
 ·rintro ⟨newslice,n⟩ av o ⟨d,m,j⟩ ap hp
  dsimp only [z2.s0] at hp
  refine ZN (Zl (Zb _ m (Zb _ d (Zc (zP (j.sl 0 rfl) rfl) (Zc (z3 rfl rfl) (Zg (zB hp rfl (fun F hp=>?_) (fun F hp=>?_))))))))
  ·refine Zal (zW (Zfy ?_))
   have l:=j.bump 10
   have O:=Fresh.start o 10
   have ao:∀ {i:Nat},h.n≤o.n + i:=Nat.le_trans j.n (Nat.le_add_right _ _)
   refine Zbi _ m (Zbi _ d (Zbi _ m (ckk hp fun g hp=>zA (ZiX (E:=z7) (z:=n) (l.sl 0 rfl) rfl rfl g) (Zbi _ d (Zbi _ m (zA (Zlq (E:=z7) (z:=n) (l.sl 0 rfl) rfl rfl g) (Zei (l.cpyF (E:=z7) (z:=n) 0 rfl g (Sl.cutU (l.sl 0 rfl) g:Sl z7 (o.bump 10) (V.cut a 0 n.toNat) (newslice.take n.toNat)) rfl rfl (fun _=>rfl)) ?_)))))))
   rintro _ an ay ⟨rfl,N,W⟩
   have ah:=O.kept N (by decide)
   refine ckk hp fun L hp=>zA (zn rfl rfl L) (Zbi (.n (n + ((min (newslice.take n.toNat).length (newslice.drop n.toNat).length:Nat):Int))) rfl (Zcd ?_))
   refine And.intro ?_ ?_
   ·intro q hq
    cases hq
   refine zV ?_
   cases hp
   exact ⟨rfl,d,rfl,(W.pk [0])⟩
  ·refine ZaZ (zM ?_)
   cases hp
   exact ⟨nofun,rfl,d,(j.pk [0])⟩
 rintro newslice1 hp _ au am ⟨rfl,ae,U⟩
 refine Zav (Zs (Zl (Zb _ ae (Zb a rfl (Zg (Zak ?_))))))
 refine z6 (zJ rfl ze) ?_
 cases hp
 exact ⟨a,rfl,(U.pk [0])⟩

theorem zQ.ok {h:Hp} {cells:List Za} {v:Int} {v_cells:V} (s_cells:Sl Zd h v_cells cells) {r:(List Int) × (List Int)} (hp:zQ cells v=some r) :
  ∃ u k',Is G 67 [v_cells,.n v] h u k'∧∃ ap ar,V.tu [ap,ar]=u∧Own (fun r=>r < h.n) h k' [eSl z7 ap r.1,eSl z7 ar r.2]:=by
 refine WC.is (ZaI ZdA ?_)
 unfold zQ at hp
 let B:Nat→Prop:=(fun r=>r < h.n)
 have hO:Own B h h []:=Own.start0 h
 refine Zl (Zb (.sn) rfl (Zb (.sn) rfl (Zg (Zl (zq (hO.bsl (E:=z7) (l:=([(-1)]:List Int)) hO.fr (by rw [(zp (v:=.n (-1)) rfl Za3)]; rfl) rfl) ?_)))))
 rintro a1 al ⟨bA,a3,J⟩
 refine Zb v_cells rfl (Zc (zP (J.rd0 s_cells.rd) rfl) ?_)
 obtain ⟨x,⟨bF,bj,aC,c,rfl,aL⟩,hp⟩:=bdk hp fun _=>z2.ok (h:=al)  (J.sl 0 rfl:Sl z7 al a1 ([(-1)]:List Int))
 refine Zat rfl rfl aC ?_
 have ai:=J.call aL rfl
 refine zq (ai.bsl (E:=z7) (l:=([(-1)]:List Int)) ai.fr (by rw [(zp (v:=.n (-1)) rfl Za3)]; rfl) rfl) ?_
 rintro a2 am ⟨bB,a5,L⟩
 refine Zb v_cells rfl (Zc (zP (L.rd0 s_cells.rd) rfl) ?_)
 obtain ⟨x1,⟨bG,bk,aD,d,rfl,aM⟩,hp⟩:=bdk hp fun _=>z2.ok (h:=am)  (L.sl 2 rfl:Sl z7 am a2 ([(-1)]:List Int))
 refine Zat rfl rfl aD ?_
 have aj:=L.call aM rfl
 refine Zb c rfl (Zb d rfl (Zg (Zl (Zb (.n v) rfl (zq (aj.bsl (E:=z7) (l:=[v]) aj.fr (by rw [(zp (v:=.n v) rfl Za3)]; rfl) rfl) ?_)))))
 rintro au bl ⟨bC,a6,M⟩
 refine Zb au rfl (Zg (Zl (Zb v_cells rfl (Zc (zP (M.rd0 s_cells.rd) rfl) (ckk hp fun ay hp=>zq (M.mks (E:=e_bool) (y:=false) (bytes:=1) (z:=(cells.length:Int)) M.fr rfl rfl rfl ay (by decide)) ?_)))))
 rintro i aQ ⟨bD,a7,ak⟩
 refine Zb i rfl (Zg (Zl (Zb i rfl (Zb (.n v) rfl (ckk hp fun T hp=>Zc (zm (ak.sl 5 rfl:Sl e_bool aQ i (List.replicate ((cells.length:Int):Int).toNat false)) rfl rfl T) ?_)))))
 refine zq (ak.ste (y:=true) 5 rfl rfl (Zh T) rfl rfl ⟨rfl,Nat.le_of_ble_eq_true rfl,rfl⟩ rfl) ?_
 rintro _ bm ⟨rfl,a8,bp,aJ⟩
 refine Zg (ZN (zW (Zbf hp (fun | (from_,dir,l,met),fr,k=>∃ o,fr 0=v_cells∧fr 6=c∧fr 7=d∧fr 8=o∧fr 9=i∧Own B h k [eSl z7 c from_,eSl z7 d dir,eSl z7 o l,eSl e_bool i met]) (fun | (from_1,dir1),e,fr,k=>e=(.exit 0)∧fr 6=c∧fr 7=d∧Own B h k [eSl z7 c from_1,eSl z7 d dir1]) ⟨au,rfl,rfl,rfl,rfl,rfl,(aJ.pk [1,3,4,5])⟩ ?_ ?_)))
 ·rintro ⟨from_,dir,l,met⟩ bw bo ⟨o,aT,an,ao,N,aU,j⟩ bt hp
  dsimp only [zQ.s0] at hp
  refine ZN (Zl (Zb _ N (Zc (zP (j.sl 2 rfl) rfl) (Zc (Zc6 rfl rfl) (Zg (zB hp rfl (fun av hp=>?_) (fun av hp=>?_)))))))
  ·refine Zal (zW (Zl (Zb _ N (ckk hp fun U hp=>Zc (zm (j.sl 2 rfl) rfl rfl U) (Zc (zE (j.sl 2 rfl) rfl (Zh U) rfl) ?_)))))
   refine Zb (.n (gi l (0:Int).toNat)) rfl (Zg (Zl (Zb _ N (ckk hp fun W hp=>Zc (ZiX (E:=z7) (z:=1) (j.sl 2 rfl) rfl rfl W) (Zb ((V.cut o (1:Int).toNat (l).length)) rfl ?_)))))
   refine Zg (Zl (Zb (.n 0) rfl (Zg (zW ?_))))
   have aH:=j.cutF 2 rfl W
   refine Zbf hp (fun | (from_2,dir2,l1,met1,x2),fr,k=>∃ m,fr 0=v_cells∧fr 6=c∧fr 7=d∧fr 8=m∧fr 9=i∧fr 10=.n (gi l (0:Int).toNat)∧fr 37=.n x2∧Own B h k [eSl z7 c from_2,eSl z7 d dir2,eSl z7 m l1,eSl e_bool i met1]) (fun | (from_3,dir3,l2,met2),e,fr,k=>e=(.exit 2)∧∃ C,fr 0=v_cells∧fr 6=c∧fr 7=d∧fr 8=C∧fr 9=i∧Own B h k [eSl z7 c from_3,eSl z7 d dir3,eSl z7 C l2,eSl e_bool i met2]) ⟨(V.cut o (1:Int).toNat (l).length),aT,an,ao,rfl,aU,rfl,rfl,(aH.pk [0,1,2,3])⟩ ?_ ?_
   ·rintro ⟨from_2,dir2,l1,met1,x2⟩ bz aO ⟨m,s,P,Q,R,A,O,w,g⟩ bu hp
    dsimp only [zQ.s1] at hp
    refine Zl (Zc (z3 w rfl) (Zg (ZN (zB hp rfl (fun aw hp=>?_) (fun aw hp=>?_)))))
    ·refine Zal (ZN (zW (Zl (Zb _ w (Zb (.n x2) rfl (Zj ?_))))))
     refine Zs (Zl (Zb _ s (Zb _ O (Zb (.n x2) rfl (ckk hp fun p hp=>Zc (zm (g.rd0 s_cells.rd) rfl rfl p) (Zc (Za9 (g.rd0 s_cells.rd) (Zh p) rfl rfl) ?_))))))
     refine ckk hp fun X hp=>Zc (ZaE (g.rd0 s_cells.rd) (Zh p) rfl rfl X rfl) (Zc (zE (g.rd0 s_cells.rd) rfl (Zh p) (zS X)) (Zb (.n (((gi cells (gi l (0:Int).toNat:Int).toNat).Next).get x2)) rfl (Zg (Zl (Zb (.n (((gi cells (gi l (0:Int).toNat:Int).toNat).Next).get x2)) rfl ?_)))))
     refine Zc (Zcr rfl rfl) (Zb (.b (decide (0≤(((gi cells (gi l (0:Int).toNat:Int).toNat).Next).get x2)))) rfl ?_)
     obtain ⟨t,aN,hp⟩:=Zan hp
     refine zO 6 (fun f k=>aO=k∧f 55=.b t∧f 0=v_cells∧f 10=.n (gi l (0:Int).toNat)∧f 11=.n x2∧f 12=.n (((gi cells (gi l (0:Int).toNat:Int).toNat).Next).get x2)∧f 37=.n x2∧f 6=c∧f 7=d∧f 8=m∧f 9=i) ?_ ?_
     ·clear hp; rcases Zaw aN with ⟨a,hp⟩ | ⟨a,hp⟩
      ·refine Z5 rfl a (Zb _ A (Z5 rfl a (Zb (.n (((gi cells (gi l (0:Int).toNat:Int).toNat).Next).get x2)) rfl (Z5 rfl a (ckk hp fun Y hp=>Zc (zm (g.sl 3 rfl) rfl rfl Y) (Z5 rfl a (Zc (zE (g.sl 3 rfl) rfl (Zh Y) rfl) ?_)))))))
       refine Z5 rfl a (Zc (Zdd rfl) (Zc (Zag (v:=.b t) rfl a (Eq.trans (b:=V.b (!(gi met1 (((gi cells (gi l (0:Int).toNat:Int).toNat).Next).get x2:Int).toNat))) rfl (congrArg V.b (Option.some.inj hp)))) (Zj ?_)))
       exact ⟨rfl,rfl,s,O,rfl,rfl,w,P,Q,R,A⟩
      ·refine Zr rfl a (Zr rfl a (Zr rfl a (Zr rfl a (Zr rfl a (Zc (Zab (v:=.b t) rfl a (Eq.trans (b:=V.b false) rfl (congrArg V.b (Option.some.inj hp)))) (Zj ?_))))))
       exact ⟨rfl,rfl,s,O,rfl,rfl,w,P,Q,R,A⟩
     rintro bd _ ⟨rfl,aF,ac,D,aE,q,ad,F,H,ae,I⟩
     refine Zg (zB hp aF (fun ax hp=>?_) (fun ax hp=>?_))
     ·refine Zl (Zb _ I (Zb _ q (Zb _ F (Zb _ q (Zb _ H (Zb _ q (Zb _ D ?_)))))))
      refine Zb _ aE (ckk hp fun aa hp=>Zc (zm (g.sl 3 rfl) rfl rfl aa) (zq (g.ste (y:=true) 3 rfl rfl (Zh aa) rfl rfl ⟨rfl,Nat.le_of_ble_eq_true rfl,rfl⟩ rfl) ?_))
      rintro _ bf ⟨rfl,a9,bq,af⟩
      refine ckk hp fun ab hp=>Zc (zm (af.sl 0 rfl) rfl rfl ab) (zq (af.ste (y:=(gi l (0:Int).toNat)) 0 rfl rfl (Zh ab) rfl rfl ⟨rfl,Nat.le_of_ble_eq_true rfl,rfl⟩ rfl) ?_)
      rintro _ bg ⟨rfl,ba,br,ag⟩
      refine ckk hp fun S hp=>Zc (zm (ag.sl 1 rfl) rfl rfl S) (zq (ag.ste (y:=x2) 1 rfl rfl (Zh S) rfl rfl ⟨rfl,Nat.le_of_ble_eq_true rfl,rfl⟩ rfl) ?_)
      rintro _ bh ⟨rfl,bb,bs,ah⟩
      refine Zg (zF (Zb _ ae (Zb _ q (zq (ah.bsl (E:=z7) (l:=[((gi cells (gi l (0:Int).toNat:Int).toNat).Next).get x2]) ah.fr (by rw [(zp (v:=.n (((gi cells (gi l (0:Int).toNat:Int).toNat).Next).get x2)) rfl Za3)]; rfl) rfl) ?_))))
      rintro a0 aP ⟨bE,bc,K⟩
      refine ckk hp fun az hp=>zq (K.app (bytes:=8) 2 K.fr rfl (K.sl 4 rfl:Sl z7 aP a0 [((gi cells (gi l (0:Int).toNat:Int).toNat).Next).get x2]) rfl rfl (fun _=>rfl) az (by decide)) ?_
      rintro aq bi ⟨a4,aI⟩
      refine Zb aq rfl (Zj (zV (Zs (zF (ckk hp fun aA hp=>Zc (zn ad rfl aA) (Zb (.n (x2 + 1)) rfl (Zj ?_)))))))
      cases hp
      exact ⟨rfl,aq,ac,F,H,rfl,I,D,rfl,(aI.pk [0,1,2,3])⟩
     ·refine ZbN (zV (Zs (zF (ckk hp fun aB hp=>Zc (zn ad rfl aB) (Zb (.n (x2 + 1)) rfl (Zj ?_))))))
      cases hp
      exact ⟨rfl,m,ac,F,H,ae,I,D,rfl,(g.pk [0,1,2,3])⟩
    ·refine ZaZ (zM ?_)
     cases hp
     exact ⟨nofun,rfl,m,s,P,Q,R,A,(g.pk [0,1,2,3])⟩
   rintro ⟨from_3,dir3,l2,met2⟩ hp _ bx be ⟨rfl,C,aV,aW,aX,aY,aZ,aG⟩
   refine Zav (zV ?_)
   cases hp
   exact ⟨rfl,C,aV,aW,aX,aY,aZ,(aG.pk [0,1,2,3])⟩
  ·refine ZaZ (zM ?_)
   cases hp
   exact ⟨nofun,rfl,an,ao,(j.pk [0,1])⟩
 rintro ⟨from_1,dir1⟩ hp _ bv bn ⟨rfl,aR,aS,aK⟩
 refine Zav (Zs (Zl (Zb _ aR (Zb _ aS (Zb c rfl (Zb d rfl (Zj ?_)))))))
 refine Zs (Zak (z6 (zJ rfl (zJ rfl ze)) ?_))
 cases hp
 exact ⟨c,d,rfl,(aK.pk [0,1])⟩

theorem zY.ok {h:Hp} {cells:List Za} {v_cells:V} (s_cells:Sl Zd h v_cells cells) {r:(List (List Int)) × Int} (hp:zY cells=some r) :
  ∃ u k',Is G 29 [v_cells] h u k'∧∃ ap aw,V.tu [ap,.n r.2]=u∧Own (fun r=>r < h.n) h k' [eSl eV ap aw,Zbj z7 aw r.1]:=by
 refine WC.is (ZaI ZdN ?_)
 unfold zY at hp
 let B:Nat→Prop:=(fun r=>r < h.n)
 have hO:Own B h h []:=Own.start0 h
 refine Zl (Zb (.sn) rfl (Zb (.n 0) rfl (Zg (ZN (Zl ?_)))))
 refine Zb v_cells rfl ?_
 obtain ⟨x,⟨bB,be,aJ,rfl,aU⟩,hp⟩:=bdk hp fun _=>zu.ok (h:=h)  (hO.rd0 s_cells.rd)
 refine Zat rfl rfl aJ ?_
 have w:=hO.call aU rfl
 refine Zb (.n x) rfl (Zg (Zl (Zb (.n x) rfl (Zc (ZcH rfl rfl) (Zg (zB hp rfl (fun ax hp=>?_) (fun ax hp=>?_)))))))
 ·refine Zl (Zb (.n x) rfl (Zb (.sn) rfl (Zb (.n x) rfl (Zg (Zak (zG ?_))))))
  have aP:=w.nil eV
  have aQ:=aP.allNil z7 0
  refine z6 (zJ rfl (zJ rfl ze)) ?_
  cases hp
  exact ⟨V.sn,[],rfl,(aQ.pk [0,1])⟩
 ·refine Zal (Zl (Zb (.sn) rfl (Zg (Zl ?_))))
  refine Zb v_cells rfl (Zc (zP (w.rd0 s_cells.rd) rfl) (ckk hp fun aC hp=>zq (w.mks (E:=e_bool) (y:=false) (bytes:=1) (z:=(cells.length:Int)) w.fr rfl rfl rfl aC (by decide)) ?_))
  rintro g bj ⟨bw,a6,an⟩
  refine Zb g rfl (Zg (ZN (Zl (Zb v_cells rfl (Zc (zP (an.rd0 s_cells.rd) rfl) (Zb (.n 0) rfl ?_))))))
  refine Zg (zW ?_)
  have aS:=an.nil eV
  have aT:=aS.allNil z7 0
  refine Zbf hp (fun | (l,met,x1),fr,k=>∃ d c,fr 0=v_cells∧fr 5=d∧fr 6=g∧fr 21=.n (cells.length:Int)∧fr 22=.n x1∧Own B h k [eSl eV d c,Zbj z7 c l,eSl e_bool g met]) (fun l1 e fr k=>e=(.exit 0)∧∃ q F,fr 5=q∧Own B h k [eSl eV q F,Zbj z7 F l1]) ⟨V.sn,[],rfl,rfl,rfl,rfl,rfl,(aT.pk [1,2,0])⟩ ?_ ?_
  ·rintro ⟨l,met,x1⟩ bt aX ⟨d,c,A,L,M,K,C,j⟩ bq hp
   dsimp only [zY.s0] at hp
   refine Zl (Zc (z3 C K) (Zg (ZN (zB hp rfl (fun ay hp=>?_) (fun ay hp=>?_)))))
   ·refine Zal (ZN (zW (Zl (Zb _ C (Zb (.n x1) rfl (Zj ?_))))))
    refine Zs (ZN (Zl (Zb _ M (Zb (.n x1) rfl (ckk hp fun X hp=>Zc (zm (j.sl 2 rfl) rfl rfl X) (Zc (zE (j.sl 2 rfl) rfl (Zh X) rfl) ?_))))))
    refine Zg (zB hp rfl (fun az hp=>?_) (fun az hp=>?_))
    ·refine ZaZ (zM (Zav (Zs (zF (ckk hp fun aE hp=>Zc (zn C rfl aE) (Zb (.n (x1 + 1)) rfl (Zj ?_)))))))
     cases hp
     exact ⟨rfl,d,c,A,L,M,K,rfl,(j.pk [0,1,2])⟩
    ·refine Zal (Zl (Zb _ A (Zb (.n x1) rfl ?_)))
     obtain ⟨⟨x2,x3⟩,⟨bC,bl,aK,au,s,rfl,aV⟩,hp⟩:=bdk hp fun _=>zQ.ok (h:=aX)  (j.rd0 s_cells.rd)
     refine Zat rfl rfl aK ?_
     have ao:=j.call aV rfl
     refine Zb (.tu [au,s]) rfl (Zc (ZaJ rfl rfl) (Zc (ZaJ rfl rfl) (Zb au rfl (Zb s rfl (Zg (Zl ?_))))))
     refine zq (ao.bsl (E:=z7) (l:=[]) ao.fr (by rw [Za3]; rfl) rfl) ?_
     rintro av bm ⟨bx,a7,al⟩
     refine Zb av rfl (Zg (ZN (Zl (Zb _ A (Zc (zP (al.rd0 s_cells.rd) rfl) (Zb (.n 0) rfl ?_))))))
     refine Zg (zW (Zbf hp (fun | (met1,part,x4),fr,k=>∃ m,fr 0=v_cells∧fr 5=d∧fr 6=g∧fr 7=.n x1∧fr 9=s∧fr 10=m∧fr 21=.n (cells.length:Int)∧fr 22=.n x1∧fr 37=.n (cells.length:Int)∧fr 38=.n x4∧Own B h k [eSl eV d c,Zbj z7 c l,eSl e_bool g met1,eSl z7 s x3,eSl z7 m part]) (fun | (met2,part1),e,fr,k=>e=(.exit 2)∧∃ o,fr 0=v_cells∧fr 5=d∧fr 6=g∧fr 10=o∧fr 21=.n (cells.length:Int)∧fr 22=.n x1∧Own B h k [eSl eV d c,Zbj z7 c l,eSl e_bool g met2,eSl z7 o part1]) ⟨av,A,L,M,rfl,rfl,rfl,K,C,rfl,rfl,(al.pk [0,1,2,4,5])⟩ ?_ ?_))
     ·rintro ⟨met1,part,x4⟩ bv aY ⟨m,N,S,T,U,W,O,P,Q,R,D,i⟩ br hp
      dsimp only [zY.s1] at hp
      refine Zl (Zc (z3 D R) (Zg (ZN (zB hp rfl (fun aA hp=>?_) (fun aA hp=>?_)))))
      ·refine Zal (ZN (zW (Zl (Zb _ D (Zb (.n x4) rfl (Zj ?_))))))
       refine Zs (Zl (Zb (.n x4) rfl (Zb _ U (Zc (ZaX rfl rfl) (Zb (.b (decide (x4=x1))) rfl ?_)))))
       obtain ⟨t,aW,hp⟩:=Zan hp
       refine zO 6 (fun f k=>aY=k∧f 50=.b t∧f 0=v_cells∧f 10=m∧f 11=.n x4∧f 21=.n (cells.length:Int)∧f 22=.n x1∧f 37=.n (cells.length:Int)∧f 38=.n x4∧f 5=d∧f 6=g∧f 7=.n x1∧f 9=s) ?_ ?_
       ·clear hp; rcases Zaw aW with ⟨a,hp⟩ | ⟨a,hp⟩
        ·refine Zr rfl a (Zr rfl a (Zr rfl a (Zr rfl a (Zr rfl a (Zc (Zag (v:=.b t) rfl a (Eq.trans (b:=V.b true) rfl (congrArg V.b (Option.some.inj hp)))) (Zj ?_))))))
         exact ⟨rfl,rfl,N,O,rfl,P,Q,R,D,S,T,U,W⟩
        ·refine Z5 rfl a (Zb _ W (Z5 rfl a (Zb (.n x4) rfl (Z5 rfl a (ckk hp fun Y hp=>Zc (zm (i.sl 3 rfl) rfl rfl Y) (Z5 rfl a (Zc (zE (i.sl 3 rfl) rfl (Zh Y) rfl) ?_)))))))
         refine Z5 rfl a (Zc (Zcr rfl rfl) (Zc (Zab (v:=.b t) rfl a (Eq.trans (b:=V.b (decide (0≤(gi x3 x4.toNat)))) rfl (congrArg V.b (Option.some.inj hp)))) (Zj ?_)))
         exact ⟨rfl,rfl,N,O,rfl,P,Q,R,D,S,T,U,W⟩
       rintro bd _ ⟨rfl,aL,ab,ac,ad,ae,af,ag,ah,ai,H,aj,ak⟩
       refine Zg (zB hp aL (fun aB hp=>?_) (fun aB hp=>?_))
       ·refine Zl (Zb _ H (Zb _ ad (ckk hp fun aa hp=>Zc (zm (i.sl 2 rfl) rfl rfl aa) (zq (i.ste (y:=true) 2 rfl rfl (Zh aa) rfl rfl ⟨rfl,Nat.le_of_ble_eq_true rfl,rfl⟩ rfl) ?_))))
        rintro _ bo ⟨rfl,a8,bp,am⟩
        refine Zg (zF (Zb _ ac (Zb _ ad (zq (am.bsl (E:=z7) (l:=[x4]) am.fr (by rw [(zp (v:=.n x4) rfl Za3)]; rfl) rfl) ?_))))
        rintro bD bf ⟨bz,a9,J⟩
        refine ckk hp fun aF hp=>zq (J.app (bytes:=8) 4 J.fr rfl (J.sl 5 rfl) rfl rfl (fun _=>rfl) aF (by decide)) ?_
        rintro aq bg ⟨ba,aM⟩
        refine Zb aq rfl (Zj (zV (Zs (zF (ckk hp fun aG hp=>Zc (zn ah rfl aG) (Zb (.n (x4 + 1)) rfl (Zj ?_)))))))
        cases hp
        exact ⟨rfl,aq,ab,ai,H,aj,ak,rfl,ae,af,ag,rfl,(aM.pk [0,1,2,3,4])⟩
       ·refine ZbN (zV (Zs (zF (ckk hp fun aH hp=>Zc (zn ah rfl aH) (Zb (.n (x4 + 1)) rfl (Zj ?_))))))
        cases hp
        exact ⟨rfl,m,ab,ai,H,aj,ak,ac,ae,af,ag,rfl,(i.pk [0,1,2,3,4])⟩
      ·refine ZaZ (zM ?_)
       cases hp
       exact ⟨nofun,rfl,m,N,S,T,O,P,Q,(i.pk [0,1,2,4])⟩
     rintro ⟨met2,part1⟩ hp _ bu bn ⟨rfl,o,a0,a4,a5,a1,a2,a3,I⟩
     refine Zav (Zs (zF (Zb _ a4 (Zb _ a1 (zq (I.bsl (E:=eV) (l:=[o]) I.fr (by rw [(zp (v:=o) rfl Za3)]; simp only [fill,(I.sl 3 rfl).cells]; simp [over]) rfl) ?_)))))
     rintro bE bh ⟨bA,bb,p⟩
     refine ckk hp fun aI hp=>zq (p.appV (bytes:=24) 0 p.fr rfl (p.sl 4 rfl) rfl rfl (by simp only [List.all_cons,List.all_nil,Bool.and_true]; exact (p.sl 3 rfl).oneV) (by rw [(p.allLen 1 rfl:(c).length=(l).length)]; exact aI) (by decide)) ?_
     rintro ar bi ⟨bc,aN⟩
     have aO:=aN.absorb 1 3 rfl rfl (by decide)
     refine Zb ar rfl (Zj (zV (Zs (zF (ckk hp fun aD hp=>Zc (zn a3 rfl aD) (Zb (.n (x1 + 1)) rfl (Zj ?_)))))))
     cases hp
     exact ⟨rfl,ar,c++[o],a0,rfl,a5,a2,rfl,(aO.pk [0,1,2])⟩
   ·refine ZaZ (zM ?_)
    cases hp
    exact ⟨nofun,rfl,d,c,L,(j.pk [0,1])⟩
  rintro l1 hp _ bs bk ⟨rfl,q,F,aZ,aR⟩
  refine Zav (Zs (Zl (Zb _ aZ (Zb q rfl (Zb (.n 0) rfl (Zg ?_))))))
  refine Zak (z6 (zJ rfl (zJ rfl ze)) ?_)
  cases hp
  exact ⟨q,F,rfl,(aR.pk [0,1])⟩

theorem Zb1.ok {h:Hp} {cells:List Za} {v_cells:V} (s_cells:Sl Zd h v_cells cells) {r:Bool} (hp:Zb1 cells=some r) :
  ∃ u k',Is G 32 [v_cells] h u k'∧V.b r=u∧Own (fun r=>r < h.n) h k' []:=by
 refine WC.is (ZaI ZdO ?_)
 unfold Zb1 at hp
 let B:Nat→Prop:=(fun r=>r < h.n)
 have hO:Own B h h []:=Own.start0 h
 refine Zl (Zb (.b false) rfl (Zg (Zl (Zb v_cells rfl ?_))))
 obtain ⟨⟨x,x1⟩,⟨o,j,e,d,l,rfl,i⟩,hp⟩:=bdk hp fun _=>zY.ok (h:=h)  (hO.rd0 s_cells.rd)
 refine Zat rfl rfl e ?_
 have c:=hO.call i rfl
 refine Zb (.tu [d,.n x1]) rfl (Zc (ZaJ rfl rfl) (Zc (ZaJ rfl rfl) (Zb d rfl (Zb (.n x1) rfl (Zg (Zl ?_))))))
 refine Zb (.n x1) rfl (Zc (ZaX rfl rfl) (Zb (.b (decide (x1=0))) rfl (zO 4 (fun f k=>j=k∧f 16=.b ((decide (x1=0)) && (decide ((x.length:Int)=1)))) ?_ ?_)))
 ·rcases bc (decide (x1=0)) with a | a
  ·refine Z5 rfl a (Zb d rfl (Z5 rfl a (Zc (Zhz (n:=(x).length) (c.sl 0 rfl) (c.allLen 1 rfl:(l).length=(x).length) rfl) (Z5 rfl a (Zc (ZaX rfl rfl) (Zc (Zda rfl a rfl) (Zj ?_)))))))
   exact ⟨rfl,rfl⟩
  ·refine Zr rfl a (Zr rfl a (Zr rfl a (Zc (ZcZ (w:=(decide (x1=0)) && (decide ((x.length:Int)=1))) rfl a rfl) (Zj ?_))))
   exact ⟨rfl,rfl⟩
 rintro m _ ⟨rfl,g⟩
 refine Zb _ g (Zg (Zak (z6 (zJ rfl ze) ?_)))
 cases hp
 exact ⟨rfl,(c.pk [])⟩

theorem Zaz.ok {h:Hp} {d:Z0} {cells:List Za} {v_cells:V} (s_cells:Sl Zd h v_cells cells) {r:Bool} (hp:Zaz d cells=some r) :
  ∃ u k',Is G 220 [.ag (Zt.c d),v_cells] h u k'∧V.b r=u∧Own (fun r=>r < h.n) h k' []:=by
 refine WC.is (ZaI Zdn ?_)
 unfold Zaz at hp
 let B:Nat→Prop:=(fun r=>r < h.n)
 have hO:Own B h h []:=Own.start0 h
 refine Zl (zq (hO.boxd (cs:=Zt.c d) hO.fr rfl rfl) ?_)
 rintro _ m ⟨k,rfl,E,A,s⟩
 refine Zb (.b false) rfl (Zg (ZN (Zfy ?_)))
 have j:=s.bump 28
 have y:=Fresh.start m 28
 have F:∀ {i:Nat},h.n≤m.n + i:=Nat.le_trans s.n (Nat.le_add_right _ _)
 refine zA (zy (r:=k) (o:=0) rfl rfl) (zA (zd (j.box 0 rfl) rfl rfl) (zA (Zcr rfl rfl) (Zbi (.b (decide (0≤d.Cell))) rfl ?_)))
 refine ifk hp (fun e hp=>?_) (fun e hp=>?_)
 ·refine Zcq rfl e (zA (zy (r:=k) (o:=0) rfl rfl) (Zcq rfl e (zA (zd (j.box 0 rfl) rfl rfl) (Zcq rfl e (Zbi v_cells rfl (Zcq rfl e (zA (zP (j.rd0 s_cells.rd) rfl) (Zcq rfl e ?_))))))))
  refine zA (z3 rfl rfl) (zA (Zag (v:=.b (decide (d.Cell < (cells.length:Int)))) rfl e rfl) (Zbi (.b (decide (d.Cell < (cells.length:Int)))) rfl ?_))
  refine ifk hp (fun f hp=>?_) (fun f hp=>?_)
  ·refine Zcq rfl f (zA (zy (r:=k) (o:=0) rfl rfl) (Zcq rfl f (zA (zd (j.box 0 rfl) rfl rfl) (Zcq rfl f ?_))))
   obtain ⟨x,⟨H,D,w,rfl,t⟩,hp⟩:=bdk hp fun _=>Zay.ok (h:=(m.bump 28))  
   refine Ziy rfl rfl w ?_
   have C:=y.call t
   have g:=j.call t rfl
   refine zA (Zag (v:=.b x) rfl f rfl) (Zbi (.b x) rfl ?_)
   refine ifk hp (fun a hp=>?_) (fun a hp=>?_)
   ·refine Zcq rfl a (Zbi v_cells rfl (Zcq rfl a (zA (zy (r:=k) (o:=0) rfl rfl) (Zcq rfl a (zA (zd (g.box 0 rfl) rfl rfl) (Zcq rfl a (zA (zy (r:=k) (o:=0) rfl rfl) (Zcq rfl a ?_))))))))
    refine zA (zd (g.box 0 rfl) rfl rfl) (Zcq rfl a (ckk hp fun l hp=>zA (zm (g.rd0 s_cells.rd) rfl rfl l) (Zcq rfl a (zA (Za9 (g.rd0 s_cells.rd) (Zh l) rfl rfl) (Zcq rfl a (ckk hp fun p hp=>zA (ZaE (g.rd0 s_cells.rd) (Zh l) rfl rfl p rfl) ?_))))))
    refine Zcq rfl a (zA (zE (g.rd0 s_cells.rd) rfl (Zh l) (zS p)) (Zcq rfl a (zA (Zcr rfl rfl) (zA (Zag (v:=.b (decide (0≤(((gi cells (d.Cell:Int).toNat).Next).get d.Dir)))) rfl a rfl) (Zbi (.b (decide (0≤(((gi cells (d.Cell:Int).toNat).Next).get d.Dir)))) rfl (Zcd ?_))))))
    refine And.intro ?_ ?_
    ·intro q hq
     simp only [List.mem_cons,List.not_mem_nil,or_false] at hq
     rcases hq with rfl
     ·refine Zau ?_ ?_
      ·exact (fun h=>nomatch h)
      ·exact (fun h=>nomatch h)
    refine Zs (Zak (z6 (zJ rfl ze) ?_))
    cases hp
    exact ⟨rfl,(g.pk [])⟩
   ·refine Zar rfl a (Zar rfl a (Zar rfl a (Zar rfl a (Zar rfl a (Zar rfl a (Zar rfl a (Zar rfl a (Zar rfl a ?_))))))))
    refine Zar rfl a (zA (Zab (v:=.b false) rfl a rfl) (Zbi (.b false) rfl (Zcd ?_)))
    refine And.intro ?_ ?_
    ·intro q hq
     simp only [List.mem_cons,List.not_mem_nil,or_false] at hq
     rcases hq with rfl
     ·exact Zjg
    refine Zs (Zak (z6 (zJ rfl ze) ?_))
    cases hp
    exact ⟨rfl,(g.pk [])⟩
  ·refine Zar rfl f (Zar rfl f (Zar rfl f (zA (Zab (v:=.b false) rfl f rfl) (Zbi (.b false) rfl (Zar rfl rfl (Zar rfl rfl (Zar rfl rfl (Zar rfl rfl ?_))))))))
   refine Zar rfl rfl (Zar rfl rfl (Zar rfl rfl (Zar rfl rfl (Zar rfl rfl (Zar rfl rfl (zA (Zab (v:=.b false) rfl rfl rfl) (Zbi (.b false) rfl (Zcd ?_))))))))
   refine And.intro ?_ ?_
   ·intro q hq
    simp only [List.mem_cons,List.not_mem_nil,or_false] at hq
    rcases hq with rfl
    ·exact Zjg
   refine Zs (Zak (z6 (zJ rfl ze) ?_))
   cases hp
   exact ⟨rfl,(j.pk [])⟩
 ·refine Zar rfl e (Zar rfl e (Zar rfl e (Zar rfl e (Zar rfl e (zA (Zab (v:=.b false) rfl e rfl) (Zbi (.b false) rfl (Zar rfl rfl (Zar rfl rfl ?_))))))))
  refine Zar rfl rfl (zA (Zab (v:=.b false) rfl rfl rfl) (Zbi (.b false) rfl (Zar rfl rfl (Zar rfl rfl (Zar rfl rfl (Zar rfl rfl (Zar rfl rfl (Zar rfl rfl ?_))))))))
  refine Zar rfl rfl (Zar rfl rfl (Zar rfl rfl (Zar rfl rfl (zA (Zab (v:=.b false) rfl rfl rfl) (Zbi (.b false) rfl (Zcd ?_))))))
  refine And.intro ?_ ?_
  ·intro q hq
   simp only [List.mem_cons,List.not_mem_nil,or_false] at hq
   rcases hq with rfl
   ·exact Zjg
  refine Zs (Zak (z6 (zJ rfl ze) ?_))
  cases hp
  exact ⟨rfl,(j.pk [])⟩

theorem zz.ok {h:Hp} {d:Z0} {cells:List Za} {v_cells:V} (s_cells:Sl Zd h v_cells cells) {r:Z0} (hp:zz d cells=some r) :
  ∃ u k',Is G 221 [.ag (Zt.c d),v_cells] h u k'∧V.ag (Zt.c r)=u∧Own (fun r=>r < h.n) h k' []:=by
 refine WC.is (ZaI Zcy ?_)
 unfold zz at hp
 let B:Nat→Prop:=(fun r=>r < h.n)
 have hO:Own B h h []:=Own.start0 h
 refine Zl (zq (hO.boxd (cs:=Zt.c d) hO.fr rfl rfl) ?_)
 rintro _ af ⟨b,rfl,ar,Y,D⟩
 refine zq (D.alloc (cs:=Zt.c (⟨0,0⟩:Z0)) D.fr) ?_
 rintro _ aj ⟨f,rfl,au,aa,Q⟩
 refine Zg (ZN (Zhy ?_))
 have a:=Q.bump 10
 refine Zaj v_cells rfl (ZY rfl (zy (r:=b) (o:=0) rfl rfl) (ZY rfl (zd (a.box 0 rfl) rfl rfl) (ZY rfl (zy (r:=b) (o:=0) rfl rfl) (ZY rfl (zd (a.box 0 rfl) rfl rfl) (ckk hp fun i hp=>ZY rfl (zm (a.rd0 s_cells.rd) rfl rfl i) (ZY rfl (Za9 (a.rd0 s_cells.rd) (Zh i) rfl rfl) (ckk hp fun y hp=>?_)))))))
 refine ZY rfl (ZaE (a.rd0 s_cells.rd) (Zh i) rfl rfl y rfl) (ZY rfl (zE (a.rd0 s_cells.rd) rfl (Zh i) (zS y)) (Zaj (.n (((gi cells (d.Cell:Int).toNat).Next).get d.Dir)) rfl (Zae (Zs (ZN (Zl (Zc (Zdc (cs:=Zb9.c (⟨1,0,(-1),2⟩:A4 Int)) (by rw [(zp (v:=.n 1) rfl (zp (v:=.n 0) rfl (zp (v:=.n (-1)) rfl (zp (v:=.n 2) rfl Za3))))]; rfl)) ?_)))))))
 refine Zb (.n 0) rfl (Zg (zW (Zbf hp (fun x fr k=>fr 1=v_cells∧fr 2=.p b 0∧fr 4=.p f 0∧fr 5=.n (((gi cells (d.Cell:Int).toNat).Next).get d.Dir)∧fr 18=.ag (Zb9.c (⟨1,0,(-1),2⟩:A4 Int))∧fr 19=.n x∧Own B h k [zI b (Zt.c d),zI f (Zt.c (⟨0,0⟩:Z0))]) (fun | .inl _,e,fr,k=>e=(.exit 0)∧fr 2=.p b 0∧fr 4=.p f 0∧Own B h k [zI b (Zt.c d),zI f (Zt.c (⟨0,0⟩:Z0))] | .inr x1,e,fr,k=>e=.ret∧fr 4=.p f 0∧Own B h k [zI f (Zt.c x1)]) ⟨rfl,rfl,rfl,rfl,rfl,rfl,(a.pk [0,1])⟩ ?_ ?_)))
 ·rintro x ay U ⟨H,w,l,J,I,t,m⟩ aw hp
  dsimp only [zz.s0] at hp
  refine Zl (Zc (z3 t rfl) (Zg (ZN (zB hp rfl (fun K hp=>?_) (fun K hp=>?_)))))
  ·refine Zal (ZN (zW (Zl (ckk hp fun A hp=>Zc (Zmy (cs:=Zb9.c (⟨1,0,(-1),2⟩:A4 Int)) (z:=x) (v:=.n ((⟨1,0,(-1),2⟩:A4 Int).get x)) I t A (Zgj A)) (Zb (.n ((⟨1,0,(-1),2⟩:A4 Int).get x)) rfl ?_)))))
   refine Zg (Zl (Zb _ J (Zc (zy (r:=b) (o:=0) w rfl) (Zc (zd (m.box 0 rfl) rfl rfl) (Zb (.n ((⟨1,0,(-1),2⟩:A4 Int).get x)) rfl ?_)))))
   obtain ⟨x2,⟨aA,al,N,rfl,S⟩,hp⟩:=bdk hp fun _=>ZaG.ok (h:=U)  
   refine Zat rfl rfl N ?_
   have F:=m.call S rfl
   refine Zc (Zdc (cs:=Zt.c (⟨((gi cells (d.Cell:Int).toNat).Next).get d.Dir,x2⟩:Z0)) (by rw [(zp (v:=.n (((gi cells (d.Cell:Int).toNat).Next).get d.Dir)) rfl (zp (v:=.n x2) rfl Za3))]; rfl)) (zq (F.alloc (cs:=Zt.c (⟨0,0⟩:Z0)) F.fr) ?_)
   rintro _ am ⟨az,rfl,av,ab,R⟩
   refine zq (R.stb (cs':=Zt.c (⟨((gi cells (d.Cell:Int).toNat).Next).get d.Dir,x2⟩:Z0)) 2 rfl rfl rfl rfl ⟨rfl,Nat.le_of_ble_eq_true rfl,rfl⟩ rfl) ?_
   rintro _ W ⟨rfl,ac,ao,q⟩
   refine Zg (Zl (Zc (Za7 (q.box 2 rfl) rfl rfl) (Zb _ H ?_)))
   obtain ⟨x3,⟨aB,an,O,rfl,T⟩,hp⟩:=bdk hp fun _=>Zaz.ok (h:=W)  (q.rd0 s_cells.rd)
   refine Zat rfl rfl O ?_
   have s:=q.call T rfl
   refine Zg (zB hp rfl (fun L hp=>?_) (fun L hp=>?_))
   ·refine Zl (Zc (Za7 (s.box 2 rfl) rfl rfl) (zq (s.stb (cs':=Zt.c (⟨((gi cells (d.Cell:Int).toNat).Next).get d.Dir,x2⟩:Z0)) 1 rfl l rfl rfl ⟨rfl,Nat.le_of_ble_eq_true rfl,rfl⟩ rfl) ?_))
    rintro _ ah ⟨rfl,ad,ap,P⟩
    refine Zg (Zak (Zbh (zG ?_)))
    cases hp
    exact ⟨nofun,rfl,l,(P.pk [1])⟩
   ·refine ZbN (zV (Zs (zF (ckk hp fun M hp=>Zc (zn t rfl M) (Zb (.n (x + 1)) rfl (Zj ?_))))))
    cases hp
    exact ⟨rfl,H,w,l,J,I,rfl,(s.pk [0,1])⟩
  ·refine ZaZ (zM ?_)
   cases hp
   exact ⟨nofun,rfl,w,l,(m.pk [0,1])⟩
 rintro (_ | x1) hp _ ax ak C
 ·obtain ⟨rfl,X,j,g⟩:=C
  refine Zav (Zs (Zl (Zc (Za7 (g.box 0 rfl) X rfl) (zq (g.stb (cs':=Zt.c d) 1 rfl j rfl rfl ⟨rfl,Nat.le_of_ble_eq_true rfl,rfl⟩ rfl) ?_))))
  rintro _ ai ⟨rfl,ae,aq,E⟩
  refine Zg (Zak (z6 (ZjN j (E.box 1 rfl) rfl ze) ?_))
  cases hp
  exact ⟨rfl,(E.pk [])⟩
 ·obtain ⟨rfl,j,g⟩:=C
  refine Zbh (zG (z6 (ZjN j (g.box 0 rfl) rfl ze) ?_))
  cases hp
  exact ⟨rfl,(g.pk [])⟩

theorem z5.ok {h:Hp} {cells:List Za} {v_cells:V} (s_cells:Sl Zd h v_cells cells) {r:(List (List Z0)) × Int} (hp:z5 cells=some r) :
  ∃ u k',Is G 203 [v_cells] h u k'∧∃ az aC,V.tu [az,.n r.2]=u∧Own (fun r=>r < h.n) h k' [eSl eV az aC,Zbj Zt aC r.1]:=by
 refine WC.is (ZaI ZdK ?_)
 unfold z5 at hp
 let B:Nat→Prop:=(fun r=>r < h.n)
 have hO:Own B h h []:=Own.start0 h
 refine Zl (Zb (.sn) rfl (Zb (.n 0) rfl (Zg (ZN (Zl ?_)))))
 refine Zb v_cells rfl ?_
 obtain ⟨x,⟨cp,bM,aN,rfl,a7⟩,hp⟩:=bdk hp fun _=>zu.ok (h:=h)  (hO.rd0 s_cells.rd)
 refine Zat rfl rfl aN ?_
 have O:=hO.call a7 rfl
 refine Zb (.n x) rfl (Zg (Zl (Zb (.n x) rfl (Zc (ZcH rfl rfl) (Zg (zB hp rfl (fun aD hp=>?_) (fun aD hp=>?_)))))))
 ·refine Zl (Zb (.n x) rfl (Zb (.sn) rfl (Zb (.n x) rfl (Zg (Zak (zG ?_))))))
  have aW:=O.nil eV
  have a2:=aW.allNil Zt 0
  refine z6 (zJ rfl (zJ rfl ze)) ?_
  cases hp
  exact ⟨V.sn,[],rfl,(a2.pk [0,1])⟩
 ·refine Zal (Zl (Zb (.sn) rfl (Zg (Zl ?_))))
  refine zq (O.mkm Zt O.fr) ?_
  rintro _ bW ⟨a,rfl,ca,bx,an⟩
  refine Zb (.mp a) rfl (Zg (ZN (Zl (Zb v_cells rfl (Zc (zP (an.rd0 s_cells.rd) rfl) (Zb (.n 0) rfl ?_))))))
  refine Zg (zW ?_)
  have a4:=an.nil eV
  have a5:=a4.allNil Zt 0
  refine Zbf hp (fun | (l,met,x1),fr,k=>∃ y C,fr 0=v_cells∧fr 5=y∧fr 6=.mp a∧fr 19=.n (cells.length:Int)∧fr 20=.n x1∧Own B h k [eSl eV y C,Zbj Zt C l,eMp Zt a met]) (fun l1 e fr k=>e=(.exit 0)∧∃ A M,fr 5=A∧Own B h k [eSl eV A M,Zbj Zt M l1]) ⟨V.sn,[],rfl,rfl,rfl,rfl,rfl,(a5.pk [1,2,0])⟩ ?_ ?_
  ·rintro ⟨l,met,x1⟩ ci b1 ⟨y,C,bf,aq,bg,ap,X,ao⟩ ce hp
   dsimp only [z5.s0] at hp
   refine Zl (Zc (z3 X ap) (Zg (ZN (zB hp rfl (fun aE hp=>?_) (fun aE hp=>?_)))))
   ·refine Zal (ZN (zW (Zl (Zb _ X (Zb (.n x1) rfl (Zj ?_))))))
    refine Zs (Zl (Zb (.n 0) rfl (Zg (zW (Zbf hp (fun | (l2,met1,x2),fr,k=>∃ g d,fr 0=v_cells∧fr 5=g∧fr 6=.mp a∧fr 7=.n x1∧fr 19=.n (cells.length:Int)∧fr 20=.n x1∧fr 23=.n x2∧Own B h k [eSl eV g d,Zbj Zt d l2,eMp Zt a met1]) (fun | (l3,met2),e,fr,k=>e=(.exit 2)∧∃ K N,fr 0=v_cells∧fr 5=K∧fr 6=.mp a∧fr 19=.n (cells.length:Int)∧fr 20=.n x1∧Own B h k [eSl eV K N,Zbj Zt N l3,eMp Zt a met2]) ⟨y,C,bf,aq,bg,rfl,ap,X,rfl,(ao.pk [0,1,2])⟩ ?_ ?_)))))
    ·rintro ⟨l2,met1,x2⟩ ck b3 ⟨g,d,D,ab,H,ac,Y,aa,F,P⟩ cf hp
     dsimp only [z5.s1] at hp
     refine Zl (Zc (z3 F rfl) (Zg (ZN (zB hp rfl (fun aF hp=>?_) (fun aF hp=>?_)))))
     ·refine Zal (ZN (zW (Zl (Zb _ F (Zb (.n x2) rfl (Zj ?_))))))
      refine Zs (Zl (Zb _ ac (Zb (.n x2) rfl (Zc (Zdc (cs:=Zt.c (⟨x1,x2⟩:Z0)) (by rw [(zp (v:=.n x1) rfl (zp (v:=.n x2) rfl Za3))]; rfl)) (zq (P.alloc (cs:=Zt.c (⟨0,0⟩:Z0)) P.fr) ?_)))))
      rintro _ b4 ⟨bu,rfl,cb,bD,aS⟩
      refine zq (aS.stb (cs':=Zt.c (⟨x1,x2⟩:Z0)) 3 rfl rfl rfl rfl ⟨rfl,Nat.le_of_ble_eq_true rfl,rfl⟩ rfl) ?_
      rintro _ bb ⟨rfl,bE,b5,Q⟩
      refine Zg (ZN (Zl (Zc (Za7 (Q.box 3 rfl) rfl rfl) (Zb _ D ?_))))
      obtain ⟨x3,⟨cq,bd,aO,rfl,a8⟩,hp⟩:=bdk hp fun _=>Zaz.ok (h:=bb)  (Q.rd0 s_cells.rd)
      refine Zat rfl rfl aO ?_
      have j:=Q.call a8 rfl
      refine Zc (Zdd rfl) (Zb (.b (!x3)) rfl (zO 4 (fun f k=>bd=k∧f 37=.b ((!x3) || (ZdG false (⟨x1,x2⟩:Z0) met1))∧f 0=v_cells∧f 19=.n (cells.length:Int)∧f 20=.n x1∧f 23=.n x2∧f 5=g∧f 6=.mp a∧f 7=.n x1∧f 9=.p bu 0) ?_ ?_))
      ·rcases bc (!x3) with i | i
       ·refine Zr rfl i (Zr rfl i (Zr rfl i (Zc (Zbt (w:=(!x3) || (ZdG false (⟨x1,x2⟩:Z0) met1)) rfl i rfl) (Zj ?_))))
        exact ⟨rfl,rfl,D,Y,aa,F,ab,H,ac,rfl⟩
       ·refine Z5 rfl i (Zb _ H (Z5 rfl i (Zc (Za7 (j.box 3 rfl) rfl rfl) (Z5 rfl i (Zc (Zlc (E:=Zt) (m:=met1) (q:=(⟨x1,x2⟩:Z0)) (j.mpP 2 rfl) rfl rfl (Mu.Zt.same)) (Zc (Zbu rfl i rfl) (Zj ?_)))))))
        exact ⟨rfl,rfl,D,Y,aa,F,ab,H,ac,rfl⟩
      rintro bL _ ⟨rfl,aQ,af,ah,ai,aj,ak,al,am,aR⟩
      refine Zg (zB hp aQ (fun aG hp=>?_) (fun aG hp=>?_))
      ·refine ZaZ (zM (Zav (Zs (zF (ckk hp fun aI hp=>Zc (zn aj rfl aI) (Zb (.n (x2 + 1)) rfl (Zj ?_)))))))
       cases hp
       exact ⟨rfl,g,d,af,ak,al,am,ah,ai,rfl,(j.pk [0,1,2])⟩
      ·refine Zal (Zl (Zb (.sn) rfl (Zg (ZN (ZN ?_)))))
       refine zF (Zc (Za7 (j.box 3 rfl) aR rfl) (zq (j.alloc (cs:=Zt.c (⟨0,0⟩:Z0)) j.fr) ?_))
       rintro _ bN ⟨bv,rfl,cc,bF,aT⟩
       refine zq (aT.stb (cs':=Zt.c (⟨x1,x2⟩:Z0)) 4 rfl rfl rfl rfl ⟨rfl,Nat.le_of_ble_eq_true rfl,rfl⟩ rfl) ?_
       rintro _ bO ⟨rfl,bG,b6,aU⟩
       refine Zg (zW ?_)
       have aV:=aU.nil Zt
       refine Zbf hp (fun | (met3,f,x4),fr,k=>∃ L ae,fr 0=v_cells∧fr 5=g∧fr 6=.mp a∧fr 7=.n x1∧fr 10=L∧fr 11=.p ae 0∧fr 19=.n (cells.length:Int)∧fr 20=.n x1∧fr 23=.n x2∧Own B h k [eSl eV g d,Zbj Zt d l2,eMp Zt a met3,eSl Zt L f,zI ae (Zt.c x4)]) (fun | (met4,f1),e,fr,k=>e=(.exit 4)∧∃ o,fr 0=v_cells∧fr 5=g∧fr 6=.mp a∧fr 7=.n x1∧fr 10=o∧fr 19=.n (cells.length:Int)∧fr 20=.n x1∧fr 23=.n x2∧Own B h k [eSl eV g d,Zbj Zt d l2,eMp Zt a met4,eSl Zt o f1]) ⟨V.sn,bv,af,ak,al,am,rfl,rfl,ah,ai,aj,(aV.pk [0,1,2,5,4])⟩ ?_ ?_
       ·rintro ⟨met3,f,x4⟩ cm bQ ⟨L,ae,ad,ax,J,ay,ar,I,au,av,aw,s⟩ cg hp
        dsimp only [z5.s2] at hp
        refine ZN (Zl (Zb _ J (Zc (Za7 (s.box 4 rfl) I rfl) (Zc (Zlc (E:=Zt) (m:=met3) (q:=x4) (s.mpP 2 rfl) rfl rfl (Mu.Zt.same)) (Zc (Zdd rfl) (Zg (zB hp rfl (fun aH hp=>?_) (fun aH hp=>?_))))))))
        ·refine Zal (ZN (zW (Zl (Zb _ J (Zc (Za7 (s.box 4 rfl) I rfl) (zq (s.mup (E:=Zt) (m:=met3) (q:=x4) (v:=true) 2 rfl rfl rfl rfl (Mu.Zt.same)) ?_))))))
         rintro _ bR ⟨rfl,bH,b7,S⟩
         refine Zg (zF (Zb _ ar (Zc (Za7 (S.box 4 rfl) I rfl) (zq (S.bsl (E:=Zt) (l:=[x4]) S.fr (by rw [(zp (v:=.ag (Zt.c x4)) rfl Za3)]; rfl) rfl) ?_))))
         rintro cu bS ⟨cn,bI,T⟩
         refine ckk hp fun aJ hp=>zq (T.app (bytes:=16) 3 T.fr rfl (T.sl 5 rfl) rfl rfl (fun _=>rfl) aJ (by decide)) ?_
         rintro aB bT ⟨bJ,U⟩
         refine Zb aB rfl (Zj (zV (Zs (ZN (Zl (Zc (Za7 (U.box 4 rfl) I rfl) (Zj ?_)))))))
         refine Zs (zF (zq (U.alloc (cs:=Zt.c (⟨0,0⟩:Z0)) U.fr) ?_))
         rintro _ bU ⟨bw,rfl,cd,bK,aX⟩
         refine zq (aX.stb (cs':=Zt.c x4) 6 rfl rfl rfl rfl ⟨rfl,Nat.le_of_ble_eq_true rfl,rfl⟩ rfl) ?_
         rintro _ ba ⟨rfl,bz,b8,W⟩
         refine Zg (zF (Zc (Za7 (W.box 6 rfl) rfl rfl) (Zb _ ad ?_)))
         obtain ⟨x5,⟨cr,bV,aP,rfl,a9⟩,hp⟩:=bdk hp fun _=>zz.ok (h:=ba)  (W.rd0 s_cells.rd)
         refine Zat rfl rfl aP ?_
         have aY:=W.call a9 rfl
         refine zq (aY.stb (cs':=Zt.c x5) 6 rfl rfl rfl rfl ⟨rfl,Nat.le_of_ble_eq_true rfl,rfl⟩ rfl) ?_
         rintro _ bX ⟨rfl,bA,b9,aZ⟩
         refine Zj ?_
         cases hp
         exact ⟨rfl,aB,bw,ad,ax,J,ay,rfl,rfl,au,av,aw,(aZ.pk [0,1,2,3,6])⟩
        ·refine ZaZ (zM ?_)
         cases hp
         exact ⟨nofun,rfl,L,ad,ax,J,ay,ar,au,av,aw,(s.pk [0,1,2,3])⟩
       rintro ⟨met4,f1⟩ hp _ cl bP ⟨rfl,o,bm,br,bs,bt,bn,bo,bp,bq,R⟩
       refine Zav (Zs (zF (Zb _ br (Zb _ bn (zq (R.bsl (E:=eV) (l:=[o]) R.fr (by rw [(zp (v:=o) rfl Za3)]; simp only [fill,(R.sl 3 rfl).cells]; simp [over]) rfl) ?_)))))
       rintro ct bY ⟨co,bB,t⟩
       refine ckk hp fun aK hp=>zq (t.appV (bytes:=24) 0 t.fr rfl (t.sl 4 rfl) rfl rfl (by simp only [List.all_cons,List.all_nil,Bool.and_true]; exact (t.sl 3 rfl).oneV) (by rw [(t.allLen 1 rfl:(d).length=(l2).length)]; exact aK) (by decide)) ?_
       rintro aA bZ ⟨bC,a0⟩
       have a1:=a0.absorb 1 3 rfl rfl (by decide)
       refine Zb aA rfl (Zj (zV (Zs (zF (ckk hp fun aL hp=>Zc (zn bq rfl aL) (Zb (.n (x2 + 1)) rfl (Zj ?_)))))))
       cases hp
       exact ⟨rfl,aA,d++[o],bm,rfl,bs,bt,bo,bp,rfl,(a1.pk [0,1,2])⟩
     ·refine ZaZ (zM ?_)
      cases hp
      exact ⟨nofun,rfl,g,d,D,ab,H,Y,aa,(P.pk [0,1,2])⟩
    rintro ⟨l3,met2⟩ hp _ cj b2 ⟨rfl,K,N,bh,bk,bl,bi,bj,a6⟩
    refine Zav (zV (Zs (zF (ckk hp fun aM hp=>Zc (zn bj rfl aM) (Zb (.n (x1 + 1)) rfl (Zj ?_))))))
    cases hp
    exact ⟨rfl,K,N,bh,bk,bl,bi,rfl,(a6.pk [0,1,2])⟩
   ·refine ZaZ (zM ?_)
    cases hp
    exact ⟨nofun,rfl,y,C,aq,(ao.pk [0,1])⟩
  rintro l1 hp _ ch b0 ⟨rfl,A,M,be,a3⟩
  refine Zav (Zs (Zl (Zb _ be (Zb A rfl (Zb (.n 0) rfl (Zg ?_))))))
  refine Zak (z6 (zJ rfl (zJ rfl ze)) ?_)
  cases hp
  exact ⟨A,M,rfl,(a3.pk [0,1])⟩

theorem Zbl.ok {h:Hp} {d:Int} {e_:Int}   {r:Int} (hp:Zbl d e_=some r) :
  ∃ u k',Is G 222 [.n d,.n e_] h u k'∧V.n r=u∧Own (fun r=>r < h.n) h k' []:=by
 refine WC.is (ZaI Zdm ?_)
 unfold Zbl at hp
 let B:Nat→Prop:=(fun r=>r < h.n)
 have hO:Own B h h []:=Own.start0 h
 refine Zl (Zb (.n 0) rfl (Zg (ZN (Zl (Zb (.n d) rfl ?_)))))
 obtain ⟨x,⟨J,E,o,rfl,A⟩,hp⟩:=bdk hp fun _=>Zay.ok (h:=h)  
 refine Zat rfl rfl o ?_
 have g:=hO.call A rfl
 refine Zc (Zdd rfl) (Zb (.b (!x)) rfl ?_)
 obtain ⟨t,D,hp⟩:=Zan hp
 refine zO 4 (fun f k=>Own B h k []∧f 12=.b t∧f 0=.n d∧f 1=.n e_) ?_ ?_
 ·clear hp; rcases Zaw D with ⟨a,hp⟩ | ⟨a,hp⟩
  ·refine Zr rfl a (Zr rfl a (Zr rfl a (Zc (Zag (v:=.b t) rfl a (Eq.trans (b:=V.b true) rfl (congrArg V.b (Option.some.inj hp)))) (Zj ?_))))
   exact ⟨g.pk [],rfl,rfl,rfl⟩
  ·refine Z5 rfl a (Zb (.n e_) rfl (Z5 rfl a ?_))
   obtain ⟨x1,⟨K,H,p,rfl,C⟩,hp⟩:=bdk hp fun _=>Zay.ok (h:=E)  
   refine Zat rfl rfl p ?_
   have y:=g.call C rfl
   refine Z5 rfl a (Zc (Zdd rfl) (Zc (Zab (v:=.b t) rfl a (Eq.trans (b:=V.b (!x1)) rfl (congrArg V.b (Option.some.inj hp)))) (Zj ?_)))
   exact ⟨y.pk [],rfl,rfl,rfl⟩
 rintro F I ⟨i,w,q,s⟩
 refine Zg (zB hp w (fun j hp=>?_) (fun j hp=>?_))
 ·refine Zl (Zb (.n 0) rfl (Zg (Zak (zG (z6 (zJ rfl ze) ?_)))))
  cases hp
  exact ⟨rfl,(i.pk [])⟩
 ·refine Zal (Zl (Zc (Zdc (cs:=Zb9.c (⟨0,1,(-2),(-1)⟩:A4 Int)) (by rw [(zp (v:=.n 0) rfl (zp (v:=.n 1) rfl (zp (v:=.n (-2)) rfl (zp (v:=.n (-1)) rfl Za3))))]; rfl)) (Zb _ s (Zb _ q (ckk hp fun l hp=>Zc (Zm0 rfl rfl l) ?_)))))
  refine ckk hp fun m hp=>Zc (zn rfl rfl m) (Zc (Zbx rfl rfl (by decide)) (ckk hp fun e hp=>Zc (Zmy (cs:=Zb9.c (⟨0,1,(-2),(-1)⟩:A4 Int)) (z:=(((e_ - d) + 4).tmod 4)) (v:=.n ((⟨0,1,(-2),(-1)⟩:A4 Int).get (((e_ - d) + 4).tmod 4))) rfl rfl e (Zgj e)) (Zb (.n ((⟨0,1,(-2),(-1)⟩:A4 Int).get (((e_ - d) + 4).tmod 4))) rfl (Zg (Zak ?_)))))
  refine z6 (zJ rfl ze) ?_
  cases hp
  exact ⟨rfl,(i.pk [])⟩

theorem ZaB.ok {h:Hp} {cells:List Za} {f:List Z0} {v_cells:V} {v_f:V} (s_cells:Sl Zd h v_cells cells) (s_f:Sl Zt h v_f f) {r:(List Int)} (hp:ZaB cells f=some r) :
  ∃ u k',Is G 204 [v_cells,v_f] h u k'∧∃ M,M=u∧Own (fun r=>r < h.n) h k' [eSl z7 M r]:=by
 refine WC.is (ZaI ZdL ?_)
 unfold ZaB at hp
 let B:Nat→Prop:=(fun r=>r < h.n)
 have hO:Own B h h []:=Own.start0 h
 refine Zl (Zb (.sn) rfl (Zg (Zl (Zb v_f rfl (Zc (zP (hO.rd0 s_f.rd) rfl) ?_)))))
 refine ckk hp fun Q hp=>zq (hO.mks (E:=z7) (y:=(0:Int)) (bytes:=8) (z:=(f.length:Int)) hO.fr rfl rfl rfl Q (by decide)) ?_
 rintro a ai ⟨aG,an,J⟩
 refine Zb a rfl (Zg (ZN (Zl (Zb v_cells rfl ?_))))
 obtain ⟨x,⟨aH,av,T,rfl,ag⟩,hp⟩:=bdk hp fun _=>zu.ok (h:=ai)  (J.rd0 s_cells.rd)
 refine Zat rfl rfl T ?_
 have s:=J.call ag rfl
 refine Zc (ZcH rfl rfl) (Zg (zB hp rfl (fun N hp=>?_) (fun N hp=>?_)))
 ·refine Zl (Zb a rfl (Zb a rfl (Zg (Zak (zG (z6 (zJ rfl ze) ?_))))))
  cases hp
  exact ⟨a,rfl,(s.pk [0])⟩
 ·refine Zal (ZN (Zl (Zb v_f rfl (Zc (zP (s.rd0 s_f.rd) rfl) (Zb (.n 0) rfl (Zj ?_))))))
  refine Zs (zW (Zbf hp (fun | (l,x1),fr,k=>fr 0=v_cells∧fr 5=a∧fr 15=v_f∧fr 16=.n (f.length:Int)∧fr 17=.n x1∧Own B h k [eSl z7 a l]) (fun l1 e fr k=>e=(.exit 0)∧fr 5=a∧Own B h k [eSl z7 a l1]) ⟨rfl,rfl,rfl,rfl,rfl,(s.pk [0])⟩ ?_ ?_))
  ·rintro ⟨l,x1⟩ aF ax ⟨m,p,C,D,d,b⟩ aD hp
   dsimp only [ZaB.s0] at hp
   refine Zl (Zc (z3 d D) (Zg (ZN (zB hp rfl (fun O hp=>?_) (fun O hp=>?_)))))
   ·refine Zal (ZN (zW (Zl (Zb _ d (ckk hp fun F hp=>Zc (zm (b.rd0 s_f.rd) C d F) ?_)))))
    refine Zc (ZdQ (b.rd0 s_f.rd) rfl (Zh F)) (zq (b.alloc (cs:=Zt.c (⟨0,0⟩:Z0)) b.fr) ?_)
    rintro _ ay ⟨am,rfl,aB,ao,ae⟩
    refine Zb (.n x1) rfl (zq (ae.stb (cs':=Zt.c (gi f x1.toNat)) 1 rfl rfl rfl rfl ⟨rfl,Nat.le_of_ble_eq_true rfl,rfl⟩ rfl) ?_)
    rintro _ aj ⟨rfl,ap,az,t⟩
    refine Zg (Zl (Zc (Za7 (t.box 1 rfl) rfl rfl) (Zb _ m ?_)))
    obtain ⟨x2,⟨aI,A,U,rfl,ah⟩,hp⟩:=bdk hp fun _=>Zaz.ok (h:=aj)  (t.rd0 s_cells.rd)
    refine Zat rfl rfl U ?_
    have g:=t.call ah rfl
    refine Zg (zB hp rfl (fun P hp=>?_) (fun P hp=>?_))
    ·refine Zfy ?_
     have j:=g.bump 11
     have I:=Fresh.start A 11
     have aC:∀ {i:Nat},h.n≤A.n + i:=Nat.le_trans g.n (Nat.le_add_right _ _)
     refine Zbi _ p (Zbi (.n x1) rfl (zA (zy (r:=am) (o:=0) rfl rfl) (zA (zd (j.box 1 rfl) rfl rfl) (zA (Za7 (j.box 1 rfl) rfl rfl) (Zbi _ m ?_)))))
     obtain ⟨x3,⟨aJ,ak,W,rfl,w⟩,hp⟩:=bdk hp fun _=>zz.ok (h:=(A.bump 11))  (j.rd0 s_cells.rd)
     refine Ziy rfl rfl W ?_
     have aa:=I.call w
     have af:=j.call w rfl
     refine zA (Zla (cs:=Zt.c x3) (v:=.n x3.Dir) rfl rfl) ?_
     obtain ⟨x4,⟨aK,ar,X,rfl,L⟩,hp⟩:=bdk hp fun _=>Zbl.ok (h:=ak)  
     refine Ziy rfl rfl X ?_
     have ab:=aa.call L
     have K:=af.call L rfl
     refine ckk hp fun H hp=>zA (zm (K.sl 0 rfl) rfl rfl H) (Zei (K.ste (y:=x4) 0 rfl rfl (Zh H) rfl rfl ⟨rfl,Nat.le_of_ble_eq_true rfl,rfl⟩ rfl) ?_)
     rintro _ au aL ⟨rfl,Y,aA,ac⟩
     have aq:=ab.kept Y (by decide)
     refine Zcd ?_
     refine And.intro ?_ ?_
     ·intro q hq
      simp only [List.mem_cons,List.not_mem_nil,or_false] at hq
      rcases hq with rfl | rfl
      ·refine Zau ?_ ?_
       ·exact (fun h=>nomatch h)
       ·exact (fun h=>nomatch h)
      ·refine Zm1 rfl rfl ?_
       ·exact (fun r hm hc=>hc (w.base r (Nat.lt_of_lt_of_le (g.ltAt 1 rfl _ (tch (ZcI hm) rfl)) (Nat.le_trans (Nat.le_add_right _ _) I.n))))
     refine zV (Zs (zF (ckk hp fun R hp=>Zc (zn d rfl R) (Zb (.n (x1 + 1)) rfl (Zj ?_)))))
     cases hp
     exact ⟨rfl,m,p,C,D,rfl,(ac.pk [0])⟩
    ·refine ZbN (zV (Zs (zF (ckk hp fun S hp=>Zc (zn d rfl S) (Zb (.n (x1 + 1)) rfl (Zj ?_))))))
     cases hp
     exact ⟨rfl,m,p,C,D,rfl,(g.pk [0])⟩
   ·refine ZaZ (zM ?_)
    cases hp
    exact ⟨nofun,rfl,p,(b.pk [0])⟩
  rintro l1 hp _ aE aw ⟨rfl,al,ad⟩
  refine Zav (Zs (Zl (Zb _ al (Zb a rfl (Zg (Zak ?_))))))
  refine z6 (zJ rfl ze) ?_
  cases hp
  exact ⟨a,rfl,(ad.pk [0])⟩

theorem Zao.ok {h:Hp} {turns:List Int} {v_turns:V} (s_turns:Sl z7 h v_turns turns) {r:Int} (hp:Zao turns=some r) :
  ∃ u k',Is G 219 [v_turns] h u k'∧V.n r=u∧Own (fun r=>r < h.n) h k' []:=by
 refine WC.is (ZaI ZcY ?_)
 unfold Zao at hp
 let B:Nat→Prop:=(fun r=>r < h.n)
 have hO:Own B h h []:=Own.start0 h
 refine Zl (Zb (.n 0) rfl (Zg (Zl (Zb (.n 0) rfl (Zj ?_)))))
 refine Zs (ZN (Zl (Zb v_turns rfl (Zc (zP (hO.rd0 s_turns.rd) rfl) (Zb (.n 0) rfl (Zg ?_))))))
 refine zW (Zbf hp (fun | (n,x),fr,k=>fr 3=.n n∧fr 6=v_turns∧fr 7=.n (turns.length:Int)∧fr 8=.n x∧Own B h k []) (fun n1 e fr k=>e=(.exit 0)∧fr 3=.n n1∧Own B h k []) ⟨rfl,rfl,rfl,rfl,(hO.pk [])⟩ ?_ ?_)
 ·rintro ⟨n,x⟩ M F ⟨g,i,j,d,c⟩ K hp
  dsimp only [Zao.s0] at hp
  refine Zl (Zc (z3 d j) (Zg (ZN (zB hp rfl (fun s hp=>?_) (fun s hp=>?_)))))
  ·refine Zal (ZN (zW (Zl (ckk hp fun l hp=>Zc (zm (c.rd0 s_turns.rd) i d l) (Zc (zE (c.rd0 s_turns.rd) rfl (Zh l) rfl) ?_)))))
   refine Zb (.n (gi turns x.toNat)) rfl (Zg (Zl (Zb (.n (gi turns x.toNat)) rfl (Zc (Zcr rfl rfl) (Zb (.b (decide ((-2)≤(gi turns x.toNat)))) rfl (zO 3 (fun f k=>F=k∧f 17=.b ((decide ((-2)≤(gi turns x.toNat))) && (decide ((gi turns x.toNat)≤1)))∧f 3=.n n∧f 5=.n (gi turns x.toNat)∧f 6=v_turns∧f 7=.n (turns.length:Int)∧f 8=.n x) ?_ ?_))))))
   ·rcases bc (decide ((-2)≤(gi turns x.toNat))) with a | a
    ·refine Z5 rfl a (Zb (.n (gi turns x.toNat)) rfl (Z5 rfl a (Zc (Zlb rfl rfl) (Zc (Zda rfl a rfl) (Zj ?_)))))
     exact ⟨rfl,rfl,g,rfl,i,j,d⟩
    ·refine Zr rfl a (Zr rfl a (Zc (ZcZ (w:=(decide ((-2)≤(gi turns x.toNat))) && (decide ((gi turns x.toNat)≤1))) rfl a rfl) (Zj ?_)))
     exact ⟨rfl,rfl,g,rfl,i,j,d⟩
   rintro I _ ⟨rfl,C,m,D,o,p,q⟩
   refine Zg (zB hp C (fun t hp=>?_) (fun t hp=>?_))
   ·refine zF (Zb _ m (Zb _ D (ckk hp fun v hp=>Zc (zn rfl rfl v) (Zb (.n (n + (gi turns x.toNat))) rfl (Zj (zV (Zs ?_)))))))
    refine zF (ckk hp fun y hp=>Zc (zn q rfl y) (Zb (.n (x + 1)) rfl (Zj ?_)))
    cases hp
    exact ⟨rfl,rfl,o,p,rfl,(c.pk [])⟩
   ·refine ZbN (zV (Zs (zF (ckk hp fun A hp=>Zc (zn q rfl A) (Zb (.n (x + 1)) rfl (Zj ?_))))))
    cases hp
    exact ⟨rfl,m,o,p,rfl,(c.pk [])⟩
  ·refine ZaZ (zM ?_)
   cases hp
   exact ⟨nofun,rfl,g,(c.pk [])⟩
 rintro n1 hp _ L J ⟨rfl,H,E⟩
 refine Zav (Zs (Zl (Zb _ H (Zb (.n n1) rfl (Zg (Zak ?_))))))
 refine z6 (zJ rfl ze) ?_
 cases hp
 exact ⟨rfl,(E.pk [])⟩

theorem Zai.ok {h:Hp} {cells:List Za} {v_cells:V} (s_cells:Sl Zd h v_cells cells) {r:Int × Bool} (hp:Zai cells=some r) :
  ∃ u k',Is G 201 [v_cells] h u k'∧V.tu [.n r.1,.b r.2]=u∧Own (fun r=>r < h.n) h k' []:=by
 refine WC.is (ZaI ZdD ?_)
 unfold Zai at hp
 let B:Nat→Prop:=(fun r=>r < h.n)
 have hO:Own B h h []:=Own.start0 h
 refine Zl (Zb (.n 0) rfl (Zb (.b false) rfl (Zg (Zl (Zb v_cells rfl ?_)))))
 obtain ⟨⟨x,x1⟩,⟨X,Q,H,f,c,rfl,K⟩,hp⟩:=bdk hp fun _=>z5.ok (h:=h)  (hO.rd0 s_cells.rd)
 refine Zat rfl rfl H ?_
 have j:=hO.call K rfl
 refine Zb (.tu [f,.n x1]) rfl (Zc (ZaJ rfl rfl) (Zc (ZaJ rfl rfl) (Zb f rfl (Zb (.n x1) rfl (Zg (Zl ?_))))))
 refine Zb (.n (-1)) rfl (Zg (ZN (Zl (Zb f rfl (Zc (Zhz (n:=(x).length) (j.sl 0 rfl) (j.allLen 1 rfl:(c).length=(x).length) rfl) (Zb (.n 0) rfl ?_))))))
 refine Zg (zW (Zbf hp (fun | (at_,x2),fr,k=>fr 0=v_cells∧fr 6=.n at_∧fr 14=f∧fr 15=.n (x.length:Int)∧fr 16=.n x2∧Own B h k [eSl eV f c,Zbj Zt c x]) (fun | .inl at_1,e,fr,k=>e=(.exit 0)∧fr 6=.n at_1∧Own B h k [] | .inr _,e,fr,k=>e=.ret∧fr 2=.n 0∧fr 3=.b false∧Own B h k []) ⟨rfl,rfl,rfl,rfl,rfl,(j.pk [0,1])⟩ ?_ ?_))
 ·rintro ⟨at_,x2⟩ W v ⟨m,q,o,p,d,a⟩ T hp
  dsimp only [Zai.s0] at hp
  refine Zl (Zc (z3 d p) (Zg (ZN (zB hp rfl (fun y hp=>?_) (fun y hp=>?_)))))
  ·refine Zal (ZN (zW (Zl (Zb _ d (ckk hp fun i hp=>Zc (zm (a.sl 0 rfl) o d (by rw [(a.allLen 1 rfl:(c).length=(x).length)]; exact i)) ?_)))))
   refine Zc (zE (a.sl 0 rfl) rfl (by rw [(a.allLen 1 rfl:(c).length=(x).length)]; exact Zh i) rfl) (Zb (.n x2) rfl (Zb ((gi c x2.toNat)) rfl (Zg (Zl (Zb _ m (Zb ((gi c x2.toNat)) rfl ?_))))))
   obtain ⟨x3,⟨Y,N,I,ab,rfl,L⟩,hp⟩:=bdk hp fun _=>ZaB.ok (h:=v)  (a.rd0 s_cells.rd) (a.inn 1 rfl (Zh i):Sl Zt v (gi c x2.toNat) (gi x x2.toNat))
   refine Zat rfl rfl I ?_
   have t:=a.call L rfl
   obtain ⟨x4,⟨aa,S,J,rfl,M⟩,hp⟩:=bdk hp fun _=>Zao.ok (h:=N)  (t.sl 2 rfl)
   refine Zat rfl rfl J ?_
   have g:=t.call M rfl
   refine Zg (zW (Zl (Zc (ZaX rfl rfl) (Zb (.b (decide (x4=4))) rfl (Zg (zB hp rfl (fun A hp=>?_) (fun A hp=>?_)))))))
   ·refine ZbN (zV (zV (Zs (zF (ckk hp fun E hp=>Zc (zn d rfl E) (Zb (.n (x2 + 1)) rfl (Zj ?_)))))))
    cases hp
    exact ⟨rfl,m,q,o,p,rfl,(g.pk [0,1])⟩
   ·refine Zl (Zc (ZaX rfl rfl) (Zb (.b (decide (x4=(-4)))) rfl (Zg (zB hp rfl (fun C hp=>?_) (fun C hp=>?_)))))
    ·refine ZN (Zl (Zb _ q (Zc (Zcr rfl rfl) (Zg (zB hp rfl (fun D hp=>?_) (fun D hp=>?_))))))
     ·refine Zl (Zb (.n 0) rfl (Zb (.b false) rfl (Zg (Zak (zG (Zbh ?_))))))
      refine Zbh (zG ?_)
      cases hp
      exact ⟨nofun,rfl,rfl,rfl,(g.pk [])⟩
     ·refine Zal (zF (Zb (.n x2) rfl (Zb (.n x2) rfl (Zj (zV (zV (Zs ?_)))))))
      refine zF (ckk hp fun F hp=>Zc (zn d rfl F) (Zb (.n (x2 + 1)) rfl (Zj ?_)))
      cases hp
      exact ⟨rfl,m,rfl,o,p,rfl,(g.pk [0,1])⟩
    ·refine Zl (Zb (.n 0) rfl (Zb (.b false) rfl (Zg (Zak (Zbh (Zbh ?_))))))
     refine zG ?_
     cases hp
     exact ⟨nofun,rfl,rfl,rfl,(g.pk [])⟩
  ·refine ZaZ (zM ?_)
   cases hp
   exact ⟨nofun,rfl,q,(a.pk [])⟩
 rintro (at_1 | _) hp _ U R s
 ·obtain ⟨rfl,w,l⟩:=s
  refine Zav (Zs (Zl (Zb _ w (Zb _ w (Zc (Zcr rfl rfl) (Zb (.n at_1) rfl (Zb (.b (decide (0≤at_1))) rfl ?_)))))))
  refine Zg (Zak (z6 (zJ rfl (zJ rfl ze)) ?_))
  cases hp
  exact ⟨rfl,(l.pk [])⟩
 ·obtain ⟨rfl,O,P,l⟩:=s
  refine Zbh (zG (z6 (zJ O (zJ P ze)) ?_))
  cases hp
  exact ⟨rfl,(l.pk [])⟩

theorem z9.ok {h:Hp} {cells:List Za} {v_cells:V} (s_cells:Sl Zd h v_cells cells) {r:Int} (hp:z9 cells=some r) :
  ∃ u k',Is G 176 [v_cells] h u k'∧V.n r=u∧Own (fun r=>r < h.n) h k' []:=by
 refine WC.is (ZaI ZdB ?_)
 unfold z9 at hp
 let B:Nat→Prop:=(fun r=>r < h.n)
 have hO:Own B h h []:=Own.start0 h
 refine Zl (Zb (.n 0) rfl (Zg (ZN (Zl (Zb v_cells rfl ?_)))))
 obtain ⟨x,⟨D,v,l,rfl,q⟩,hp⟩:=bdk hp fun _=>zu.ok (h:=h)  (hO.rd0 s_cells.rd)
 refine Zat rfl rfl l ?_
 have c:=hO.call q rfl
 refine Zb (.n x) rfl (Zg (Zl (Zb (.n x) rfl (Zc (ZcH rfl rfl) (Zg (zB hp rfl (fun g hp=>?_) (fun g hp=>?_)))))))
 ·refine Zl (Zb (.n x) rfl (Zb (.n x) rfl (Zg (Zak (zG (z6 (zJ rfl ze) ?_))))))
  cases hp
  exact ⟨rfl,(c.pk [])⟩
 ·refine Zal (ZN (Zl (Zb v_cells rfl ?_)))
  obtain ⟨x1,⟨E,y,m,rfl,s⟩,hp⟩:=bdk hp fun _=>Zb1.ok (h:=v)  (c.rd0 s_cells.rd)
  refine Zat rfl rfl m ?_
  have d:=c.call s rfl
  refine Zc (Zdd rfl) (Zg (zB hp rfl (fun i hp=>?_) (fun i hp=>?_)))
  ·refine Zl (Zb (.n 13) rfl (Zg (Zak (zG (z6 (zJ rfl ze) ?_)))))
   cases hp
   exact ⟨rfl,(d.pk [])⟩
  ·refine Zal (ZN (Zl (Zb v_cells rfl ?_)))
   obtain ⟨⟨x2,x3⟩,⟨F,A,o,rfl,t⟩,hp⟩:=bdk hp fun _=>Zai.ok (h:=y)  (d.rd0 s_cells.rd)
   refine Zat rfl rfl o ?_
   have e:=d.call t rfl
   refine Zb (.tu [.n x2,.b x3]) rfl (Zc (ZaJ rfl rfl) (Zc (ZaJ rfl rfl) (Zb (.n x2) rfl (Zb (.b x3) rfl (Zg (Zl ?_))))))
   refine Zb (.b x3) rfl (Zc (Zdd rfl) (Zb (.b (!x3)) rfl (zO 4 (fun f k=>A=k∧f 25=.b ((!x3) && (decide (1 < (cells.length:Int))))) ?_ ?_)))
   ·rcases bc (!x3) with a | a
    ·refine Z5 rfl a (Zb v_cells rfl (Z5 rfl a (Zc (zP (e.rd0 s_cells.rd) rfl) (Z5 rfl a (Zc (Zc6 rfl rfl) (Zc (Zda rfl a rfl) (Zj ?_)))))))
     exact ⟨rfl,rfl⟩
    ·refine Zr rfl a (Zr rfl a (Zr rfl a (Zc (ZcZ (w:=(!x3) && (decide (1 < (cells.length:Int)))) rfl a rfl) (Zj ?_))))
     exact ⟨rfl,rfl⟩
   rintro C _ ⟨rfl,p⟩
   refine Zg (zB hp p (fun j hp=>?_) (fun j hp=>?_))
   ·refine Zl (Zb (.n 10) rfl (Zg (Zak (zG (z6 (zJ rfl ze) ?_)))))
    cases hp
    exact ⟨rfl,(e.pk [])⟩
   ·refine Zal (Zl (Zb (.n 0) rfl (Zg (Zak (z6 (zJ rfl ze) ?_)))))
    cases hp
    exact ⟨rfl,(e.pk [])⟩

theorem za.ok {h:Hp} {l:List Za} {v_l:V} (s_l:Sl Zd h v_l l) {r:(List Za)} (hp:za l=some r) :
  ∃ u k',Is G 116 [v_l] h u k'∧∃ K,K=u∧Own (fun r=>r < h.n) h k' [eSl Zd K r]:=by
 refine WC.is (ZaI Zcb ?_)
 unfold za at hp
 let B:Nat→Prop:=(fun r=>r < h.n)
 have hO:Own B h h []:=Own.start0 h
 refine Zl (Zb (.sn) rfl (Zg (Zl (Zb (.sn) rfl (Zj ?_)))))
 refine Zs (ZN (Zl (Zb (.n 0) rfl (Zg (zW ?_)))))
 have S:=hO.nil Zd
 refine Zbf hp (fun | (out,v),fr,k=>∃ b,fr 0=v_l∧fr 3=b∧fr 4=.n v∧Own B h k [eSl Zd b out]) (fun out1 e fr k=>e=(.exit 0)∧∃ s,fr 3=s∧Own B h k [eSl Zd s out1]) ⟨V.sn,rfl,rfl,rfl,(S.pk [0])⟩ ?_ ?_
 ·rintro ⟨out,v⟩ aD am ⟨b,F,I,H,g⟩ aA hp
  dsimp only [za.s0] at hp
  refine ZN (Zl (Zb _ H (Zb _ F (Zc (zP (g.rd0 s_l.rd) rfl) (Zc (z3 rfl rfl) (Zg (zB hp rfl (fun M hp=>?_) (fun M hp=>?_))))))))
  ·refine Zal (ZN (zW (Zl (Zb _ F (Zb _ H (ckk hp fun a hp=>?_))))))
   refine Zc (zm (g.rd0 s_l.rd) rfl rfl a) (Zc (ZdQ (g.rd0 s_l.rd) rfl (Zh a)) (zq (g.alloc (cs:=Zd.c (⟨⟨0,0,0,0⟩,⟨0,0,0,0⟩⟩:Za)) g.fr) ?_))
   rintro _ an ⟨m,rfl,az,ad,T⟩
   refine zq (T.stb (cs':=Zd.c (gi l v.toNat)) 1 rfl rfl rfl rfl ⟨rfl,Nat.le_of_ble_eq_true rfl,rfl⟩ rfl) ?_
   rintro _ ao ⟨rfl,ae,aw,U⟩
   refine Zg (ZN (Zl (Zb (.n 0) rfl (Zg (zW (Zbf hp (fun | (c,d),fr,k=>fr 0=v_l∧fr 3=b∧fr 4=.n v∧fr 5=.p m 0∧fr 6=.n d∧Own B h k [eSl Zd b out,zI m (Zd.c c)]) (fun c1 e fr k=>e=(.exit 2)∧fr 0=v_l∧fr 3=b∧fr 4=.n v∧fr 5=.p m 0∧Own B h k [eSl Zd b out,zI m (Zd.c c1)]) ⟨F,I,H,rfl,rfl,(U.pk [0,1])⟩ ?_ ?_))))))
   ·rintro ⟨c,d⟩ aF aq ⟨w,J,x,y,j,i⟩ aB hp
    dsimp only [za.s1] at hp
    refine ZN (Zl (Zb _ j (Zc (z3 rfl rfl) (Zg (zB hp rfl (fun N hp=>?_) (fun N hp=>?_))))))
    ·refine Zal (ZN (zW (Zl (Zb _ j (ckk hp fun A hp=>Zc (zn rfl rfl A) ?_)))))
     refine Zc (Zbx rfl rfl (by decide)) (Zb _ w (Zb _ x (Zb _ j (Zc (zm (i.rd0 s_l.rd) rfl rfl a) (Zc (Za9 (i.rd0 s_l.rd) (Zh a) rfl rfl) (ckk hp fun t hp=>Zc (ZaE (i.rd0 s_l.rd) (Zh a) rfl rfl t rfl) (Zc (zE (i.rd0 s_l.rd) rfl (Zh a) (zS t)) ?_)))))))
     refine Zc (zy (r:=m) (o:=0) y rfl) (ckk hp fun f hp=>Zc (ZdP (o:=0) (o':=(0 + ((d + 1).tmod 4:Int).toNat * 1)) rfl rfl f rfl) (zq (i.stb (cs':=Zd.c ({ c with Next:=c.Next.set ((d + 1).tmod 4) (((gi l v.toNat).Next).get d) })) 1 rfl rfl rfl rfl ⟨rfl,(by have:=f; exact (show 0 + ((d + 1).tmod 4:Int).toNat * 1 + 1≤8 by omega)),rfl⟩ (Zb2 f)) ?_))
     rintro _ ar ⟨rfl,af,ax,q⟩
     refine Zg (zF (Zb _ j (Zc (zn rfl rfl A) (Zc (Zbx rfl rfl (by decide)) (Zb _ w (Zb _ x (Zb _ j ?_)))))))
     refine Zc (zm (q.rd0 s_l.rd) rfl rfl a) (Zc (Za9 (q.rd0 s_l.rd) (Zh a) rfl rfl) (Zc (ZaE (q.rd0 s_l.rd) (Zh a) rfl rfl t rfl) (Zc (zE (q.rd0 s_l.rd) rfl (Zh a) (Zbe t)) (Zc (zy (r:=m) (o:=0) y rfl) (Zc (ZdP (o:=4) (o':=(4 + ((d + 1).tmod 4:Int).toNat * 1)) rfl rfl f rfl) (zq (q.stb (cs':=Zd.c ({ { c with Next:=c.Next.set ((d + 1).tmod 4) (((gi l v.toNat).Next).get d) } with Owner:=(({ c with Next:=c.Next.set ((d + 1).tmod 4) (((gi l v.toNat).Next).get d) }).Owner).set ((d + 1).tmod 4) (((gi l v.toNat).Owner).get d) })) 1 rfl rfl rfl rfl ⟨rfl,(by have:=f; exact (show 4 + ((d + 1).tmod 4:Int).toNat * 1 + 1≤8 by omega)),rfl⟩ (ZbM f)) ?_))))))
     rintro _ au ⟨rfl,ah,ay,W⟩
     refine Zj (zV (Zs (zF (Zb _ j (Zc (zn rfl rfl A) (Zb (.n (d + 1)) rfl (Zj ?_)))))))
     cases hp
     exact ⟨rfl,w,J,x,y,rfl,(W.pk [0,1])⟩
    ·refine ZaZ (zM ?_)
     cases hp
     exact ⟨nofun,rfl,w,J,x,y,(i.pk [0,1])⟩
   rintro c1 hp _ aE ap ⟨rfl,Y,aa,ab,ac,D⟩
   refine Zav (Zs (zF (Zb _ aa (Zc (Za7 (D.box 1 rfl) ac rfl) (zq (D.bsl (E:=Zd) (l:=[c1]) D.fr (by rw [(zp (v:=.ag (Zd.c c1)) rfl Za3)]; rfl) rfl) ?_)))))
   rintro aH av ⟨aG,ai,C⟩
   refine ckk hp fun O hp=>zq (C.app (bytes:=64) 0 C.fr rfl (C.sl 2 rfl) rfl rfl (fun _=>rfl) O (by decide)) ?_
   rintro L al ⟨aj,R⟩
   refine Zb L rfl (Zj (zV (Zs (zF (Zb _ ab (ckk hp fun P hp=>Zc (zn rfl rfl P) (Zb (.n (v + 1)) rfl ?_)))))))
   refine Zj ?_
   cases hp
   exact ⟨rfl,L,Y,rfl,rfl,(R.pk [0])⟩
  ·refine ZaZ (zM ?_)
   cases hp
   exact ⟨nofun,rfl,b,I,(g.pk [0])⟩
 rintro out1 hp _ aC ak ⟨rfl,s,X,Q⟩
 refine Zav (Zs (Zl (Zb _ X (Zb s rfl (Zg (Zak ?_))))))
 refine z6 (zJ rfl ze) ?_
 cases hp
 exact ⟨s,rfl,(Q.pk [0])⟩

theorem zU.ok {h:Hp} {l:List Za} {a:Int} {b:Int} {v_l:V} (s_l:Sl Zd h v_l l) {r:Int × Int × Bool} (hp:zU l a b=some r) :
  ∃ u k',Is G 117 [v_l,.n a,.n b] h u k'∧V.tu [.n r.1,.n r.2.1,.b r.2.2]=u∧Own (fun r=>r < h.n) h k' []:=by
 refine WC.is (ZaI Zc1 ?_)
 unfold zU at hp
 let B:Nat→Prop:=(fun r=>r < h.n)
 have hO:Own B h h []:=Own.start0 h
 refine Zl (Zb (.n 0) rfl (Zb (.n 0) rfl (Zb (.b false) rfl (Zg (ZN (ZN ?_))))))
 refine zF (Zb (.n 0) rfl (Zg (zW (Zbf hp (fun i fr k=>fr 0=v_l∧fr 1=.n a∧fr 2=.n b∧fr 9=.n i∧Own B h k []) (fun | .inl _,e,fr,k=>e=(.exit 0)∧Own B h k [] | .inr (x,x1),e,fr,k=>e=.ret∧fr 6=.n x∧fr 7=.n x1∧fr 8=.b true∧Own B h k []) ⟨rfl,rfl,rfl,rfl,(hO.pk [])⟩ ?_ ?_))))
 ·rintro i O L ⟨d,s,t,j,c⟩ M hp
  dsimp only [zU.s0] at hp
  refine ZN (Zl (Zb _ j (Zb _ d (Zc (zP (c.rd0 s_l.rd) rfl) (ckk hp fun m hp=>Zc (Zgb rfl rfl m) (Zc (z3 rfl rfl) ?_))))))
  refine Zg (zB hp rfl (fun v hp=>?_) (fun v hp=>?_))
  ·refine Zal (ZN (zW (Zl (Zb _ s (Zb _ d (Zc (zP (c.rd0 s_l.rd) rfl) ?_))))))
   refine Zc (Zng rfl rfl) (ckk hp fun A hp=>Zc (Zbx rfl rfl A) (ckk hp fun C hp=>Zc (Zgb rfl rfl C) (Zb _ t (Zc (Zbx rfl rfl (by decide)) (ckk hp fun D hp=>Zc (zn rfl rfl D) ?_)))))
   refine Zb _ j (ckk hp fun E hp=>Zc (zn rfl rfl E) (Zb _ d (Zc (zP (c.rd0 s_l.rd) rfl) (Zc (Zgb rfl rfl m) (ckk hp fun F hp=>Zc (Zbx rfl rfl F) (Zb (.n ((((4 * (a.tmod (max (l.length:Int) 1))) + (b.tmod 4)) + i).tmod (4 * (l.length:Int)))) rfl ?_))))))
   refine Zg (Zl (Zb _ d (Zb (.n ((((4 * (a.tmod (max (l.length:Int) 1))) + (b.tmod 4)) + i).tmod (4 * (l.length:Int)))) rfl (ckk hp fun o hp=>Zc (ZgY rfl rfl o) (Zb (.n ((((4 * (a.tmod (max (l.length:Int) 1))) + (b.tmod 4)) + i).tmod (4 * (l.length:Int)))) rfl ?_)))))
   refine Zc (Zbx rfl rfl (by decide)) (ckk hp fun f hp=>Zc (zm (c.rd0 s_l.rd) rfl rfl f) (Zc (Za9 (c.rd0 s_l.rd) (Zh f) rfl rfl) (ckk hp fun p hp=>Zc (ZaE (c.rd0 s_l.rd) (Zh f) rfl rfl p rfl) (Zc (zE (c.rd0 s_l.rd) rfl (Zh f) (zS p)) (Zc (Zcr rfl rfl) (Zj ?_))))))
   refine Zs (zB hp rfl (fun w hp=>?_) (fun w hp=>?_))
   ·refine Zl (Zb (.n ((((4 * (a.tmod (max (l.length:Int) 1))) + (b.tmod 4)) + i).tmod (4 * (l.length:Int)))) rfl (Zc (ZgY rfl rfl o) (Zb (.n ((((4 * (a.tmod (max (l.length:Int) 1))) + (b.tmod 4)) + i).tmod (4 * (l.length:Int)))) rfl (Zc (Zbx rfl rfl (by decide)) (Zb (.n (((((4 * (a.tmod (max (l.length:Int) 1))) + (b.tmod 4)) + i).tmod (4 * (l.length:Int))).tdiv 4)) rfl (Zb (.n (((((4 * (a.tmod (max (l.length:Int) 1))) + (b.tmod 4)) + i).tmod (4 * (l.length:Int))).tmod 4)) rfl (Zb (.b true) rfl ?_)))))))
    refine Zg (Zak (Zbh (zG ?_)))
    cases hp
    exact ⟨nofun,rfl,rfl,rfl,rfl,(c.pk [])⟩
   ·refine ZbN (zV (Zs (zF (Zb _ j (ckk hp fun y hp=>Zc (zn rfl rfl y) (Zb (.n (i + 1)) rfl (Zj ?_)))))))
    cases hp
    exact ⟨rfl,d,s,t,rfl,(c.pk [])⟩
  ·refine ZaZ (zM ?_)
   cases hp
   exact ⟨nofun,rfl,(c.pk [])⟩
 rintro (_ | ⟨x,x1⟩) hp _ N K q
 ·obtain ⟨rfl,g⟩:=q
  refine Zav (Zs (Zl (Zb (.n 0) rfl (Zb (.n 0) rfl (Zb (.b false) rfl (Zg ?_))))))
  refine Zak (z6 (zJ rfl (zJ rfl (zJ rfl ze))) ?_)
  cases hp
  exact ⟨rfl,(g.pk [])⟩
 ·obtain ⟨rfl,H,I,J,g⟩:=q
  refine Zbh (zG (z6 (zJ H (zJ I (zJ J ze))) ?_))
  cases hp
  exact ⟨rfl,(g.pk [])⟩

end Mu
