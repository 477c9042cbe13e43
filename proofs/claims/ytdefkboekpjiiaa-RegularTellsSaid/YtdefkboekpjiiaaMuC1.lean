/- The code comes to what was worked out. -/
import Derived.Test.YtdefkboekpjiiaaMuDf
import Derived.Test.YtdefkboekpjiiaaMuPa
import Derived.Test.YtdefkboekpjiiaaMuC0
set_option linter.unusedVariables false
set_option linter.unnecessarySimpa false
set_option linter.unusedSimpArgs false
set_option maxHeartbeats 2000000
set_option maxRecDepth 10000
namespace Mu
open Go (IntKind BinOp UnOp)
theorem Zb1.ok {h:Hp}    {r:(List Za)} (hp:Zb1 =some r) :
  ∃ u k',Is G 213 [] h u k'∧∃ y,y=u∧Own (fun r=>r < h.n) h k' [eSl Zd y r]:=by
 refine WC.is (ZaP Zer ?_)
 unfold Zb1 at hp
 let B:Nat→Prop:=(fun r=>r < h.n)
 have hO:Own B h h []:=Own.start0 h
 refine Zi (Zb (.sn) rfl (Ze (Zi ?_)))
 obtain ⟨x,⟨X,P,F,A,rfl,K⟩,hp⟩:=bdk hp fun _=>zk.ok (h:=h)  
 refine ZaI rfl rfl F ?_
 have m:=hO.call K rfl
 refine Zb A rfl (Ze (ZB (Zi (zz (m.bsl (E:=zT) (l:=([0,1,0,1,2,1,2,3,2,3,0,3]:List Int)) m.fr (by rw [(zp (v:=.n 0) rfl (zp (v:=.n 1) rfl (zp (v:=.n 0) rfl (zp (v:=.n 1) rfl (zp (v:=.n 2) rfl (zp (v:=.n 1) rfl (zp (v:=.n 2) rfl (zp (v:=.n 3) rfl (zp (v:=.n 2) rfl (zp (v:=.n 3) rfl (zp (v:=.n 0) rfl (zp (v:=.n 3) rfl ZaN))))))))))))]; rfl) rfl) ?_))))
 rintro C Q ⟨W,O,p⟩
 refine Zc (Zae (p.sl 1 rfl) rfl) (Zb (.n 0) rfl (Ze (Zaa (Zb7 hp (fun | (l,x1),fr,k=>∃ f,fr 1=f∧fr 5=C∧fr 6=.n (([0,1,0,1,2,1,2,3,2,3,0,3]:List Int).length:Int)∧fr 7=.n x1∧Own B h k [eSl Zd f l,eSl zT C ([0,1,0,1,2,1,2,3,2,3,0,3]:List Int)]) (fun l1 e fr k=>e=(.exit 0)∧∃ b,fr 1=b∧Own B h k [eSl Zd b l1]) ⟨A,rfl,rfl,rfl,rfl,(p.pk [0,1])⟩ ?_ ?_))))
 ·rintro ⟨l,x1⟩ V M ⟨f,q,s,t,c,a⟩ T hp
  dsimp only [Zb1.s0] at hp
  refine Zi (Zc (zF c t) (Ze (ZB (zD hp rfl (fun D hp=>?_) (fun D hp=>?_)))))
  ·refine Zas (ZB (Zaa (Zi (Zb _ c (ckk hp fun i hp=>Zc (ZZ (a.sl 1 rfl) s c i) ?_)))))
   refine Zc (zN (a.sl 1 rfl) rfl (Zf i) rfl) (Zb (.n x1) rfl (Zb (.n (gi ([0,1,0,1,2,1,2,3,2,3,0,3]:List Int) x1.toNat)) rfl (Ze (zI (Zb _ q (Zb (.n x1) rfl (Zb (.n (gi ([0,1,0,1,2,1,2,3,2,3,0,3]:List Int) x1.toNat)) rfl ?_)))))))
   refine Zb (.n x1) rfl (ckk hp fun j hp=>Zc (zc rfl rfl j) (Zc (Zc6 rfl rfl (by decide)) ?_))
   obtain ⟨⟨x2,x3⟩,⟨Y,S,H,g,rfl,L⟩,hp⟩:=bdk hp fun _=>zR.ok (h:=M) (l:=l) (v:=x1) (d:=(gi ([0,1,0,1,2,1,2,3,2,3,0,3]:List Int) x1.toNat)) (w:=((x1 + 1).tmod 12)) (o:=0) (a.toM [0] rfl (by decide)) 
   refine ZaI rfl rfl H ?_
   have J:=(a.callM [0] [1] rfl rfl (by decide) L rfl).pick [900,0,1] rfl (by decide)
   refine Zb (.tu [g,.n x3]) rfl (Zc (Zbr rfl rfl) (Zc (Zbr rfl rfl) (Zb g rfl (Zg (Zaf (Zo (zI (Zc (zc c rfl j) ?_))))))))
   refine Zb (.n (x1 + 1)) rfl (Zg ?_)
   cases hp
   exact ⟨rfl,g,rfl,s,t,rfl,(J.pk [2,1])⟩
  ·refine Zbq (zM ?_)
   cases hp
   exact ⟨nofun,rfl,f,q,(a.pk [0])⟩
 rintro l1 hp _ U R ⟨rfl,b,N,I⟩
 refine Zav (Zo (Zi (Zb _ N (Zb b rfl (Ze (Zar ?_))))))
 refine z4 (zX rfl ZK) ?_
 cases hp
 exact ⟨b,rfl,(I.pk [0])⟩

theorem Zbp.ok {h:Hp} {d:Int}   {r:Bool} (hp:Zbp d=some r) :
  ∃ u k',Is G 90 [.n d] h u k'∧V.b r=u∧Own (fun r=>r < h.n) h k' []:=by
 refine WC.is (ZaP Zfu ?_)
 unfold Zbp at hp
 let B:Nat→Prop:=(fun r=>r < h.n)
 have hO:Own B h h []:=Own.start0 h
 refine Zi (Zb (.b false) rfl (Ze (Zi (Zb (.n d) rfl (Zc (ZcV rfl rfl) ?_)))))
 refine Zb (.b (decide (0≤d))) rfl (zK 3 (fun f k=>h=k∧f 8=.b ((decide (0≤d)) && (decide (d≤3)))) ?_ ?_)
 ·rcases bc (decide (0≤d)) with a | a
  ·refine Zp rfl a (Zb (.n d) rfl (Zp rfl a (Zc (ZkH rfl rfl) (Zc (ZcN rfl a rfl) (Zg ?_)))))
   exact ⟨rfl,rfl⟩
  ·refine Zh rfl a (Zh rfl a (Zc (ZcM (w:=(decide (0≤d)) && (decide (d≤3))) rfl a rfl) (Zg ?_)))
   exact ⟨rfl,rfl⟩
 rintro e _ ⟨rfl,c⟩
 refine Zb _ c (Ze (Zar (z4 (zX rfl ZK) ?_)))
 cases hp
 exact ⟨rfl,(hO.pk [])⟩

theorem Za6.ok {h:Hp} {d:Int} {times:Int}   {r:Int} (hp:Za6 d times=some r) :
  ∃ u k',Is G 77 [.n d,.n times] h u k'∧V.n r=u∧Own (fun r=>r < h.n) h k' []:=by
 refine WC.is (ZaP Zfv ?_)
 unfold Za6 at hp
 let B:Nat→Prop:=(fun r=>r < h.n)
 have hO:Own B h h []:=Own.start0 h
 refine Zi (Zb (.n 0) rfl (Ze (ZB (Zi (Zb (.n d) rfl ?_)))))
 obtain ⟨x,⟨j,i,f,rfl,g⟩,hp⟩:=bdk hp fun _=>Zbp.ok (h:=h)  
 refine ZaI rfl rfl f ?_
 have a:=hO.call g rfl
 refine Zc (ZcO rfl) (Ze (zD hp rfl (fun b hp=>?_) (fun b hp=>?_)))
 ·refine Zi (Zb (.n 0) rfl (Ze (Zar (zE (z4 (zX rfl ZK) ?_)))))
  cases hp
  exact ⟨rfl,(a.pk [])⟩
 ·refine Zas (Zi (Zb (.n d) rfl (Zb (.n times) rfl (Zc (Zc6 rfl rfl (by decide)) (ckk hp fun c hp=>Zc (zc rfl rfl c) ?_)))))
  refine ckk hp fun e hp=>Zc (zc rfl rfl e) (Zc (Zc6 rfl rfl (by decide)) (Zb (.n (((d + (times.tmod 4)) + 4).tmod 4)) rfl (Ze (Zar (z4 (zX rfl ZK) ?_)))))
  cases hp
  exact ⟨rfl,(a.pk [])⟩

theorem Zdo.ok {h:Hp} {cells:List Za} {v:Int} {d:Int} {v_cells:V} (s_cells:Sl Zd h v_cells cells) {r:Int} (hp:Zdo cells v d=some r) :
  ∃ u k',Is G 82 [v_cells,.n v,.n d] h u k'∧V.n r=u∧Own (fun r=>r < h.n) h k' []:=by
 refine WC.is (ZaP Zgy ?_)
 unfold Zdo at hp
 let B:Nat→Prop:=(fun r=>r < h.n)
 have hO:Own B h h []:=Own.start0 h
 refine Zi (Zb (.n 0) rfl (Ze (ZB (ZhN ?_))))
 have c:=hO.bump 16
 refine Zbk v_cells rfl (Zbk (.n v) rfl (Zbk (.n d) rfl (ckk hp fun j hp=>z3 rfl (ZZ (c.rd0 s_cells.rd) rfl rfl j) (z3 rfl (Zbo (c.rd0 s_cells.rd) (Zf j) rfl rfl) (ckk hp fun o hp=>z3 rfl (ZaZ (c.rd0 s_cells.rd) (Zf j) rfl rfl o rfl) (z3 rfl (zN (c.rd0 s_cells.rd) rfl (Zf j) (zx o)) ?_))))))
 refine Zbk v_cells rfl (Zbk (.n v) rfl (Zbk (.n d) rfl (z3 rfl (ZZ (c.rd0 s_cells.rd) rfl rfl j) (z3 rfl (Zbo (c.rd0 s_cells.rd) (Zf j) rfl rfl) (z3 rfl (ZaZ (c.rd0 s_cells.rd) (Zf j) rfl rfl o rfl) (z3 rfl (zN (c.rd0 s_cells.rd) rfl (Zf j) (Zcs o)) (Zbk (.n (((gi cells v.toNat).Next).get d)) rfl (Zbk (.n (((gi cells v.toNat).Owner).get d)) rfl ?_))))))))
 refine Zbi (Zo (ZB (Zi (Zb (.n (((gi cells v.toNat).Next).get d)) rfl (Zc (Zbl rfl rfl) (Ze (zD hp rfl (fun H hp=>?_) (fun H hp=>?_))))))))
 ·refine ZB (Zi (Zb (.n (((gi cells v.toNat).Owner).get d)) rfl (Zc (Zc5 rfl rfl) (Ze (zD hp rfl (fun I hp=>?_) (fun I hp=>?_))))))
  ·refine Zi (Zb (.n 9) rfl (Ze (Zar (zE (zE (z4 (zX rfl ZK) ?_))))))
   cases hp
   exact ⟨rfl,(c.pk [])⟩
  ·refine Zas (Zi (Zb (.n 0) rfl (Ze (Zar (zE ?_)))))
   refine z4 (zX rfl ZK) ?_
   cases hp
   exact ⟨rfl,(c.pk [])⟩
 ·refine Zas (ZB (Zi (Zb (.n (((gi cells v.toNat).Next).get d)) rfl (Zc (zF rfl rfl) (Zb (.b (decide ((((gi cells v.toNat).Next).get d) < 0))) rfl (zK 5 (fun f k=>(h.bump 16)=k∧f 35=.b ((decide ((((gi cells v.toNat).Next).get d) < 0)) || (decide ((cells.length:Int)≤(((gi cells v.toNat).Next).get d))))∧f 0=v_cells∧f 1=.n v∧f 2=.n d∧f 7=.n (((gi cells v.toNat).Next).get d)∧f 8=.n (((gi cells v.toNat).Owner).get d)) ?_ ?_))))))
  ·rcases bc (decide ((((gi cells v.toNat).Next).get d) < 0)) with e | e
   ·refine Zh rfl e (Zh rfl e (Zh rfl e (Zh rfl e (Zc (Zcb (w:=(decide ((((gi cells v.toNat).Next).get d) < 0)) || (decide ((cells.length:Int)≤(((gi cells v.toNat).Next).get d)))) rfl e rfl) (Zg ?_)))))
    exact ⟨rfl,rfl,rfl,rfl,rfl,rfl,rfl⟩
   ·refine Zp rfl e (Zb (.n (((gi cells v.toNat).Next).get d)) rfl (Zp rfl e (Zb v_cells rfl (Zp rfl e (Zc (Zae (c.rd0 s_cells.rd) rfl) (Zp rfl e (Zc (ZcV rfl rfl) (Zc (Zcc rfl e rfl) ?_))))))))
    refine Zg ?_
    exact ⟨rfl,rfl,rfl,rfl,rfl,rfl,rfl⟩
  rintro U _ ⟨rfl,M,y,q,A,s,C⟩
  refine Zb _ M (zK 4 (fun f k=>(h.bump 16)=k∧f 40=.b (((decide ((((gi cells v.toNat).Next).get d) < 0)) || (decide ((cells.length:Int)≤(((gi cells v.toNat).Next).get d)))) || (decide (((gi cells v.toNat).Next).get d=v)))∧f 0=v_cells∧f 1=.n v∧f 2=.n d∧f 7=.n (((gi cells v.toNat).Next).get d)∧f 8=.n (((gi cells v.toNat).Owner).get d)) ?_ ?_)
  ·rcases bc ((decide ((((gi cells v.toNat).Next).get d) < 0)) || (decide ((cells.length:Int)≤(((gi cells v.toNat).Next).get d)))) with i | i
   ·refine Zh rfl i (Zh rfl i (Zh rfl i (Zc (Zcb (w:=((decide ((((gi cells v.toNat).Next).get d) < 0)) || (decide ((cells.length:Int)≤(((gi cells v.toNat).Next).get d)))) || (decide (((gi cells v.toNat).Next).get d=v))) rfl i rfl) (Zg ?_))))
    exact ⟨rfl,rfl,y,q,A,s,C⟩
   ·refine Zp rfl i (Zb _ s (Zp rfl i (Zb _ q (Zp rfl i (Zc (Zbl rfl rfl) (Zc (Zcc rfl i rfl) (Zg ?_)))))))
    exact ⟨rfl,rfl,y,q,A,s,C⟩
  rintro W _ ⟨rfl,P,D,N,O,E,t⟩
  refine Ze (zD hp P (fun J hp=>?_) (fun J hp=>?_))
  ·refine Zi (Zb (.n 3) rfl (Ze (Zar (zE (z4 (zX rfl ZK) ?_)))))
   cases hp
   exact ⟨rfl,(c.pk [])⟩
  ·refine Zas (Zi (Zb _ O ?_))
   obtain ⟨x,⟨aa,F,L,rfl,T⟩,hp⟩:=bdk hp fun _=>Za6.ok (h:=(h.bump 16))  
   refine ZaI rfl rfl L ?_
   have g:=c.call T rfl
   refine Zb (.n x) rfl (Ze (ZB (Zi (Zb _ D (Zb _ E (Zb (.n x) rfl ?_))))))
   refine ckk hp fun l hp=>Zc (ZZ (g.rd0 s_cells.rd) rfl rfl l) (Zc (Zbo (g.rd0 s_cells.rd) (Zf l) rfl rfl) (ckk hp fun p hp=>Zc (ZaZ (g.rd0 s_cells.rd) (Zf l) rfl rfl p rfl) (Zc (zN (g.rd0 s_cells.rd) rfl (Zf l) (zx p)) (Zb _ N (Zc (Zc5 rfl rfl) (Zb (.b (!(decide (((gi cells (((gi cells v.toNat).Next).get d:Int).toNat).Next).get x=v)))) rfl (zK 10 (fun f k=>F=k∧f 62=.b ((!(decide (((gi cells (((gi cells v.toNat).Next).get d:Int).toNat).Next).get x=v))) || (!(decide (((gi cells (((gi cells v.toNat).Next).get d:Int).toNat).Owner).get x=((gi cells v.toNat).Owner).get d))))∧f 8=.n (((gi cells v.toNat).Owner).get d)) ?_ ?_)))))))
   ·rcases bc (!(decide (((gi cells (((gi cells v.toNat).Next).get d:Int).toNat).Next).get x=v))) with a | a
    ·refine Zh rfl a (Zh rfl a (Zh rfl a (Zh rfl a (Zh rfl a (Zh rfl a (Zh rfl a (Zh rfl a (Zh rfl a ?_))))))))
     refine Zc (Zcb (w:=(!(decide (((gi cells (((gi cells v.toNat).Next).get d:Int).toNat).Next).get x=v))) || (!(decide (((gi cells (((gi cells v.toNat).Next).get d:Int).toNat).Owner).get x=((gi cells v.toNat).Owner).get d)))) rfl a rfl) (Zg ?_)
     exact ⟨rfl,rfl,t⟩
    ·refine Zp rfl a (Zb _ D (Zp rfl a (Zb _ E (Zp rfl a (Zb (.n x) rfl (Zp rfl a (Zc (ZZ (g.rd0 s_cells.rd) rfl rfl l) (Zp rfl a ?_))))))))
     refine Zc (Zbo (g.rd0 s_cells.rd) (Zf l) rfl rfl) (Zp rfl a (Zc (ZaZ (g.rd0 s_cells.rd) (Zf l) rfl rfl p rfl) (Zp rfl a (Zc (zN (g.rd0 s_cells.rd) rfl (Zf l) (Zcs p)) (Zp rfl a (Zb _ t (Zp rfl a (Zc (Zc5 rfl rfl) ?_))))))))
     refine Zc (Zcc rfl a rfl) (Zg ?_)
     exact ⟨rfl,rfl,t⟩
   rintro X _ ⟨rfl,Q,R⟩
   refine Zb _ Q (zK 3 (fun f k=>F=k∧f 66=.b (((!(decide (((gi cells (((gi cells v.toNat).Next).get d:Int).toNat).Next).get x=v))) || (!(decide (((gi cells (((gi cells v.toNat).Next).get d:Int).toNat).Owner).get x=((gi cells v.toNat).Owner).get d)))) || (decide ((((gi cells v.toNat).Owner).get d) < (-2))))) ?_ ?_)
   ·rcases bc ((!(decide (((gi cells (((gi cells v.toNat).Next).get d:Int).toNat).Next).get x=v))) || (!(decide (((gi cells (((gi cells v.toNat).Next).get d:Int).toNat).Owner).get x=((gi cells v.toNat).Owner).get d)))) with m | m
    ·refine Zh rfl m (Zh rfl m (Zc (Zcb (w:=((!(decide (((gi cells (((gi cells v.toNat).Next).get d:Int).toNat).Next).get x=v))) || (!(decide (((gi cells (((gi cells v.toNat).Next).get d:Int).toNat).Owner).get x=((gi cells v.toNat).Owner).get d)))) || (decide ((((gi cells v.toNat).Owner).get d) < (-2)))) rfl m rfl) (Zg ?_)))
     exact ⟨rfl,rfl⟩
    ·refine Zp rfl m (Zb _ R (Zp rfl m (Zc (zF rfl rfl) (Zc (Zcc rfl m rfl) (Zg ?_)))))
     exact ⟨rfl,rfl⟩
   rintro Y _ ⟨rfl,S⟩
   refine Ze (zD hp S (fun K hp=>?_) (fun K hp=>?_))
   ·refine Zi (Zb (.n 9) rfl (Ze (Zar (zE (z4 (zX rfl ZK) ?_)))))
    cases hp
    exact ⟨rfl,(g.pk [])⟩
   ·refine Zas (Zi (Zb (.n 0) rfl (Ze (Zar (z4 (zX rfl ZK) ?_)))))
    cases hp
    exact ⟨rfl,(g.pk [])⟩

theorem Zam.ok {h:Hp} {cells:List Za} {v_cells:V} (s_cells:Sl Zd h v_cells cells) {r:Int} (hp:Zam cells=some r) :
  ∃ u k',Is G 66 [v_cells] h u k'∧V.n r=u∧Own (fun r=>r < h.n) h k' []:=by
 refine WC.is (ZaP ZfY ?_)
 unfold Zam at hp
 let B:Nat→Prop:=(fun r=>r < h.n)
 have hO:Own B h h []:=Own.start0 h
 refine Zi (Zb (.n 0) rfl (Ze (ZB (Zi (Zb v_cells rfl ?_)))))
 refine Zc (Zae (hO.rd0 s_cells.rd) rfl) (Zc (Zd2 rfl rfl) (Ze (zD hp rfl (fun t hp=>?_) (fun t hp=>?_))))
 ·refine Zi (Zb (.n 6) rfl (Ze (Zar (zE (z4 (zX rfl ZK) ?_)))))
  cases hp
  exact ⟨rfl,(hO.pk [])⟩
 ·refine Zas (ZB (Zi (Zb v_cells rfl (Zc (Zae (hO.rd0 s_cells.rd) rfl) (Zb (.n 0) rfl (Zg ?_))))))
  refine Zo (Zaa (Zb7 hp (fun x fr k=>fr 0=v_cells∧fr 10=.n (cells.length:Int)∧fr 11=.n x∧Own B h k []) (fun | .inl _,e,fr,k=>e=(.exit 0)∧Own B h k [] | .inr x1,e,fr,k=>e=.ret∧fr 2=.n x1∧Own B h k []) ⟨rfl,rfl,rfl,(hO.pk [])⟩ ?_ ?_))
  ·rintro x U O ⟨I,o,d,l⟩ R hp
   dsimp only [Zam.s0] at hp
   refine Zi (Zc (zF d o) (Ze (ZB (zD hp rfl (fun v hp=>?_) (fun v hp=>?_)))))
   ·refine Zas (ZB (Zaa (Zi (Zb _ d (Zb (.n x) rfl (Zg ?_))))))
    refine Zo (Zi (Zb (.n 0) rfl (Ze (Zaa (Zb7 hp (fun x2 fr k=>fr 0=v_cells∧fr 3=.n x∧fr 10=.n (cells.length:Int)∧fr 11=.n x∧fr 14=.n x2∧Own B h k []) (fun | .inl _,e,fr,k=>e=(.exit 2)∧fr 0=v_cells∧fr 10=.n (cells.length:Int)∧fr 11=.n x∧Own B h k [] | .inr x3,e,fr,k=>e=.ret∧fr 2=.n x3∧Own B h k []) ⟨I,rfl,o,d,rfl,(l.pk [])⟩ ?_ ?_)))))
    ·rintro x2 X F ⟨f,s,p,q,g,c⟩ S hp
     dsimp only [Zam.s1] at hp
     refine Zi (Zc (zF g rfl) (Ze (ZB (zD hp rfl (fun w hp=>?_) (fun w hp=>?_)))))
     ·refine Zas (ZB (Zaa (Zi (Zb _ g (Zb (.n x2) rfl (Zg ?_))))))
      refine Zo (Zi (Zb _ f (Zb _ s (Zb (.n x2) rfl ?_))))
      obtain ⟨x4,⟨Y,Q,D,rfl,E⟩,hp⟩:=bdk hp fun _=>Zdo.ok (h:=F)  (c.rd0 s_cells.rd)
      refine ZaI rfl rfl D ?_
      have m:=c.call E rfl
      refine Zb (.n x4) rfl (Ze (Zi (Zb (.n x4) rfl (Zc (Zc5 rfl rfl) (Ze (zD hp rfl (fun y hp=>?_) (fun y hp=>?_)))))))
      ·refine Zi (Zb (.n x4) rfl (Zb (.n x4) rfl (Ze (Zar (Zbv (zE ?_))))))
       cases hp
       exact ⟨nofun,rfl,rfl,(m.pk [])⟩
      ·refine Zc2 (Zaf (Zo (zI (ckk hp fun A hp=>Zc (zc g rfl A) (Zb (.n (x2 + 1)) rfl (Zg ?_))))))
       cases hp
       exact ⟨rfl,f,s,p,q,rfl,(m.pk [])⟩
     ·refine Zbq (zM ?_)
      cases hp
      exact ⟨nofun,rfl,f,p,q,(c.pk [])⟩
    rintro (_ | x3) hp _ W P j
    ·obtain ⟨rfl,J,K,L,b⟩:=j
     refine Zav (Zaf (Zo (zI (ckk hp fun C hp=>Zc (zc L rfl C) (Zb (.n (x + 1)) rfl (Zg ?_))))))
     cases hp
     exact ⟨rfl,J,K,rfl,(b.pk [])⟩
    ·obtain ⟨rfl,M,b⟩:=j
     refine Zbv (Zbv (zE ?_))
     cases hp
     exact ⟨nofun,rfl,M,(b.pk [])⟩
   ·refine Zbq (zM ?_)
    cases hp
    exact ⟨nofun,rfl,(l.pk [])⟩
  rintro (_ | x1) hp _ T N i
  ·obtain ⟨rfl,a⟩:=i
   refine Zav (Zo (Zi (Zb (.n 0) rfl (Ze (Zar (z4 (zX rfl ZK) ?_))))))
   cases hp
   exact ⟨rfl,(a.pk [])⟩
  ·obtain ⟨rfl,H,a⟩:=i
   refine Zbv (zE (z4 (zX H ZK) ?_))
   cases hp
   exact ⟨rfl,(a.pk [])⟩

theorem ZdS.ok {h:Hp} {x:Int} {y:Int}   {r:Int × Int} (hp:ZdS x y=some r) :
  ∃ u k',Is G 98 [.i .u64 x,.i .u64 y] h u k'∧V.tu [.i .u64 r.1,.i .u64 r.2]=u∧Own (fun r=>r < h.n) h k' []:=by
 refine WC.is (ZaP ZfV ?_)
 unfold ZdS at hp
 let B:Nat→Prop:=(fun r=>r < h.n)
 have hO:Own B h h []:=Own.start0 h
 refine Zi (Zb (.i .u64 0) rfl (Zb (.i .u64 0) rfl (Ze (Zi (Zb (.i .u64 x) rfl ?_)))))
 refine Zc (Zfj (v:=.i .u64 (ZM .u64 x 4294967295)) rfl rfl (by decide) rfl) (Zb (.i .u64 (ZM .u64 x 4294967295)) rfl (Ze (Zi (Zb (.i .u64 x) rfl (Zc (ZfC (v:=.i .u64 (zL .u64 x 32)) rfl rfl (by decide) (Zen (by decide))) (Zb (.i .u64 (zL .u64 x 32)) rfl ?_))))))
 refine Ze (Zi (Zb (.i .u64 y) rfl (Zc (Zfj (v:=.i .u64 (ZM .u64 y 4294967295)) rfl rfl (by decide) rfl) (Zb (.i .u64 (ZM .u64 y 4294967295)) rfl (Ze ?_)))))
 refine Zi (Zb (.i .u64 y) rfl (Zc (ZfC (v:=.i .u64 (zL .u64 y 32)) rfl rfl (by decide) (Zen (by decide))) (Zb (.i .u64 (zL .u64 y 32)) rfl (Ze (Zi ?_)))))
 refine Zb (.i .u64 (ZM .u64 x 4294967295)) rfl (Zb (.i .u64 (ZM .u64 y 4294967295)) rfl (Zc (Zfj (v:=.i .u64 (Zaj .u64 (ZM .u64 x 4294967295) (ZM .u64 y 4294967295))) rfl rfl (by decide) rfl) (Zb (.i .u64 (Zaj .u64 (ZM .u64 x 4294967295) (ZM .u64 y 4294967295))) rfl (Ze (Zi (Zb (.i .u64 (zL .u64 x 32)) rfl ?_))))))
 refine Zb (.i .u64 (ZM .u64 y 4294967295)) rfl (Zc (Zfj (v:=.i .u64 (Zaj .u64 (zL .u64 x 32) (ZM .u64 y 4294967295))) rfl rfl (by decide) rfl) (Zb (.i .u64 (Zaj .u64 (ZM .u64 x 4294967295) (ZM .u64 y 4294967295))) rfl (Zc (ZfC (v:=.i .u64 (zL .u64 (Zaj .u64 (ZM .u64 x 4294967295) (ZM .u64 y 4294967295)) 32)) rfl rfl (by decide) (Zen (by decide))) (Zc (Zfj (v:=.i .u64 (Zb0 .u64 (Zaj .u64 (zL .u64 x 32) (ZM .u64 y 4294967295)) (zL .u64 (Zaj .u64 (ZM .u64 x 4294967295) (ZM .u64 y 4294967295)) 32))) rfl rfl (by decide) rfl) (Zb (.i .u64 (Zb0 .u64 (Zaj .u64 (zL .u64 x 32) (ZM .u64 y 4294967295)) (zL .u64 (Zaj .u64 (ZM .u64 x 4294967295) (ZM .u64 y 4294967295)) 32))) rfl (Ze (ZB ?_)))))))
 refine zI (Zb (.i .u64 (Zb0 .u64 (Zaj .u64 (zL .u64 x 32) (ZM .u64 y 4294967295)) (zL .u64 (Zaj .u64 (ZM .u64 x 4294967295) (ZM .u64 y 4294967295)) 32))) rfl (Zc (Zfj (v:=.i .u64 (ZM .u64 (Zb0 .u64 (Zaj .u64 (zL .u64 x 32) (ZM .u64 y 4294967295)) (zL .u64 (Zaj .u64 (ZM .u64 x 4294967295) (ZM .u64 y 4294967295)) 32)) 4294967295)) rfl rfl (by decide) rfl) (Zb (.i .u64 (ZM .u64 (Zb0 .u64 (Zaj .u64 (zL .u64 x 32) (ZM .u64 y 4294967295)) (zL .u64 (Zaj .u64 (ZM .u64 x 4294967295) (ZM .u64 y 4294967295)) 32)) 4294967295)) rfl (Ze (Zi (Zb (.i .u64 (Zb0 .u64 (Zaj .u64 (zL .u64 x 32) (ZM .u64 y 4294967295)) (zL .u64 (Zaj .u64 (ZM .u64 x 4294967295) (ZM .u64 y 4294967295)) 32))) rfl ?_))))))
 refine Zc (ZfC (v:=.i .u64 (zL .u64 (Zb0 .u64 (Zaj .u64 (zL .u64 x 32) (ZM .u64 y 4294967295)) (zL .u64 (Zaj .u64 (ZM .u64 x 4294967295) (ZM .u64 y 4294967295)) 32)) 32)) rfl rfl (by decide) (Zen (by decide))) (Zb (.i .u64 (zL .u64 (Zb0 .u64 (Zaj .u64 (zL .u64 x 32) (ZM .u64 y 4294967295)) (zL .u64 (Zaj .u64 (ZM .u64 x 4294967295) (ZM .u64 y 4294967295)) 32)) 32)) rfl (Ze (Zi (Zb (.i .u64 (ZM .u64 (Zb0 .u64 (Zaj .u64 (zL .u64 x 32) (ZM .u64 y 4294967295)) (zL .u64 (Zaj .u64 (ZM .u64 x 4294967295) (ZM .u64 y 4294967295)) 32)) 4294967295)) rfl (Zb (.i .u64 (ZM .u64 x 4294967295)) rfl (Zb (.i .u64 (zL .u64 y 32)) rfl ?_))))))
 refine Zc (Zfj (v:=.i .u64 (Zaj .u64 (ZM .u64 x 4294967295) (zL .u64 y 32))) rfl rfl (by decide) rfl) (Zc (Zfj (v:=.i .u64 (Zb0 .u64 (ZM .u64 (Zb0 .u64 (Zaj .u64 (zL .u64 x 32) (ZM .u64 y 4294967295)) (zL .u64 (Zaj .u64 (ZM .u64 x 4294967295) (ZM .u64 y 4294967295)) 32)) 4294967295) (Zaj .u64 (ZM .u64 x 4294967295) (zL .u64 y 32)))) rfl rfl (by decide) rfl) (Zb (.i .u64 (Zb0 .u64 (ZM .u64 (Zb0 .u64 (Zaj .u64 (zL .u64 x 32) (ZM .u64 y 4294967295)) (zL .u64 (Zaj .u64 (ZM .u64 x 4294967295) (ZM .u64 y 4294967295)) 32)) 4294967295) (Zaj .u64 (ZM .u64 x 4294967295) (zL .u64 y 32)))) rfl (Ze (Zi (Zb (.i .u64 (zL .u64 x 32)) rfl (Zb (.i .u64 (zL .u64 y 32)) rfl ?_))))))
 refine Zc (Zfj (v:=.i .u64 (Zaj .u64 (zL .u64 x 32) (zL .u64 y 32))) rfl rfl (by decide) rfl) (Zb (.i .u64 (zL .u64 (Zb0 .u64 (Zaj .u64 (zL .u64 x 32) (ZM .u64 y 4294967295)) (zL .u64 (Zaj .u64 (ZM .u64 x 4294967295) (ZM .u64 y 4294967295)) 32)) 32)) rfl (Zc (Zfj (v:=.i .u64 (Zb0 .u64 (Zaj .u64 (zL .u64 x 32) (zL .u64 y 32)) (zL .u64 (Zb0 .u64 (Zaj .u64 (zL .u64 x 32) (ZM .u64 y 4294967295)) (zL .u64 (Zaj .u64 (ZM .u64 x 4294967295) (ZM .u64 y 4294967295)) 32)) 32))) rfl rfl (by decide) rfl) (Zb (.i .u64 (Zb0 .u64 (ZM .u64 (Zb0 .u64 (Zaj .u64 (zL .u64 x 32) (ZM .u64 y 4294967295)) (zL .u64 (Zaj .u64 (ZM .u64 x 4294967295) (ZM .u64 y 4294967295)) 32)) 4294967295) (Zaj .u64 (ZM .u64 x 4294967295) (zL .u64 y 32)))) rfl (Zc (ZfC (v:=.i .u64 (zL .u64 (Zb0 .u64 (ZM .u64 (Zb0 .u64 (Zaj .u64 (zL .u64 x 32) (ZM .u64 y 4294967295)) (zL .u64 (Zaj .u64 (ZM .u64 x 4294967295) (ZM .u64 y 4294967295)) 32)) 4294967295) (Zaj .u64 (ZM .u64 x 4294967295) (zL .u64 y 32))) 32)) rfl rfl (by decide) (Zen (by decide))) (Zc (Zfj (v:=.i .u64 (Zb0 .u64 (Zb0 .u64 (Zaj .u64 (zL .u64 x 32) (zL .u64 y 32)) (zL .u64 (Zb0 .u64 (Zaj .u64 (zL .u64 x 32) (ZM .u64 y 4294967295)) (zL .u64 (Zaj .u64 (ZM .u64 x 4294967295) (ZM .u64 y 4294967295)) 32)) 32)) (zL .u64 (Zb0 .u64 (ZM .u64 (Zb0 .u64 (Zaj .u64 (zL .u64 x 32) (ZM .u64 y 4294967295)) (zL .u64 (Zaj .u64 (ZM .u64 x 4294967295) (ZM .u64 y 4294967295)) 32)) 4294967295) (Zaj .u64 (ZM .u64 x 4294967295) (zL .u64 y 32))) 32))) rfl rfl (by decide) rfl) (Zb (.i .u64 (Zb0 .u64 (Zb0 .u64 (Zaj .u64 (zL .u64 x 32) (zL .u64 y 32)) (zL .u64 (Zb0 .u64 (Zaj .u64 (zL .u64 x 32) (ZM .u64 y 4294967295)) (zL .u64 (Zaj .u64 (ZM .u64 x 4294967295) (ZM .u64 y 4294967295)) 32)) 32)) (zL .u64 (Zb0 .u64 (ZM .u64 (Zb0 .u64 (Zaj .u64 (zL .u64 x 32) (ZM .u64 y 4294967295)) (zL .u64 (Zaj .u64 (ZM .u64 x 4294967295) (ZM .u64 y 4294967295)) 32)) 4294967295) (Zaj .u64 (ZM .u64 x 4294967295) (zL .u64 y 32))) 32))) rfl (Ze ?_)))))))
 refine Zi (Zb (.i .u64 x) rfl (Zb (.i .u64 y) rfl (Zc (Zfj (v:=.i .u64 (Zaj .u64 x y)) rfl rfl (by decide) rfl) (Zb (.i .u64 (Zaj .u64 x y)) rfl (Ze (Zar ?_))))))
 refine z4 (zX rfl (zX rfl ZK)) ?_
 cases hp
 exact ⟨rfl,(hO.pk [])⟩

theorem ZdA.ok {h:Hp} {x:Int} {y:Int}   {r:Int × Int} (hp:ZdA x y=some r) :
  ∃ u k',Is G 89 [.i .u64 x,.i .u64 y] h u k'∧V.tu [.i .u64 r.1,.i .u64 r.2]=u∧Own (fun r=>r < h.n) h k' []:=by
 refine WC.is (ZaP ZgG ?_)
 unfold ZdA at hp
 let B:Nat→Prop:=(fun r=>r < h.n)
 have hO:Own B h h []:=Own.start0 h
 refine Zi (Zb (.i .u64 0) rfl (Zb (.i .u64 0) rfl (Ze (ZB (Zlk rfl rfl (Zc2 ?_))))))
 refine Zo (Zi (Zb (.i .u64 x) rfl (Zb (.i .u64 y) rfl ?_)))
 obtain ⟨⟨x1,x2⟩,⟨e,d,a,rfl,c⟩,hp⟩:=bdk hp fun _=>ZdS.ok (h:=h)  
 refine ZaI rfl rfl a ?_
 have b:=hO.call c rfl
 refine Zb (.tu [.i .u64 x1,.i .u64 x2]) rfl (Zc (Zbr rfl rfl) (Zc (Zbr rfl rfl) (Zb (.i .u64 x1) rfl (Zb (.i .u64 x2) rfl (Ze (Zi ?_))))))
 refine Zb (.i .u64 x1) rfl (Zb (.i .u64 x2) rfl (Zb (.i .u64 x1) rfl (Zb (.i .u64 x2) rfl (Ze (Zar (z4 (zX rfl (zX rfl ZK)) ?_))))))
 cases hp
 exact ⟨rfl,(b.pk [])⟩

theorem ZaD.ok {h:Hp} {x:List Int} {count:Int} {v_x:V} (s_x:Sl zT h v_x x) {r:(List Int)} (hp:ZaD x count=some r) :
  ∃ u k',Is G 83 [v_x,.n count] h u k'∧∃ A,A=u∧Own (fun r=>r < h.n) h k' [eSl zT A r]:=by
 refine WC.is (ZaP Zeg ?_)
 unfold ZaD at hp
 let B:Nat→Prop:=(fun r=>r < h.n)
 have hO:Own B h h []:=Own.start0 h
 refine Zi (Zb (.sn) rfl (Ze (ZB (Zi (Zb (.n count) rfl ?_)))))
 refine Zc (zF rfl rfl) (Ze (Zgd hp (fun _ e fr k=>e=.normal∧fr 0=v_x∧fr 1=.n count∧Own B h k []) (fun _ hp=>?_) ?_))
 ·refine zD hp rfl (fun C hp=>?_) (fun C hp=>?_)
  ·exact nomatch hp
  ·refine Zc2 ?_
   cases hp
   exact ⟨rfl,rfl,rfl,(hO.pk [])⟩
 rintro _ hp _ aq Y ⟨rfl,p,ab,s⟩
 refine Zo (Zi (Zb _ p (Zc (Zae (s.rd0 s_x.rd) rfl) (ckk hp fun H hp=>Zc (Zfp rfl H) (Zb _ ab (ckk hp fun I hp=>?_))))))
 refine Zc (Zfp rfl I) ?_
 obtain ⟨⟨x1,x2⟩,⟨ax,aa,M,rfl,X⟩,hp⟩:=bdk hp fun _=>ZdA.ok (h:=Y)  
 refine ZaI rfl rfl M ?_
 have S:=s.call X rfl
 refine Zb (.tu [.i .u64 x1,.i .u64 x2]) rfl (Zc (Zbr rfl rfl) (Zc (Zbr rfl rfl) (Zb (.i .u64 x1) rfl (Zb (.i .u64 x2) rfl (Ze (ZB (ZB ?_)))))))
 refine zI (Zb (.i .u64 x1) rfl (Zc (Zd2 rfl rfl) (Zb (.b (decide (0 < x1))) rfl (zK 3 (fun f k=>aa=k∧f 26=.b ((decide (0 < x1)) || (decide (9223372036854775807 < x2)))∧f 0=v_x∧f 6=.i .u64 x2) ?_ ?_))))
 ·rcases bc (decide (0 < x1)) with c | c
  ·refine Zh rfl c (Zh rfl c (Zc (Zcb (w:=(decide (0 < x1)) || (decide (9223372036854775807 < x2))) rfl c rfl) (Zg ?_)))
   exact ⟨rfl,rfl,p,rfl⟩
  ·refine Zp rfl c (Zb (.i .u64 x2) rfl (Zp rfl c (Zc (Zd2 rfl rfl) (Zc (Zcc rfl c rfl) (Zg ?_)))))
   exact ⟨rfl,rfl,p,rfl⟩
 rintro ai _ ⟨rfl,Q,P,R⟩
 refine Ze (Zgd hp (fun _ e fr k=>e=.normal∧fr 0=v_x∧fr 6=.i .u64 x2∧Own B h k []) (fun _ hp=>?_) ?_)
 ·refine zD hp Q (fun D hp=>?_) (fun D hp=>?_)
  ·exact nomatch hp
  ·refine Zc2 ?_
   cases hp
   exact ⟨rfl,P,R,(S.pk [])⟩
 rintro _ hp _ ar aj ⟨rfl,ac,ad,t⟩
 refine Zo (Zi (Zb _ ad (ckk hp fun J hp=>Zc (Zfp rfl J) (ckk hp fun K hp=>zz (t.mks (E:=zT) (y:=(0:Int)) (bytes:=8) (z:=x2) t.fr rfl rfl rfl K (by decide)) ?_))))
 rintro a ak ⟨aw,af,v⟩
 refine Zb a rfl (Ze (Zi (Zb a rfl (Zb _ ac (zz (v.cpy 0 rfl (v.rd0 s_x.rd) rfl rfl (fun _=>rfl)) ?_)))))
 rintro _ al ⟨rfl,ag,T⟩
 refine Zb (.n ((min x.length (List.replicate x2.toNat (0:Int)).length:Nat):Int)) rfl (Ze (ZB (Zaa (Zb7 hp (fun | (newslice,n),fr,k=>fr 7=a∧fr 8=.n n∧Own B h k [eSl zT a newslice]) (fun newslice1 e fr k=>e=(.exit 0)∧fr 7=a∧Own B h k [eSl zT a newslice1]) ⟨rfl,rfl,(T.pk [0])⟩ ?_ ?_))))
 ·rintro ⟨newslice,n⟩ av o ⟨d,m,j⟩ ap hp
  dsimp only [ZaD.s0] at hp
  refine ZB (Zi (Zb _ m (Zb _ d (Zc (Zae (j.sl 0 rfl) rfl) (Zc (zF rfl rfl) (Ze (zD hp rfl (fun F hp=>?_) (fun F hp=>?_))))))))
  ·refine Zas (Zaa (ZeH ?_))
   have l:=j.bump 10
   have O:=Fresh.start o 10
   have ao:∀ {i:Nat},h.n≤o.n + i:=Nat.le_trans j.n (Nat.le_add_right _ _)
   refine ZaU _ m (ZaU _ d (ZaU _ m (ckk hp fun g hp=>ZT (ZlI (E:=zT) (z:=n) (l.sl 0 rfl) rfl rfl g) (ZaU _ d (ZaU _ m (ZT (Zke (E:=zT) (z:=n) (l.sl 0 rfl) rfl rfl g) (Zd1 (l.cpyF (E:=zT) (z:=n) 0 rfl g (Sl.cutU (l.sl 0 rfl) g:Sl zT (o.bump 10) (V.cut a 0 n.toNat) (newslice.take n.toNat)) rfl rfl (fun _=>rfl)) ?_)))))))
   rintro _ an ay ⟨rfl,N,W⟩
   have ah:=O.kept N (by decide)
   refine ckk hp fun L hp=>ZT (zc rfl rfl L) (ZaU (.n (n + ((min (newslice.take n.toNat).length (newslice.drop n.toNat).length:Nat):Int))) rfl (Zcv ?_))
   refine And.intro ?_ ?_
   ·intro q hq
    cases hq
   refine Zaf ?_
   cases hp
   exact ⟨rfl,d,rfl,(W.pk [0])⟩
  ·refine Zbq (zM ?_)
   cases hp
   exact ⟨nofun,rfl,d,(j.pk [0])⟩
 rintro newslice1 hp _ au am ⟨rfl,ae,U⟩
 refine Zav (Zo (Zi (Zb _ ae (Zb a rfl (Ze (Zar ?_))))))
 refine z4 (zX rfl ZK) ?_
 cases hp
 exact ⟨a,rfl,(U.pk [0])⟩

theorem Zba.ok {h:Hp} {cells:List Za} {v:Int} {v_cells:V} (s_cells:Sl Zd h v_cells cells) {r:(List Int) × (List Int)} (hp:Zba cells v=some r) :
  ∃ u k',Is G 67 [v_cells,.n v] h u k'∧∃ ap ar,V.tu [ap,ar]=u∧Own (fun r=>r < h.n) h k' [eSl zT ap r.1,eSl zT ar r.2]:=by
 refine WC.is (ZaP ZfM ?_)
 unfold Zba at hp
 let B:Nat→Prop:=(fun r=>r < h.n)
 have hO:Own B h h []:=Own.start0 h
 refine Zi (Zb (.sn) rfl (Zb (.sn) rfl (Ze (Zi (zz (hO.bsl (E:=zT) (l:=([(-1)]:List Int)) hO.fr (by rw [(zp (v:=.n (-1)) rfl ZaN)]; rfl) rfl) ?_)))))
 rintro a1 al ⟨bA,a3,J⟩
 refine Zb v_cells rfl (Zc (Zae (J.rd0 s_cells.rd) rfl) ?_)
 obtain ⟨x,⟨bF,bj,aC,c,rfl,aL⟩,hp⟩:=bdk hp fun _=>ZaD.ok (h:=al)  (J.sl 0 rfl:Sl zT al a1 ([(-1)]:List Int))
 refine ZaI rfl rfl aC ?_
 have ai:=J.call aL rfl
 refine zz (ai.bsl (E:=zT) (l:=([(-1)]:List Int)) ai.fr (by rw [(zp (v:=.n (-1)) rfl ZaN)]; rfl) rfl) ?_
 rintro a2 am ⟨bB,a5,L⟩
 refine Zb v_cells rfl (Zc (Zae (L.rd0 s_cells.rd) rfl) ?_)
 obtain ⟨x1,⟨bG,bk,aD,d,rfl,aM⟩,hp⟩:=bdk hp fun _=>ZaD.ok (h:=am)  (L.sl 2 rfl:Sl zT am a2 ([(-1)]:List Int))
 refine ZaI rfl rfl aD ?_
 have aj:=L.call aM rfl
 refine Zb c rfl (Zb d rfl (Ze (Zi (Zb (.n v) rfl (zz (aj.bsl (E:=zT) (l:=[v]) aj.fr (by rw [(zp (v:=.n v) rfl ZaN)]; rfl) rfl) ?_)))))
 rintro au bl ⟨bC,a6,M⟩
 refine Zb au rfl (Ze (Zi (Zb v_cells rfl (Zc (Zae (M.rd0 s_cells.rd) rfl) (ckk hp fun ay hp=>zz (M.mks (E:=e_bool) (y:=false) (bytes:=1) (z:=(cells.length:Int)) M.fr rfl rfl rfl ay (by decide)) ?_)))))
 rintro i aQ ⟨bD,a7,ak⟩
 refine Zb i rfl (Ze (Zi (Zb i rfl (Zb (.n v) rfl (ckk hp fun T hp=>Zc (ZZ (ak.sl 5 rfl:Sl e_bool aQ i (List.replicate ((cells.length:Int):Int).toNat false)) rfl rfl T) ?_)))))
 refine zz (ak.ste (y:=true) 5 rfl rfl (Zf T) rfl rfl ⟨rfl,Nat.le_of_ble_eq_true rfl,rfl⟩ rfl) ?_
 rintro _ bm ⟨rfl,a8,bp,aJ⟩
 refine Ze (ZB (Zaa (Zb7 hp (fun | (from_,dir,l,met),fr,k=>∃ o,fr 0=v_cells∧fr 6=c∧fr 7=d∧fr 8=o∧fr 9=i∧Own B h k [eSl zT c from_,eSl zT d dir,eSl zT o l,eSl e_bool i met]) (fun | (from_1,dir1),e,fr,k=>e=(.exit 0)∧fr 6=c∧fr 7=d∧Own B h k [eSl zT c from_1,eSl zT d dir1]) ⟨au,rfl,rfl,rfl,rfl,rfl,(aJ.pk [1,3,4,5])⟩ ?_ ?_)))
 ·rintro ⟨from_,dir,l,met⟩ bw bo ⟨o,aT,an,ao,N,aU,j⟩ bt hp
  dsimp only [Zba.s0] at hp
  refine ZB (Zi (Zb _ N (Zc (Zae (j.sl 2 rfl) rfl) (Zc (Zd2 rfl rfl) (Ze (zD hp rfl (fun av hp=>?_) (fun av hp=>?_)))))))
  ·refine Zas (Zaa (Zi (Zb _ N (ckk hp fun U hp=>Zc (ZZ (j.sl 2 rfl) rfl rfl U) (Zc (zN (j.sl 2 rfl) rfl (Zf U) rfl) ?_)))))
   refine Zb (.n (gi l (0:Int).toNat)) rfl (Ze (Zi (Zb _ N (ckk hp fun W hp=>Zc (ZlI (E:=zT) (z:=1) (j.sl 2 rfl) rfl rfl W) (Zb ((V.cut o (1:Int).toNat (l).length)) rfl ?_)))))
   refine Ze (Zi (Zb (.n 0) rfl (Ze (Zaa ?_))))
   have aH:=j.cutF 2 rfl W
   refine Zb7 hp (fun | (from_2,dir2,l1,met1,x2),fr,k=>∃ m,fr 0=v_cells∧fr 6=c∧fr 7=d∧fr 8=m∧fr 9=i∧fr 10=.n (gi l (0:Int).toNat)∧fr 37=.n x2∧Own B h k [eSl zT c from_2,eSl zT d dir2,eSl zT m l1,eSl e_bool i met1]) (fun | (from_3,dir3,l2,met2),e,fr,k=>e=(.exit 2)∧∃ C,fr 0=v_cells∧fr 6=c∧fr 7=d∧fr 8=C∧fr 9=i∧Own B h k [eSl zT c from_3,eSl zT d dir3,eSl zT C l2,eSl e_bool i met2]) ⟨(V.cut o (1:Int).toNat (l).length),aT,an,ao,rfl,aU,rfl,rfl,(aH.pk [0,1,2,3])⟩ ?_ ?_
   ·rintro ⟨from_2,dir2,l1,met1,x2⟩ bz aO ⟨m,s,P,Q,R,A,O,w,g⟩ bu hp
    dsimp only [Zba.s1] at hp
    refine Zi (Zc (zF w rfl) (Ze (ZB (zD hp rfl (fun aw hp=>?_) (fun aw hp=>?_)))))
    ·refine Zas (ZB (Zaa (Zi (Zb _ w (Zb (.n x2) rfl (Zg ?_))))))
     refine Zo (Zi (Zb _ s (Zb _ O (Zb (.n x2) rfl (ckk hp fun p hp=>Zc (ZZ (g.rd0 s_cells.rd) rfl rfl p) (Zc (Zbo (g.rd0 s_cells.rd) (Zf p) rfl rfl) ?_))))))
     refine ckk hp fun X hp=>Zc (ZaZ (g.rd0 s_cells.rd) (Zf p) rfl rfl X rfl) (Zc (zN (g.rd0 s_cells.rd) rfl (Zf p) (zx X)) (Zb (.n (((gi cells (gi l (0:Int).toNat:Int).toNat).Next).get x2)) rfl (Ze (Zi (Zb (.n (((gi cells (gi l (0:Int).toNat:Int).toNat).Next).get x2)) rfl ?_)))))
     refine Zc (ZcV rfl rfl) (Zb (.b (decide (0≤(((gi cells (gi l (0:Int).toNat:Int).toNat).Next).get x2)))) rfl ?_)
     obtain ⟨t,aN,hp⟩:=ZaH hp
     refine zK 6 (fun f k=>aO=k∧f 55=.b t∧f 0=v_cells∧f 10=.n (gi l (0:Int).toNat)∧f 11=.n x2∧f 12=.n (((gi cells (gi l (0:Int).toNat:Int).toNat).Next).get x2)∧f 37=.n x2∧f 6=c∧f 7=d∧f 8=m∧f 9=i) ?_ ?_
     ·clear hp; rcases ZaR aN with ⟨a,hp⟩ | ⟨a,hp⟩
      ·refine Zp rfl a (Zb _ A (Zp rfl a (Zb (.n (((gi cells (gi l (0:Int).toNat:Int).toNat).Next).get x2)) rfl (Zp rfl a (ckk hp fun Y hp=>Zc (ZZ (g.sl 3 rfl) rfl rfl Y) (Zp rfl a (Zc (zN (g.sl 3 rfl) rfl (Zf Y) rfl) ?_)))))))
       refine Zp rfl a (Zc (ZcO rfl) (Zc (ZaF (v:=.b t) rfl a (Eq.trans (b:=V.b (!(gi met1 (((gi cells (gi l (0:Int).toNat:Int).toNat).Next).get x2:Int).toNat))) rfl (congrArg V.b (Option.some.inj hp)))) (Zg ?_)))
       exact ⟨rfl,rfl,s,O,rfl,rfl,w,P,Q,R,A⟩
      ·refine Zh rfl a (Zh rfl a (Zh rfl a (Zh rfl a (Zh rfl a (Zc (Za5 (v:=.b t) rfl a (Eq.trans (b:=V.b false) rfl (congrArg V.b (Option.some.inj hp)))) (Zg ?_))))))
       exact ⟨rfl,rfl,s,O,rfl,rfl,w,P,Q,R,A⟩
     rintro bd _ ⟨rfl,aF,ac,D,aE,q,ad,F,H,ae,I⟩
     refine Ze (zD hp aF (fun ax hp=>?_) (fun ax hp=>?_))
     ·refine Zi (Zb _ I (Zb _ q (Zb _ F (Zb _ q (Zb _ H (Zb _ q (Zb _ D ?_)))))))
      refine Zb _ aE (ckk hp fun aa hp=>Zc (ZZ (g.sl 3 rfl) rfl rfl aa) (zz (g.ste (y:=true) 3 rfl rfl (Zf aa) rfl rfl ⟨rfl,Nat.le_of_ble_eq_true rfl,rfl⟩ rfl) ?_))
      rintro _ bf ⟨rfl,a9,bq,af⟩
      refine ckk hp fun ab hp=>Zc (ZZ (af.sl 0 rfl) rfl rfl ab) (zz (af.ste (y:=(gi l (0:Int).toNat)) 0 rfl rfl (Zf ab) rfl rfl ⟨rfl,Nat.le_of_ble_eq_true rfl,rfl⟩ rfl) ?_)
      rintro _ bg ⟨rfl,ba,br,ag⟩
      refine ckk hp fun S hp=>Zc (ZZ (ag.sl 1 rfl) rfl rfl S) (zz (ag.ste (y:=x2) 1 rfl rfl (Zf S) rfl rfl ⟨rfl,Nat.le_of_ble_eq_true rfl,rfl⟩ rfl) ?_)
      rintro _ bh ⟨rfl,bb,bs,ah⟩
      refine Ze (zI (Zb _ ae (Zb _ q (zz (ah.bsl (E:=zT) (l:=[((gi cells (gi l (0:Int).toNat:Int).toNat).Next).get x2]) ah.fr (by rw [(zp (v:=.n (((gi cells (gi l (0:Int).toNat:Int).toNat).Next).get x2)) rfl ZaN)]; rfl) rfl) ?_))))
      rintro a0 aP ⟨bE,bc,K⟩
      refine ckk hp fun az hp=>zz (K.app (bytes:=8) 2 K.fr rfl (K.sl 4 rfl:Sl zT aP a0 [((gi cells (gi l (0:Int).toNat:Int).toNat).Next).get x2]) rfl rfl (fun _=>rfl) az (by decide)) ?_
      rintro aq bi ⟨a4,aI⟩
      refine Zb aq rfl (Zg (Zaf (Zo (zI (ckk hp fun aA hp=>Zc (zc ad rfl aA) (Zb (.n (x2 + 1)) rfl (Zg ?_)))))))
      cases hp
      exact ⟨rfl,aq,ac,F,H,rfl,I,D,rfl,(aI.pk [0,1,2,3])⟩
     ·refine Zc2 (Zaf (Zo (zI (ckk hp fun aB hp=>Zc (zc ad rfl aB) (Zb (.n (x2 + 1)) rfl (Zg ?_))))))
      cases hp
      exact ⟨rfl,m,ac,F,H,ae,I,D,rfl,(g.pk [0,1,2,3])⟩
    ·refine Zbq (zM ?_)
     cases hp
     exact ⟨nofun,rfl,m,s,P,Q,R,A,(g.pk [0,1,2,3])⟩
   rintro ⟨from_3,dir3,l2,met2⟩ hp _ bx be ⟨rfl,C,aV,aW,aX,aY,aZ,aG⟩
   refine Zav (Zaf ?_)
   cases hp
   exact ⟨rfl,C,aV,aW,aX,aY,aZ,(aG.pk [0,1,2,3])⟩
  ·refine Zbq (zM ?_)
   cases hp
   exact ⟨nofun,rfl,an,ao,(j.pk [0,1])⟩
 rintro ⟨from_1,dir1⟩ hp _ bv bn ⟨rfl,aR,aS,aK⟩
 refine Zav (Zo (Zi (Zb _ aR (Zb _ aS (Zb c rfl (Zb d rfl (Zg ?_)))))))
 refine Zo (Zar (z4 (zX rfl (zX rfl ZK)) ?_))
 cases hp
 exact ⟨c,d,rfl,(aK.pk [0,1])⟩

theorem Zbj.ok {h:Hp} {cells:List Za} {v_cells:V} (s_cells:Sl Zd h v_cells cells) {r:(List (List Int)) × Int} (hp:Zbj cells=some r) :
  ∃ u k',Is G 29 [v_cells] h u k'∧∃ ap aw,V.tu [ap,.n r.2]=u∧Own (fun r=>r < h.n) h k' [eSl eV ap aw,ZbW zT aw r.1]:=by
 refine WC.is (ZaP ZfZ ?_)
 unfold Zbj at hp
 let B:Nat→Prop:=(fun r=>r < h.n)
 have hO:Own B h h []:=Own.start0 h
 refine Zi (Zb (.sn) rfl (Zb (.n 0) rfl (Ze (ZB (Zi ?_)))))
 refine Zb v_cells rfl ?_
 obtain ⟨x,⟨bB,be,aJ,rfl,aU⟩,hp⟩:=bdk hp fun _=>Zam.ok (h:=h)  (hO.rd0 s_cells.rd)
 refine ZaI rfl rfl aJ ?_
 have w:=hO.call aU rfl
 refine Zb (.n x) rfl (Ze (Zi (Zb (.n x) rfl (Zc (Zc5 rfl rfl) (Ze (zD hp rfl (fun ax hp=>?_) (fun ax hp=>?_)))))))
 ·refine Zi (Zb (.n x) rfl (Zb (.sn) rfl (Zb (.n x) rfl (Ze (Zar (zE ?_))))))
  have aP:=w.nil eV
  have aQ:=aP.allNil zT 0
  refine z4 (zX rfl (zX rfl ZK)) ?_
  cases hp
  exact ⟨V.sn,[],rfl,(aQ.pk [0,1])⟩
 ·refine Zas (Zi (Zb (.sn) rfl (Ze (Zi ?_))))
  refine Zb v_cells rfl (Zc (Zae (w.rd0 s_cells.rd) rfl) (ckk hp fun aC hp=>zz (w.mks (E:=e_bool) (y:=false) (bytes:=1) (z:=(cells.length:Int)) w.fr rfl rfl rfl aC (by decide)) ?_))
  rintro g bj ⟨bw,a6,an⟩
  refine Zb g rfl (Ze (ZB (Zi (Zb v_cells rfl (Zc (Zae (an.rd0 s_cells.rd) rfl) (Zb (.n 0) rfl ?_))))))
  refine Ze (Zaa ?_)
  have aS:=an.nil eV
  have aT:=aS.allNil zT 0
  refine Zb7 hp (fun | (l,met,x1),fr,k=>∃ d c,fr 0=v_cells∧fr 5=d∧fr 6=g∧fr 21=.n (cells.length:Int)∧fr 22=.n x1∧Own B h k [eSl eV d c,ZbW zT c l,eSl e_bool g met]) (fun l1 e fr k=>e=(.exit 0)∧∃ q F,fr 5=q∧Own B h k [eSl eV q F,ZbW zT F l1]) ⟨V.sn,[],rfl,rfl,rfl,rfl,rfl,(aT.pk [1,2,0])⟩ ?_ ?_
  ·rintro ⟨l,met,x1⟩ bt aX ⟨d,c,A,L,M,K,C,j⟩ bq hp
   dsimp only [Zbj.s0] at hp
   refine Zi (Zc (zF C K) (Ze (ZB (zD hp rfl (fun ay hp=>?_) (fun ay hp=>?_)))))
   ·refine Zas (ZB (Zaa (Zi (Zb _ C (Zb (.n x1) rfl (Zg ?_))))))
    refine Zo (ZB (Zi (Zb _ M (Zb (.n x1) rfl (ckk hp fun X hp=>Zc (ZZ (j.sl 2 rfl) rfl rfl X) (Zc (zN (j.sl 2 rfl) rfl (Zf X) rfl) ?_))))))
    refine Ze (zD hp rfl (fun az hp=>?_) (fun az hp=>?_))
    ·refine Zbq (zM (Zav (Zo (zI (ckk hp fun aE hp=>Zc (zc C rfl aE) (Zb (.n (x1 + 1)) rfl (Zg ?_)))))))
     cases hp
     exact ⟨rfl,d,c,A,L,M,K,rfl,(j.pk [0,1,2])⟩
    ·refine Zas (Zi (Zb _ A (Zb (.n x1) rfl ?_)))
     obtain ⟨⟨x2,x3⟩,⟨bC,bl,aK,au,s,rfl,aV⟩,hp⟩:=bdk hp fun _=>Zba.ok (h:=aX)  (j.rd0 s_cells.rd)
     refine ZaI rfl rfl aK ?_
     have ao:=j.call aV rfl
     refine Zb (.tu [au,s]) rfl (Zc (Zbr rfl rfl) (Zc (Zbr rfl rfl) (Zb au rfl (Zb s rfl (Ze (Zi ?_))))))
     refine zz (ao.bsl (E:=zT) (l:=[]) ao.fr (by rw [ZaN]; rfl) rfl) ?_
     rintro av bm ⟨bx,a7,al⟩
     refine Zb av rfl (Ze (ZB (Zi (Zb _ A (Zc (Zae (al.rd0 s_cells.rd) rfl) (Zb (.n 0) rfl ?_))))))
     refine Ze (Zaa (Zb7 hp (fun | (met1,part,x4),fr,k=>∃ m,fr 0=v_cells∧fr 5=d∧fr 6=g∧fr 7=.n x1∧fr 9=s∧fr 10=m∧fr 21=.n (cells.length:Int)∧fr 22=.n x1∧fr 37=.n (cells.length:Int)∧fr 38=.n x4∧Own B h k [eSl eV d c,ZbW zT c l,eSl e_bool g met1,eSl zT s x3,eSl zT m part]) (fun | (met2,part1),e,fr,k=>e=(.exit 2)∧∃ o,fr 0=v_cells∧fr 5=d∧fr 6=g∧fr 10=o∧fr 21=.n (cells.length:Int)∧fr 22=.n x1∧Own B h k [eSl eV d c,ZbW zT c l,eSl e_bool g met2,eSl zT o part1]) ⟨av,A,L,M,rfl,rfl,rfl,K,C,rfl,rfl,(al.pk [0,1,2,4,5])⟩ ?_ ?_))
     ·rintro ⟨met1,part,x4⟩ bv aY ⟨m,N,S,T,U,W,O,P,Q,R,D,i⟩ br hp
      dsimp only [Zbj.s1] at hp
      refine Zi (Zc (zF D R) (Ze (ZB (zD hp rfl (fun aA hp=>?_) (fun aA hp=>?_)))))
      ·refine Zas (ZB (Zaa (Zi (Zb _ D (Zb (.n x4) rfl (Zg ?_))))))
       refine Zo (Zi (Zb (.n x4) rfl (Zb _ U (Zc (Zbl rfl rfl) (Zb (.b (decide (x4=x1))) rfl ?_)))))
       obtain ⟨t,aW,hp⟩:=ZaH hp
       refine zK 6 (fun f k=>aY=k∧f 50=.b t∧f 0=v_cells∧f 10=m∧f 11=.n x4∧f 21=.n (cells.length:Int)∧f 22=.n x1∧f 37=.n (cells.length:Int)∧f 38=.n x4∧f 5=d∧f 6=g∧f 7=.n x1∧f 9=s) ?_ ?_
       ·clear hp; rcases ZaR aW with ⟨a,hp⟩ | ⟨a,hp⟩
        ·refine Zh rfl a (Zh rfl a (Zh rfl a (Zh rfl a (Zh rfl a (Zc (ZaF (v:=.b t) rfl a (Eq.trans (b:=V.b true) rfl (congrArg V.b (Option.some.inj hp)))) (Zg ?_))))))
         exact ⟨rfl,rfl,N,O,rfl,P,Q,R,D,S,T,U,W⟩
        ·refine Zp rfl a (Zb _ W (Zp rfl a (Zb (.n x4) rfl (Zp rfl a (ckk hp fun Y hp=>Zc (ZZ (i.sl 3 rfl) rfl rfl Y) (Zp rfl a (Zc (zN (i.sl 3 rfl) rfl (Zf Y) rfl) ?_)))))))
         refine Zp rfl a (Zc (ZcV rfl rfl) (Zc (Za5 (v:=.b t) rfl a (Eq.trans (b:=V.b (decide (0≤(gi x3 x4.toNat)))) rfl (congrArg V.b (Option.some.inj hp)))) (Zg ?_)))
         exact ⟨rfl,rfl,N,O,rfl,P,Q,R,D,S,T,U,W⟩
       rintro bd _ ⟨rfl,aL,ab,ac,ad,ae,af,ag,ah,ai,H,aj,ak⟩
       refine Ze (zD hp aL (fun aB hp=>?_) (fun aB hp=>?_))
       ·refine Zi (Zb _ H (Zb _ ad (ckk hp fun aa hp=>Zc (ZZ (i.sl 2 rfl) rfl rfl aa) (zz (i.ste (y:=true) 2 rfl rfl (Zf aa) rfl rfl ⟨rfl,Nat.le_of_ble_eq_true rfl,rfl⟩ rfl) ?_))))
        rintro _ bo ⟨rfl,a8,bp,am⟩
        refine Ze (zI (Zb _ ac (Zb _ ad (zz (am.bsl (E:=zT) (l:=[x4]) am.fr (by rw [(zp (v:=.n x4) rfl ZaN)]; rfl) rfl) ?_))))
        rintro bD bf ⟨bz,a9,J⟩
        refine ckk hp fun aF hp=>zz (J.app (bytes:=8) 4 J.fr rfl (J.sl 5 rfl) rfl rfl (fun _=>rfl) aF (by decide)) ?_
        rintro aq bg ⟨ba,aM⟩
        refine Zb aq rfl (Zg (Zaf (Zo (zI (ckk hp fun aG hp=>Zc (zc ah rfl aG) (Zb (.n (x4 + 1)) rfl (Zg ?_)))))))
        cases hp
        exact ⟨rfl,aq,ab,ai,H,aj,ak,rfl,ae,af,ag,rfl,(aM.pk [0,1,2,3,4])⟩
       ·refine Zc2 (Zaf (Zo (zI (ckk hp fun aH hp=>Zc (zc ah rfl aH) (Zb (.n (x4 + 1)) rfl (Zg ?_))))))
        cases hp
        exact ⟨rfl,m,ab,ai,H,aj,ak,ac,ae,af,ag,rfl,(i.pk [0,1,2,3,4])⟩
      ·refine Zbq (zM ?_)
       cases hp
       exact ⟨nofun,rfl,m,N,S,T,O,P,Q,(i.pk [0,1,2,4])⟩
     rintro ⟨met2,part1⟩ hp _ bu bn ⟨rfl,o,a0,a4,a5,a1,a2,a3,I⟩
     refine Zav (Zo (zI (Zb _ a4 (Zb _ a1 (zz (I.bsl (E:=eV) (l:=[o]) I.fr (by rw [(zp (v:=o) rfl ZaN)]; simp only [fill,(I.sl 3 rfl).cells]; simp [over]) rfl) ?_)))))
     rintro bE bh ⟨bA,bb,p⟩
     refine ckk hp fun aI hp=>zz (p.appV (bytes:=24) 0 p.fr rfl (p.sl 4 rfl) rfl rfl (by simp only [List.all_cons,List.all_nil,Bool.and_true]; exact (p.sl 3 rfl).oneV) (by rw [(p.allLen 1 rfl:(c).length=(l).length)]; exact aI) (by decide)) ?_
     rintro ar bi ⟨bc,aN⟩
     have aO:=aN.absorb 1 3 rfl rfl (by decide)
     refine Zb ar rfl (Zg (Zaf (Zo (zI (ckk hp fun aD hp=>Zc (zc a3 rfl aD) (Zb (.n (x1 + 1)) rfl (Zg ?_)))))))
     cases hp
     exact ⟨rfl,ar,c++[o],a0,rfl,a5,a2,rfl,(aO.pk [0,1,2])⟩
   ·refine Zbq (zM ?_)
    cases hp
    exact ⟨nofun,rfl,d,c,L,(j.pk [0,1])⟩
  rintro l1 hp _ bs bk ⟨rfl,q,F,aZ,aR⟩
  refine Zav (Zo (Zi (Zb _ aZ (Zb q rfl (Zb (.n 0) rfl (Ze ?_))))))
  refine Zar (z4 (zX rfl (zX rfl ZK)) ?_)
  cases hp
  exact ⟨q,F,rfl,(aR.pk [0,1])⟩

theorem ZcZ.ok {h:Hp} {cells:List Za} {v_cells:V} (s_cells:Sl Zd h v_cells cells) {r:Bool} (hp:ZcZ cells=some r) :
  ∃ u k',Is G 32 [v_cells] h u k'∧V.b r=u∧Own (fun r=>r < h.n) h k' []:=by
 refine WC.is (ZaP Zga ?_)
 unfold ZcZ at hp
 let B:Nat→Prop:=(fun r=>r < h.n)
 have hO:Own B h h []:=Own.start0 h
 refine Zi (Zb (.b false) rfl (Ze (Zi (Zb v_cells rfl ?_))))
 obtain ⟨⟨x,x1⟩,⟨o,j,e,d,l,rfl,i⟩,hp⟩:=bdk hp fun _=>Zbj.ok (h:=h)  (hO.rd0 s_cells.rd)
 refine ZaI rfl rfl e ?_
 have c:=hO.call i rfl
 refine Zb (.tu [d,.n x1]) rfl (Zc (Zbr rfl rfl) (Zc (Zbr rfl rfl) (Zb d rfl (Zb (.n x1) rfl (Ze (Zi ?_))))))
 refine Zb (.n x1) rfl (Zc (Zbl rfl rfl) (Zb (.b (decide (x1=0))) rfl (zK 4 (fun f k=>j=k∧f 16=.b ((decide (x1=0)) && (decide ((x.length:Int)=1)))) ?_ ?_)))
 ·rcases bc (decide (x1=0)) with a | a
  ·refine Zp rfl a (Zb d rfl (Zp rfl a (Zc (Zg4 (n:=(x).length) (c.sl 0 rfl) (c.allLen 1 rfl:(l).length=(x).length) rfl) (Zp rfl a (Zc (Zbl rfl rfl) (Zc (ZcN rfl a rfl) (Zg ?_)))))))
   exact ⟨rfl,rfl⟩
  ·refine Zh rfl a (Zh rfl a (Zh rfl a (Zc (ZcM (w:=(decide (x1=0)) && (decide ((x.length:Int)=1))) rfl a rfl) (Zg ?_))))
   exact ⟨rfl,rfl⟩
 rintro m _ ⟨rfl,g⟩
 refine Zb _ g (Ze (Zar (z4 (zX rfl ZK) ?_)))
 cases hp
 exact ⟨rfl,(c.pk [])⟩

theorem ZbJ.ok {h:Hp} {d:ZF} {cells:List Za} {v_cells:V} (s_cells:Sl Zd h v_cells cells) {r:Bool} (hp:ZbJ d cells=some r) :
  ∃ u k',Is G 220 [.ag (Z2.c d),v_cells] h u k'∧V.b r=u∧Own (fun r=>r < h.n) h k' []:=by
 refine WC.is (ZaP Zfx ?_)
 unfold ZbJ at hp
 let B:Nat→Prop:=(fun r=>r < h.n)
 have hO:Own B h h []:=Own.start0 h
 refine Zi (zz (hO.boxd (cs:=Z2.c d) hO.fr rfl rfl) ?_)
 rintro _ m ⟨k,rfl,E,A,s⟩
 refine Zb (.b false) rfl (Ze (ZB (ZeH ?_)))
 have j:=s.bump 28
 have y:=Fresh.start m 28
 have F:∀ {i:Nat},h.n≤m.n + i:=Nat.le_trans s.n (Nat.le_add_right _ _)
 refine ZT (zG (r:=k) (o:=0) rfl rfl) (ZT (ZU (j.box 0 rfl) rfl rfl) (ZT (ZcV rfl rfl) (ZaU (.b (decide (0≤d.Cell))) rfl ?_)))
 refine ifk hp (fun e hp=>?_) (fun e hp=>?_)
 ·refine ZcG rfl e (ZT (zG (r:=k) (o:=0) rfl rfl) (ZcG rfl e (ZT (ZU (j.box 0 rfl) rfl rfl) (ZcG rfl e (ZaU v_cells rfl (ZcG rfl e (ZT (Zae (j.rd0 s_cells.rd) rfl) (ZcG rfl e ?_))))))))
  refine ZT (zF rfl rfl) (ZT (ZaF (v:=.b (decide (d.Cell < (cells.length:Int)))) rfl e rfl) (ZaU (.b (decide (d.Cell < (cells.length:Int)))) rfl ?_))
  refine ifk hp (fun f hp=>?_) (fun f hp=>?_)
  ·refine ZcG rfl f (ZT (zG (r:=k) (o:=0) rfl rfl) (ZcG rfl f (ZT (ZU (j.box 0 rfl) rfl rfl) (ZcG rfl f ?_))))
   obtain ⟨x,⟨H,D,w,rfl,t⟩,hp⟩:=bdk hp fun _=>Zbp.ok (h:=(m.bump 28))  
   refine Zi0 rfl rfl w ?_
   have C:=y.call t
   have g:=j.call t rfl
   refine ZT (ZaF (v:=.b x) rfl f rfl) (ZaU (.b x) rfl ?_)
   refine ifk hp (fun a hp=>?_) (fun a hp=>?_)
   ·refine ZcG rfl a (ZaU v_cells rfl (ZcG rfl a (ZT (zG (r:=k) (o:=0) rfl rfl) (ZcG rfl a (ZT (ZU (g.box 0 rfl) rfl rfl) (ZcG rfl a (ZT (zG (r:=k) (o:=0) rfl rfl) (ZcG rfl a ?_))))))))
    refine ZT (ZU (g.box 0 rfl) rfl rfl) (ZcG rfl a (ckk hp fun l hp=>ZT (ZZ (g.rd0 s_cells.rd) rfl rfl l) (ZcG rfl a (ZT (Zbo (g.rd0 s_cells.rd) (Zf l) rfl rfl) (ZcG rfl a (ckk hp fun p hp=>ZT (ZaZ (g.rd0 s_cells.rd) (Zf l) rfl rfl p rfl) ?_))))))
    refine ZcG rfl a (ZT (zN (g.rd0 s_cells.rd) rfl (Zf l) (zx p)) (ZcG rfl a (ZT (ZcV rfl rfl) (ZT (ZaF (v:=.b (decide (0≤(((gi cells (d.Cell:Int).toNat).Next).get d.Dir)))) rfl a rfl) (ZaU (.b (decide (0≤(((gi cells (d.Cell:Int).toNat).Next).get d.Dir)))) rfl (Zcv ?_))))))
    refine And.intro ?_ ?_
    ·intro q hq
     simp only [List.mem_cons,List.not_mem_nil,or_false] at hq
     rcases hq with rfl
     ·refine z9 ?_ ?_
      ·exact (fun h=>nomatch h)
      ·exact (fun h=>nomatch h)
    refine Zo (Zar (z4 (zX rfl ZK) ?_))
    cases hp
    exact ⟨rfl,(g.pk [])⟩
   ·refine ZaW rfl a (ZaW rfl a (ZaW rfl a (ZaW rfl a (ZaW rfl a (ZaW rfl a (ZaW rfl a (ZaW rfl a (ZaW rfl a ?_))))))))
    refine ZaW rfl a (ZT (Za5 (v:=.b false) rfl a rfl) (ZaU (.b false) rfl (Zcv ?_)))
    refine And.intro ?_ ?_
    ·intro q hq
     simp only [List.mem_cons,List.not_mem_nil,or_false] at hq
     rcases hq with rfl
     ·exact ZkK
    refine Zo (Zar (z4 (zX rfl ZK) ?_))
    cases hp
    exact ⟨rfl,(g.pk [])⟩
  ·refine ZaW rfl f (ZaW rfl f (ZaW rfl f (ZT (Za5 (v:=.b false) rfl f rfl) (ZaU (.b false) rfl (ZaW rfl rfl (ZaW rfl rfl (ZaW rfl rfl (ZaW rfl rfl ?_))))))))
   refine ZaW rfl rfl (ZaW rfl rfl (ZaW rfl rfl (ZaW rfl rfl (ZaW rfl rfl (ZaW rfl rfl (ZT (Za5 (v:=.b false) rfl rfl rfl) (ZaU (.b false) rfl (Zcv ?_))))))))
   refine And.intro ?_ ?_
   ·intro q hq
    simp only [List.mem_cons,List.not_mem_nil,or_false] at hq
    rcases hq with rfl
    ·exact ZkK
   refine Zo (Zar (z4 (zX rfl ZK) ?_))
   cases hp
   exact ⟨rfl,(j.pk [])⟩
 ·refine ZaW rfl e (ZaW rfl e (ZaW rfl e (ZaW rfl e (ZaW rfl e (ZT (Za5 (v:=.b false) rfl e rfl) (ZaU (.b false) rfl (ZaW rfl rfl (ZaW rfl rfl ?_))))))))
  refine ZaW rfl rfl (ZT (Za5 (v:=.b false) rfl rfl rfl) (ZaU (.b false) rfl (ZaW rfl rfl (ZaW rfl rfl (ZaW rfl rfl (ZaW rfl rfl (ZaW rfl rfl (ZaW rfl rfl ?_))))))))
  refine ZaW rfl rfl (ZaW rfl rfl (ZaW rfl rfl (ZaW rfl rfl (ZT (Za5 (v:=.b false) rfl rfl rfl) (ZaU (.b false) rfl (Zcv ?_))))))
  refine And.intro ?_ ?_
  ·intro q hq
   simp only [List.mem_cons,List.not_mem_nil,or_false] at hq
   rcases hq with rfl
   ·exact ZkK
  refine Zo (Zar (z4 (zX rfl ZK) ?_))
  cases hp
  exact ⟨rfl,(j.pk [])⟩

theorem ZaA.ok {h:Hp} {d:ZF} {cells:List Za} {v_cells:V} (s_cells:Sl Zd h v_cells cells) {r:ZF} (hp:ZaA d cells=some r) :
  ∃ u k',Is G 221 [.ag (Z2.c d),v_cells] h u k'∧V.ag (Z2.c r)=u∧Own (fun r=>r < h.n) h k' []:=by
 refine WC.is (ZaP Zeq ?_)
 unfold ZaA at hp
 let B:Nat→Prop:=(fun r=>r < h.n)
 have hO:Own B h h []:=Own.start0 h
 refine Zi (zz (hO.boxd (cs:=Z2.c d) hO.fr rfl rfl) ?_)
 rintro _ af ⟨b,rfl,ar,Y,D⟩
 refine zz (D.alloc (cs:=Z2.c (⟨0,0⟩:ZF)) D.fr) ?_
 rintro _ aj ⟨f,rfl,au,aa,Q⟩
 refine Ze (ZB (ZhN ?_))
 have a:=Q.bump 10
 refine Zbk v_cells rfl (z3 rfl (zG (r:=b) (o:=0) rfl rfl) (z3 rfl (ZU (a.box 0 rfl) rfl rfl) (z3 rfl (zG (r:=b) (o:=0) rfl rfl) (z3 rfl (ZU (a.box 0 rfl) rfl rfl) (ckk hp fun i hp=>z3 rfl (ZZ (a.rd0 s_cells.rd) rfl rfl i) (z3 rfl (Zbo (a.rd0 s_cells.rd) (Zf i) rfl rfl) (ckk hp fun y hp=>?_)))))))
 refine z3 rfl (ZaZ (a.rd0 s_cells.rd) (Zf i) rfl rfl y rfl) (z3 rfl (zN (a.rd0 s_cells.rd) rfl (Zf i) (zx y)) (Zbk (.n (((gi cells (d.Cell:Int).toNat).Next).get d.Dir)) rfl (Zbi (Zo (ZB (Zi (Zc (Zc4 (cs:=Zdk.c (⟨1,0,(-1),2⟩:A4 Int)) (by rw [(zp (v:=.n 1) rfl (zp (v:=.n 0) rfl (zp (v:=.n (-1)) rfl (zp (v:=.n 2) rfl ZaN))))]; rfl)) ?_)))))))
 refine Zb (.n 0) rfl (Ze (Zaa (Zb7 hp (fun x fr k=>fr 1=v_cells∧fr 2=.p b 0∧fr 4=.p f 0∧fr 5=.n (((gi cells (d.Cell:Int).toNat).Next).get d.Dir)∧fr 18=.ag (Zdk.c (⟨1,0,(-1),2⟩:A4 Int))∧fr 19=.n x∧Own B h k [zP b (Z2.c d),zP f (Z2.c (⟨0,0⟩:ZF))]) (fun | .inl _,e,fr,k=>e=(.exit 0)∧fr 2=.p b 0∧fr 4=.p f 0∧Own B h k [zP b (Z2.c d),zP f (Z2.c (⟨0,0⟩:ZF))] | .inr x1,e,fr,k=>e=.ret∧fr 4=.p f 0∧Own B h k [zP f (Z2.c x1)]) ⟨rfl,rfl,rfl,rfl,rfl,rfl,(a.pk [0,1])⟩ ?_ ?_)))
 ·rintro x ay U ⟨H,w,l,J,I,t,m⟩ aw hp
  dsimp only [ZaA.s0] at hp
  refine Zi (Zc (zF t rfl) (Ze (ZB (zD hp rfl (fun K hp=>?_) (fun K hp=>?_)))))
  ·refine Zas (ZB (Zaa (Zi (ckk hp fun A hp=>Zc (ZpC (cs:=Zdk.c (⟨1,0,(-1),2⟩:A4 Int)) (z:=x) (v:=.n ((⟨1,0,(-1),2⟩:A4 Int).get x)) I t A (ZiI A)) (Zb (.n ((⟨1,0,(-1),2⟩:A4 Int).get x)) rfl ?_)))))
   refine Ze (Zi (Zb _ J (Zc (zG (r:=b) (o:=0) w rfl) (Zc (ZU (m.box 0 rfl) rfl rfl) (Zb (.n ((⟨1,0,(-1),2⟩:A4 Int).get x)) rfl ?_)))))
   obtain ⟨x2,⟨aA,al,N,rfl,S⟩,hp⟩:=bdk hp fun _=>Za6.ok (h:=U)  
   refine ZaI rfl rfl N ?_
   have F:=m.call S rfl
   refine Zc (Zc4 (cs:=Z2.c (⟨((gi cells (d.Cell:Int).toNat).Next).get d.Dir,x2⟩:ZF)) (by rw [(zp (v:=.n (((gi cells (d.Cell:Int).toNat).Next).get d.Dir)) rfl (zp (v:=.n x2) rfl ZaN))]; rfl)) (zz (F.alloc (cs:=Z2.c (⟨0,0⟩:ZF)) F.fr) ?_)
   rintro _ am ⟨az,rfl,av,ab,R⟩
   refine zz (R.stb (cs':=Z2.c (⟨((gi cells (d.Cell:Int).toNat).Next).get d.Dir,x2⟩:ZF)) 2 rfl rfl rfl rfl ⟨rfl,Nat.le_of_ble_eq_true rfl,rfl⟩ rfl) ?_
   rintro _ W ⟨rfl,ac,ao,q⟩
   refine Ze (Zi (Zc (Zbz (q.box 2 rfl) rfl rfl) (Zb _ H ?_)))
   obtain ⟨x3,⟨aB,an,O,rfl,T⟩,hp⟩:=bdk hp fun _=>ZbJ.ok (h:=W)  (q.rd0 s_cells.rd)
   refine ZaI rfl rfl O ?_
   have s:=q.call T rfl
   refine Ze (zD hp rfl (fun L hp=>?_) (fun L hp=>?_))
   ·refine Zi (Zc (Zbz (s.box 2 rfl) rfl rfl) (zz (s.stb (cs':=Z2.c (⟨((gi cells (d.Cell:Int).toNat).Next).get d.Dir,x2⟩:ZF)) 1 rfl l rfl rfl ⟨rfl,Nat.le_of_ble_eq_true rfl,rfl⟩ rfl) ?_))
    rintro _ ah ⟨rfl,ad,ap,P⟩
    refine Ze (Zar (Zbv (zE ?_)))
    cases hp
    exact ⟨nofun,rfl,l,(P.pk [1])⟩
   ·refine Zc2 (Zaf (Zo (zI (ckk hp fun M hp=>Zc (zc t rfl M) (Zb (.n (x + 1)) rfl (Zg ?_))))))
    cases hp
    exact ⟨rfl,H,w,l,J,I,rfl,(s.pk [0,1])⟩
  ·refine Zbq (zM ?_)
   cases hp
   exact ⟨nofun,rfl,w,l,(m.pk [0,1])⟩
 rintro (_ | x1) hp _ ax ak C
 ·obtain ⟨rfl,X,j,g⟩:=C
  refine Zav (Zo (Zi (Zc (Zbz (g.box 0 rfl) X rfl) (zz (g.stb (cs':=Z2.c d) 1 rfl j rfl rfl ⟨rfl,Nat.le_of_ble_eq_true rfl,rfl⟩ rfl) ?_))))
  rintro _ ai ⟨rfl,ae,aq,E⟩
  refine Ze (Zar (z4 (Zgs j (E.box 1 rfl) rfl ZK) ?_))
  cases hp
  exact ⟨rfl,(E.pk [])⟩
 ·obtain ⟨rfl,j,g⟩:=C
  refine Zbv (zE (z4 (Zgs j (g.box 0 rfl) rfl ZK) ?_))
  cases hp
  exact ⟨rfl,(g.pk [])⟩

theorem Za2.ok {h:Hp} {cells:List Za} {v_cells:V} (s_cells:Sl Zd h v_cells cells) {r:(List (List ZF)) × Int} (hp:Za2 cells=some r) :
  ∃ u k',Is G 203 [v_cells] h u k'∧∃ az aC,V.tu [az,.n r.2]=u∧Own (fun r=>r < h.n) h k' [eSl eV az aC,ZbW Z2 aC r.1]:=by
 refine WC.is (ZaP ZfW ?_)
 unfold Za2 at hp
 let B:Nat→Prop:=(fun r=>r < h.n)
 have hO:Own B h h []:=Own.start0 h
 refine Zi (Zb (.sn) rfl (Zb (.n 0) rfl (Ze (ZB (Zi ?_)))))
 refine Zb v_cells rfl ?_
 obtain ⟨x,⟨cp,bM,aN,rfl,a7⟩,hp⟩:=bdk hp fun _=>Zam.ok (h:=h)  (hO.rd0 s_cells.rd)
 refine ZaI rfl rfl aN ?_
 have O:=hO.call a7 rfl
 refine Zb (.n x) rfl (Ze (Zi (Zb (.n x) rfl (Zc (Zc5 rfl rfl) (Ze (zD hp rfl (fun aD hp=>?_) (fun aD hp=>?_)))))))
 ·refine Zi (Zb (.n x) rfl (Zb (.sn) rfl (Zb (.n x) rfl (Ze (Zar (zE ?_))))))
  have aW:=O.nil eV
  have a2:=aW.allNil Z2 0
  refine z4 (zX rfl (zX rfl ZK)) ?_
  cases hp
  exact ⟨V.sn,[],rfl,(a2.pk [0,1])⟩
 ·refine Zas (Zi (Zb (.sn) rfl (Ze (Zi ?_))))
  refine zz (O.mkm Z2 O.fr) ?_
  rintro _ bW ⟨a,rfl,ca,bx,an⟩
  refine Zb (.mp a) rfl (Ze (ZB (Zi (Zb v_cells rfl (Zc (Zae (an.rd0 s_cells.rd) rfl) (Zb (.n 0) rfl ?_))))))
  refine Ze (Zaa ?_)
  have a4:=an.nil eV
  have a5:=a4.allNil Z2 0
  refine Zb7 hp (fun | (l,met,x1),fr,k=>∃ y C,fr 0=v_cells∧fr 5=y∧fr 6=.mp a∧fr 19=.n (cells.length:Int)∧fr 20=.n x1∧Own B h k [eSl eV y C,ZbW Z2 C l,eMp Z2 a met]) (fun l1 e fr k=>e=(.exit 0)∧∃ A M,fr 5=A∧Own B h k [eSl eV A M,ZbW Z2 M l1]) ⟨V.sn,[],rfl,rfl,rfl,rfl,rfl,(a5.pk [1,2,0])⟩ ?_ ?_
  ·rintro ⟨l,met,x1⟩ ci b1 ⟨y,C,bf,aq,bg,ap,X,ao⟩ ce hp
   dsimp only [Za2.s0] at hp
   refine Zi (Zc (zF X ap) (Ze (ZB (zD hp rfl (fun aE hp=>?_) (fun aE hp=>?_)))))
   ·refine Zas (ZB (Zaa (Zi (Zb _ X (Zb (.n x1) rfl (Zg ?_))))))
    refine Zo (Zi (Zb (.n 0) rfl (Ze (Zaa (Zb7 hp (fun | (l2,met1,x2),fr,k=>∃ g d,fr 0=v_cells∧fr 5=g∧fr 6=.mp a∧fr 7=.n x1∧fr 19=.n (cells.length:Int)∧fr 20=.n x1∧fr 23=.n x2∧Own B h k [eSl eV g d,ZbW Z2 d l2,eMp Z2 a met1]) (fun | (l3,met2),e,fr,k=>e=(.exit 2)∧∃ K N,fr 0=v_cells∧fr 5=K∧fr 6=.mp a∧fr 19=.n (cells.length:Int)∧fr 20=.n x1∧Own B h k [eSl eV K N,ZbW Z2 N l3,eMp Z2 a met2]) ⟨y,C,bf,aq,bg,rfl,ap,X,rfl,(ao.pk [0,1,2])⟩ ?_ ?_)))))
    ·rintro ⟨l2,met1,x2⟩ ck b3 ⟨g,d,D,ab,H,ac,Y,aa,F,P⟩ cf hp
     dsimp only [Za2.s1] at hp
     refine Zi (Zc (zF F rfl) (Ze (ZB (zD hp rfl (fun aF hp=>?_) (fun aF hp=>?_)))))
     ·refine Zas (ZB (Zaa (Zi (Zb _ F (Zb (.n x2) rfl (Zg ?_))))))
      refine Zo (Zi (Zb _ ac (Zb (.n x2) rfl (Zc (Zc4 (cs:=Z2.c (⟨x1,x2⟩:ZF)) (by rw [(zp (v:=.n x1) rfl (zp (v:=.n x2) rfl ZaN))]; rfl)) (zz (P.alloc (cs:=Z2.c (⟨0,0⟩:ZF)) P.fr) ?_)))))
      rintro _ b4 ⟨bu,rfl,cb,bD,aS⟩
      refine zz (aS.stb (cs':=Z2.c (⟨x1,x2⟩:ZF)) 3 rfl rfl rfl rfl ⟨rfl,Nat.le_of_ble_eq_true rfl,rfl⟩ rfl) ?_
      rintro _ bb ⟨rfl,bE,b5,Q⟩
      refine Ze (ZB (Zi (Zc (Zbz (Q.box 3 rfl) rfl rfl) (Zb _ D ?_))))
      obtain ⟨x3,⟨cq,bd,aO,rfl,a8⟩,hp⟩:=bdk hp fun _=>ZbJ.ok (h:=bb)  (Q.rd0 s_cells.rd)
      refine ZaI rfl rfl aO ?_
      have j:=Q.call a8 rfl
      refine Zc (ZcO rfl) (Zb (.b (!x3)) rfl (zK 4 (fun f k=>bd=k∧f 37=.b ((!x3) || (ZfS false (⟨x1,x2⟩:ZF) met1))∧f 0=v_cells∧f 19=.n (cells.length:Int)∧f 20=.n x1∧f 23=.n x2∧f 5=g∧f 6=.mp a∧f 7=.n x1∧f 9=.p bu 0) ?_ ?_))
      ·rcases bc (!x3) with i | i
       ·refine Zh rfl i (Zh rfl i (Zh rfl i (Zc (Zcb (w:=(!x3) || (ZfS false (⟨x1,x2⟩:ZF) met1)) rfl i rfl) (Zg ?_))))
        exact ⟨rfl,rfl,D,Y,aa,F,ab,H,ac,rfl⟩
       ·refine Zp rfl i (Zb _ H (Zp rfl i (Zc (Zbz (j.box 3 rfl) rfl rfl) (Zp rfl i (Zc (ZnZ (E:=Z2) (m:=met1) (q:=(⟨x1,x2⟩:ZF)) (j.mpP 2 rfl) rfl rfl (Mu.Z2.same)) (Zc (Zcc rfl i rfl) (Zg ?_)))))))
        exact ⟨rfl,rfl,D,Y,aa,F,ab,H,ac,rfl⟩
      rintro bL _ ⟨rfl,aQ,af,ah,ai,aj,ak,al,am,aR⟩
      refine Ze (zD hp aQ (fun aG hp=>?_) (fun aG hp=>?_))
      ·refine Zbq (zM (Zav (Zo (zI (ckk hp fun aI hp=>Zc (zc aj rfl aI) (Zb (.n (x2 + 1)) rfl (Zg ?_)))))))
       cases hp
       exact ⟨rfl,g,d,af,ak,al,am,ah,ai,rfl,(j.pk [0,1,2])⟩
      ·refine Zas (Zi (Zb (.sn) rfl (Ze (ZB (ZB ?_)))))
       refine zI (Zc (Zbz (j.box 3 rfl) aR rfl) (zz (j.alloc (cs:=Z2.c (⟨0,0⟩:ZF)) j.fr) ?_))
       rintro _ bN ⟨bv,rfl,cc,bF,aT⟩
       refine zz (aT.stb (cs':=Z2.c (⟨x1,x2⟩:ZF)) 4 rfl rfl rfl rfl ⟨rfl,Nat.le_of_ble_eq_true rfl,rfl⟩ rfl) ?_
       rintro _ bO ⟨rfl,bG,b6,aU⟩
       refine Ze (Zaa ?_)
       have aV:=aU.nil Z2
       refine Zb7 hp (fun | (met3,f,x4),fr,k=>∃ L ae,fr 0=v_cells∧fr 5=g∧fr 6=.mp a∧fr 7=.n x1∧fr 10=L∧fr 11=.p ae 0∧fr 19=.n (cells.length:Int)∧fr 20=.n x1∧fr 23=.n x2∧Own B h k [eSl eV g d,ZbW Z2 d l2,eMp Z2 a met3,eSl Z2 L f,zP ae (Z2.c x4)]) (fun | (met4,f1),e,fr,k=>e=(.exit 4)∧∃ o,fr 0=v_cells∧fr 5=g∧fr 6=.mp a∧fr 7=.n x1∧fr 10=o∧fr 19=.n (cells.length:Int)∧fr 20=.n x1∧fr 23=.n x2∧Own B h k [eSl eV g d,ZbW Z2 d l2,eMp Z2 a met4,eSl Z2 o f1]) ⟨V.sn,bv,af,ak,al,am,rfl,rfl,ah,ai,aj,(aV.pk [0,1,2,5,4])⟩ ?_ ?_
       ·rintro ⟨met3,f,x4⟩ cm bQ ⟨L,ae,ad,ax,J,ay,ar,I,au,av,aw,s⟩ cg hp
        dsimp only [Za2.s2] at hp
        refine ZB (Zi (Zb _ J (Zc (Zbz (s.box 4 rfl) I rfl) (Zc (ZnZ (E:=Z2) (m:=met3) (q:=x4) (s.mpP 2 rfl) rfl rfl (Mu.Z2.same)) (Zc (ZcO rfl) (Ze (zD hp rfl (fun aH hp=>?_) (fun aH hp=>?_))))))))
        ·refine Zas (ZB (Zaa (Zi (Zb _ J (Zc (Zbz (s.box 4 rfl) I rfl) (zz (s.mup (E:=Z2) (m:=met3) (q:=x4) (v:=true) 2 rfl rfl rfl rfl (Mu.Z2.same)) ?_))))))
         rintro _ bR ⟨rfl,bH,b7,S⟩
         refine Ze (zI (Zb _ ar (Zc (Zbz (S.box 4 rfl) I rfl) (zz (S.bsl (E:=Z2) (l:=[x4]) S.fr (by rw [(zp (v:=.ag (Z2.c x4)) rfl ZaN)]; rfl) rfl) ?_))))
         rintro cu bS ⟨cn,bI,T⟩
         refine ckk hp fun aJ hp=>zz (T.app (bytes:=16) 3 T.fr rfl (T.sl 5 rfl) rfl rfl (fun _=>rfl) aJ (by decide)) ?_
         rintro aB bT ⟨bJ,U⟩
         refine Zb aB rfl (Zg (Zaf (Zo (ZB (Zi (Zc (Zbz (U.box 4 rfl) I rfl) (Zg ?_)))))))
         refine Zo (zI (zz (U.alloc (cs:=Z2.c (⟨0,0⟩:ZF)) U.fr) ?_))
         rintro _ bU ⟨bw,rfl,cd,bK,aX⟩
         refine zz (aX.stb (cs':=Z2.c x4) 6 rfl rfl rfl rfl ⟨rfl,Nat.le_of_ble_eq_true rfl,rfl⟩ rfl) ?_
         rintro _ ba ⟨rfl,bz,b8,W⟩
         refine Ze (zI (Zc (Zbz (W.box 6 rfl) rfl rfl) (Zb _ ad ?_)))
         obtain ⟨x5,⟨cr,bV,aP,rfl,a9⟩,hp⟩:=bdk hp fun _=>ZaA.ok (h:=ba)  (W.rd0 s_cells.rd)
         refine ZaI rfl rfl aP ?_
         have aY:=W.call a9 rfl
         refine zz (aY.stb (cs':=Z2.c x5) 6 rfl rfl rfl rfl ⟨rfl,Nat.le_of_ble_eq_true rfl,rfl⟩ rfl) ?_
         rintro _ bX ⟨rfl,bA,b9,aZ⟩
         refine Zg ?_
         cases hp
         exact ⟨rfl,aB,bw,ad,ax,J,ay,rfl,rfl,au,av,aw,(aZ.pk [0,1,2,3,6])⟩
        ·refine Zbq (zM ?_)
         cases hp
         exact ⟨nofun,rfl,L,ad,ax,J,ay,ar,au,av,aw,(s.pk [0,1,2,3])⟩
       rintro ⟨met4,f1⟩ hp _ cl bP ⟨rfl,o,bm,br,bs,bt,bn,bo,bp,bq,R⟩
       refine Zav (Zo (zI (Zb _ br (Zb _ bn (zz (R.bsl (E:=eV) (l:=[o]) R.fr (by rw [(zp (v:=o) rfl ZaN)]; simp only [fill,(R.sl 3 rfl).cells]; simp [over]) rfl) ?_)))))
       rintro ct bY ⟨co,bB,t⟩
       refine ckk hp fun aK hp=>zz (t.appV (bytes:=24) 0 t.fr rfl (t.sl 4 rfl) rfl rfl (by simp only [List.all_cons,List.all_nil,Bool.and_true]; exact (t.sl 3 rfl).oneV) (by rw [(t.allLen 1 rfl:(d).length=(l2).length)]; exact aK) (by decide)) ?_
       rintro aA bZ ⟨bC,a0⟩
       have a1:=a0.absorb 1 3 rfl rfl (by decide)
       refine Zb aA rfl (Zg (Zaf (Zo (zI (ckk hp fun aL hp=>Zc (zc bq rfl aL) (Zb (.n (x2 + 1)) rfl (Zg ?_)))))))
       cases hp
       exact ⟨rfl,aA,d++[o],bm,rfl,bs,bt,bo,bp,rfl,(a1.pk [0,1,2])⟩
     ·refine Zbq (zM ?_)
      cases hp
      exact ⟨nofun,rfl,g,d,D,ab,H,Y,aa,(P.pk [0,1,2])⟩
    rintro ⟨l3,met2⟩ hp _ cj b2 ⟨rfl,K,N,bh,bk,bl,bi,bj,a6⟩
    refine Zav (Zaf (Zo (zI (ckk hp fun aM hp=>Zc (zc bj rfl aM) (Zb (.n (x1 + 1)) rfl (Zg ?_))))))
    cases hp
    exact ⟨rfl,K,N,bh,bk,bl,bi,rfl,(a6.pk [0,1,2])⟩
   ·refine Zbq (zM ?_)
    cases hp
    exact ⟨nofun,rfl,y,C,aq,(ao.pk [0,1])⟩
  rintro l1 hp _ ch b0 ⟨rfl,A,M,be,a3⟩
  refine Zav (Zo (Zi (Zb _ be (Zb A rfl (Zb (.n 0) rfl (Ze ?_))))))
  refine Zar (z4 (zX rfl (zX rfl ZK)) ?_)
  cases hp
  exact ⟨A,M,rfl,(a3.pk [0,1])⟩

theorem ZcE.ok {h:Hp} {d:Int} {e_:Int}   {r:Int} (hp:ZcE d e_=some r) :
  ∃ u k',Is G 222 [.n d,.n e_] h u k'∧V.n r=u∧Own (fun r=>r < h.n) h k' []:=by
 refine WC.is (ZaP Zfw ?_)
 unfold ZcE at hp
 let B:Nat→Prop:=(fun r=>r < h.n)
 have hO:Own B h h []:=Own.start0 h
 refine Zi (Zb (.n 0) rfl (Ze (ZB (Zi (Zb (.n d) rfl ?_)))))
 obtain ⟨x,⟨J,E,o,rfl,A⟩,hp⟩:=bdk hp fun _=>Zbp.ok (h:=h)  
 refine ZaI rfl rfl o ?_
 have g:=hO.call A rfl
 refine Zc (ZcO rfl) (Zb (.b (!x)) rfl ?_)
 obtain ⟨t,D,hp⟩:=ZaH hp
 refine zK 4 (fun f k=>Own B h k []∧f 12=.b t∧f 0=.n d∧f 1=.n e_) ?_ ?_
 ·clear hp; rcases ZaR D with ⟨a,hp⟩ | ⟨a,hp⟩
  ·refine Zh rfl a (Zh rfl a (Zh rfl a (Zc (ZaF (v:=.b t) rfl a (Eq.trans (b:=V.b true) rfl (congrArg V.b (Option.some.inj hp)))) (Zg ?_))))
   exact ⟨g.pk [],rfl,rfl,rfl⟩
  ·refine Zp rfl a (Zb (.n e_) rfl (Zp rfl a ?_))
   obtain ⟨x1,⟨K,H,p,rfl,C⟩,hp⟩:=bdk hp fun _=>Zbp.ok (h:=E)  
   refine ZaI rfl rfl p ?_
   have y:=g.call C rfl
   refine Zp rfl a (Zc (ZcO rfl) (Zc (Za5 (v:=.b t) rfl a (Eq.trans (b:=V.b (!x1)) rfl (congrArg V.b (Option.some.inj hp)))) (Zg ?_)))
   exact ⟨y.pk [],rfl,rfl,rfl⟩
 rintro F I ⟨i,w,q,s⟩
 refine Ze (zD hp w (fun j hp=>?_) (fun j hp=>?_))
 ·refine Zi (Zb (.n 0) rfl (Ze (Zar (zE (z4 (zX rfl ZK) ?_)))))
  cases hp
  exact ⟨rfl,(i.pk [])⟩
 ·refine Zas (Zi (Zc (Zc4 (cs:=Zdk.c (⟨0,1,(-2),(-1)⟩:A4 Int)) (by rw [(zp (v:=.n 0) rfl (zp (v:=.n 1) rfl (zp (v:=.n (-2)) rfl (zp (v:=.n (-1)) rfl ZaN))))]; rfl)) (Zb _ s (Zb _ q (ckk hp fun l hp=>Zc (ZhQ rfl rfl l) ?_)))))
  refine ckk hp fun m hp=>Zc (zc rfl rfl m) (Zc (Zc6 rfl rfl (by decide)) (ckk hp fun e hp=>Zc (ZpC (cs:=Zdk.c (⟨0,1,(-2),(-1)⟩:A4 Int)) (z:=(((e_ - d) + 4).tmod 4)) (v:=.n ((⟨0,1,(-2),(-1)⟩:A4 Int).get (((e_ - d) + 4).tmod 4))) rfl rfl e (ZiI e)) (Zb (.n ((⟨0,1,(-2),(-1)⟩:A4 Int).get (((e_ - d) + 4).tmod 4))) rfl (Ze (Zar ?_)))))
  refine z4 (zX rfl ZK) ?_
  cases hp
  exact ⟨rfl,(i.pk [])⟩

theorem ZbE.ok {h:Hp} {cells:List Za} {f:List ZF} {v_cells:V} {v_f:V} (s_cells:Sl Zd h v_cells cells) (s_f:Sl Z2 h v_f f) {r:(List Int)} (hp:ZbE cells f=some r) :
  ∃ u k',Is G 204 [v_cells,v_f] h u k'∧∃ M,M=u∧Own (fun r=>r < h.n) h k' [eSl zT M r]:=by
 refine WC.is (ZaP ZfX ?_)
 unfold ZbE at hp
 let B:Nat→Prop:=(fun r=>r < h.n)
 have hO:Own B h h []:=Own.start0 h
 refine Zi (Zb (.sn) rfl (Ze (Zi (Zb v_f rfl (Zc (Zae (hO.rd0 s_f.rd) rfl) ?_)))))
 refine ckk hp fun Q hp=>zz (hO.mks (E:=zT) (y:=(0:Int)) (bytes:=8) (z:=(f.length:Int)) hO.fr rfl rfl rfl Q (by decide)) ?_
 rintro a ai ⟨aG,an,J⟩
 refine Zb a rfl (Ze (ZB (Zi (Zb v_cells rfl ?_))))
 obtain ⟨x,⟨aH,av,T,rfl,ag⟩,hp⟩:=bdk hp fun _=>Zam.ok (h:=ai)  (J.rd0 s_cells.rd)
 refine ZaI rfl rfl T ?_
 have s:=J.call ag rfl
 refine Zc (Zc5 rfl rfl) (Ze (zD hp rfl (fun N hp=>?_) (fun N hp=>?_)))
 ·refine Zi (Zb a rfl (Zb a rfl (Ze (Zar (zE (z4 (zX rfl ZK) ?_))))))
  cases hp
  exact ⟨a,rfl,(s.pk [0])⟩
 ·refine Zas (ZB (Zi (Zb v_f rfl (Zc (Zae (s.rd0 s_f.rd) rfl) (Zb (.n 0) rfl (Zg ?_))))))
  refine Zo (Zaa (Zb7 hp (fun | (l,x1),fr,k=>fr 0=v_cells∧fr 5=a∧fr 15=v_f∧fr 16=.n (f.length:Int)∧fr 17=.n x1∧Own B h k [eSl zT a l]) (fun l1 e fr k=>e=(.exit 0)∧fr 5=a∧Own B h k [eSl zT a l1]) ⟨rfl,rfl,rfl,rfl,rfl,(s.pk [0])⟩ ?_ ?_))
  ·rintro ⟨l,x1⟩ aF ax ⟨m,p,C,D,d,b⟩ aD hp
   dsimp only [ZbE.s0] at hp
   refine Zi (Zc (zF d D) (Ze (ZB (zD hp rfl (fun O hp=>?_) (fun O hp=>?_)))))
   ·refine Zas (ZB (Zaa (Zi (Zb _ d (ckk hp fun F hp=>Zc (ZZ (b.rd0 s_f.rd) C d F) ?_)))))
    refine Zc (Zdb (b.rd0 s_f.rd) rfl (Zf F)) (zz (b.alloc (cs:=Z2.c (⟨0,0⟩:ZF)) b.fr) ?_)
    rintro _ ay ⟨am,rfl,aB,ao,ae⟩
    refine Zb (.n x1) rfl (zz (ae.stb (cs':=Z2.c (gi f x1.toNat)) 1 rfl rfl rfl rfl ⟨rfl,Nat.le_of_ble_eq_true rfl,rfl⟩ rfl) ?_)
    rintro _ aj ⟨rfl,ap,az,t⟩
    refine Ze (Zi (Zc (Zbz (t.box 1 rfl) rfl rfl) (Zb _ m ?_)))
    obtain ⟨x2,⟨aI,A,U,rfl,ah⟩,hp⟩:=bdk hp fun _=>ZbJ.ok (h:=aj)  (t.rd0 s_cells.rd)
    refine ZaI rfl rfl U ?_
    have g:=t.call ah rfl
    refine Ze (zD hp rfl (fun P hp=>?_) (fun P hp=>?_))
    ·refine ZeH ?_
     have j:=g.bump 11
     have I:=Fresh.start A 11
     have aC:∀ {i:Nat},h.n≤A.n + i:=Nat.le_trans g.n (Nat.le_add_right _ _)
     refine ZaU _ p (ZaU (.n x1) rfl (ZT (zG (r:=am) (o:=0) rfl rfl) (ZT (ZU (j.box 1 rfl) rfl rfl) (ZT (Zbz (j.box 1 rfl) rfl rfl) (ZaU _ m ?_)))))
     obtain ⟨x3,⟨aJ,ak,W,rfl,w⟩,hp⟩:=bdk hp fun _=>ZaA.ok (h:=(A.bump 11))  (j.rd0 s_cells.rd)
     refine Zi0 rfl rfl W ?_
     have aa:=I.call w
     have af:=j.call w rfl
     refine ZT (ZpB (cs:=Z2.c x3) (v:=.n x3.Dir) rfl rfl) ?_
     obtain ⟨x4,⟨aK,ar,X,rfl,L⟩,hp⟩:=bdk hp fun _=>ZcE.ok (h:=ak)  
     refine Zi0 rfl rfl X ?_
     have ab:=aa.call L
     have K:=af.call L rfl
     refine ckk hp fun H hp=>ZT (ZZ (K.sl 0 rfl) rfl rfl H) (Zd1 (K.ste (y:=x4) 0 rfl rfl (Zf H) rfl rfl ⟨rfl,Nat.le_of_ble_eq_true rfl,rfl⟩ rfl) ?_)
     rintro _ au aL ⟨rfl,Y,aA,ac⟩
     have aq:=ab.kept Y (by decide)
     refine Zcv ?_
     refine And.intro ?_ ?_
     ·intro q hq
      simp only [List.mem_cons,List.not_mem_nil,or_false] at hq
      rcases hq with rfl | rfl
      ·refine z9 ?_ ?_
       ·exact (fun h=>nomatch h)
       ·exact (fun h=>nomatch h)
      ·refine ZjB rfl rfl ?_
       ·exact (fun r hm hc=>hc (w.base r (Nat.lt_of_lt_of_le (g.ltAt 1 rfl _ (tch (ZbN hm) rfl)) (Nat.le_trans (Nat.le_add_right _ _) I.n))))
     refine Zaf (Zo (zI (ckk hp fun R hp=>Zc (zc d rfl R) (Zb (.n (x1 + 1)) rfl (Zg ?_)))))
     cases hp
     exact ⟨rfl,m,p,C,D,rfl,(ac.pk [0])⟩
    ·refine Zc2 (Zaf (Zo (zI (ckk hp fun S hp=>Zc (zc d rfl S) (Zb (.n (x1 + 1)) rfl (Zg ?_))))))
     cases hp
     exact ⟨rfl,m,p,C,D,rfl,(g.pk [0])⟩
   ·refine Zbq (zM ?_)
    cases hp
    exact ⟨nofun,rfl,p,(b.pk [0])⟩
  rintro l1 hp _ aE aw ⟨rfl,al,ad⟩
  refine Zav (Zo (Zi (Zb _ al (Zb a rfl (Ze (Zar ?_))))))
  refine z4 (zX rfl ZK) ?_
  cases hp
  exact ⟨a,rfl,(ad.pk [0])⟩

theorem Zb4.ok {h:Hp} {turns:List Int} {v_turns:V} (s_turns:Sl zT h v_turns turns) {r:Int} (hp:Zb4 turns=some r) :
  ∃ u k',Is G 219 [v_turns] h u k'∧V.n r=u∧Own (fun r=>r < h.n) h k' []:=by
 refine WC.is (ZaP Zfe ?_)
 unfold Zb4 at hp
 let B:Nat→Prop:=(fun r=>r < h.n)
 have hO:Own B h h []:=Own.start0 h
 refine Zi (Zb (.n 0) rfl (Ze (Zi (Zb (.n 0) rfl (Zg ?_)))))
 refine Zo (ZB (Zi (Zb v_turns rfl (Zc (Zae (hO.rd0 s_turns.rd) rfl) (Zb (.n 0) rfl (Ze ?_))))))
 refine Zaa (Zb7 hp (fun | (n,x),fr,k=>fr 3=.n n∧fr 6=v_turns∧fr 7=.n (turns.length:Int)∧fr 8=.n x∧Own B h k []) (fun n1 e fr k=>e=(.exit 0)∧fr 3=.n n1∧Own B h k []) ⟨rfl,rfl,rfl,rfl,(hO.pk [])⟩ ?_ ?_)
 ·rintro ⟨n,x⟩ M F ⟨g,i,j,d,c⟩ K hp
  dsimp only [Zb4.s0] at hp
  refine Zi (Zc (zF d j) (Ze (ZB (zD hp rfl (fun s hp=>?_) (fun s hp=>?_)))))
  ·refine Zas (ZB (Zaa (Zi (ckk hp fun l hp=>Zc (ZZ (c.rd0 s_turns.rd) i d l) (Zc (zN (c.rd0 s_turns.rd) rfl (Zf l) rfl) ?_)))))
   refine Zb (.n (gi turns x.toNat)) rfl (Ze (Zi (Zb (.n (gi turns x.toNat)) rfl (Zc (ZcV rfl rfl) (Zb (.b (decide ((-2)≤(gi turns x.toNat)))) rfl (zK 3 (fun f k=>F=k∧f 17=.b ((decide ((-2)≤(gi turns x.toNat))) && (decide ((gi turns x.toNat)≤1)))∧f 3=.n n∧f 5=.n (gi turns x.toNat)∧f 6=v_turns∧f 7=.n (turns.length:Int)∧f 8=.n x) ?_ ?_))))))
   ·rcases bc (decide ((-2)≤(gi turns x.toNat))) with a | a
    ·refine Zp rfl a (Zb (.n (gi turns x.toNat)) rfl (Zp rfl a (Zc (ZkH rfl rfl) (Zc (ZcN rfl a rfl) (Zg ?_)))))
     exact ⟨rfl,rfl,g,rfl,i,j,d⟩
    ·refine Zh rfl a (Zh rfl a (Zc (ZcM (w:=(decide ((-2)≤(gi turns x.toNat))) && (decide ((gi turns x.toNat)≤1))) rfl a rfl) (Zg ?_)))
     exact ⟨rfl,rfl,g,rfl,i,j,d⟩
   rintro I _ ⟨rfl,C,m,D,o,p,q⟩
   refine Ze (zD hp C (fun t hp=>?_) (fun t hp=>?_))
   ·refine zI (Zb _ m (Zb _ D (ckk hp fun v hp=>Zc (zc rfl rfl v) (Zb (.n (n + (gi turns x.toNat))) rfl (Zg (Zaf (Zo ?_)))))))
    refine zI (ckk hp fun y hp=>Zc (zc q rfl y) (Zb (.n (x + 1)) rfl (Zg ?_)))
    cases hp
    exact ⟨rfl,rfl,o,p,rfl,(c.pk [])⟩
   ·refine Zc2 (Zaf (Zo (zI (ckk hp fun A hp=>Zc (zc q rfl A) (Zb (.n (x + 1)) rfl (Zg ?_))))))
    cases hp
    exact ⟨rfl,m,o,p,rfl,(c.pk [])⟩
  ·refine Zbq (zM ?_)
   cases hp
   exact ⟨nofun,rfl,g,(c.pk [])⟩
 rintro n1 hp _ L J ⟨rfl,H,E⟩
 refine Zav (Zo (Zi (Zb _ H (Zb (.n n1) rfl (Ze (Zar ?_))))))
 refine z4 (zX rfl ZK) ?_
 cases hp
 exact ⟨rfl,(E.pk [])⟩

theorem ZbK.ok {h:Hp} {cells:List Za} {v_cells:V} (s_cells:Sl Zd h v_cells cells) {r:Int × Bool} (hp:ZbK cells=some r) :
  ∃ u k',Is G 201 [v_cells] h u k'∧V.tu [.n r.1,.b r.2]=u∧Own (fun r=>r < h.n) h k' []:=by
 refine WC.is (ZaP ZfP ?_)
 unfold ZbK at hp
 let B:Nat→Prop:=(fun r=>r < h.n)
 have hO:Own B h h []:=Own.start0 h
 refine Zi (Zb (.n 0) rfl (Zb (.b false) rfl (Ze (Zi (Zb v_cells rfl ?_)))))
 obtain ⟨⟨x,x1⟩,⟨X,Q,H,f,c,rfl,K⟩,hp⟩:=bdk hp fun _=>Za2.ok (h:=h)  (hO.rd0 s_cells.rd)
 refine ZaI rfl rfl H ?_
 have j:=hO.call K rfl
 refine Zb (.tu [f,.n x1]) rfl (Zc (Zbr rfl rfl) (Zc (Zbr rfl rfl) (Zb f rfl (Zb (.n x1) rfl (Ze (Zi ?_))))))
 refine Zb (.n (-1)) rfl (Ze (ZB (Zi (Zb f rfl (Zc (Zg4 (n:=(x).length) (j.sl 0 rfl) (j.allLen 1 rfl:(c).length=(x).length) rfl) (Zb (.n 0) rfl ?_))))))
 refine Ze (Zaa (Zb7 hp (fun | (at_,x2),fr,k=>fr 0=v_cells∧fr 6=.n at_∧fr 14=f∧fr 15=.n (x.length:Int)∧fr 16=.n x2∧Own B h k [eSl eV f c,ZbW Z2 c x]) (fun | .inl at_1,e,fr,k=>e=(.exit 0)∧fr 6=.n at_1∧Own B h k [] | .inr _,e,fr,k=>e=.ret∧fr 2=.n 0∧fr 3=.b false∧Own B h k []) ⟨rfl,rfl,rfl,rfl,rfl,(j.pk [0,1])⟩ ?_ ?_))
 ·rintro ⟨at_,x2⟩ W v ⟨m,q,o,p,d,a⟩ T hp
  dsimp only [ZbK.s0] at hp
  refine Zi (Zc (zF d p) (Ze (ZB (zD hp rfl (fun y hp=>?_) (fun y hp=>?_)))))
  ·refine Zas (ZB (Zaa (Zi (Zb _ d (ckk hp fun i hp=>Zc (ZZ (a.sl 0 rfl) o d (by rw [(a.allLen 1 rfl:(c).length=(x).length)]; exact i)) ?_)))))
   refine Zc (zN (a.sl 0 rfl) rfl (by rw [(a.allLen 1 rfl:(c).length=(x).length)]; exact Zf i) rfl) (Zb (.n x2) rfl (Zb ((gi c x2.toNat)) rfl (Ze (Zi (Zb _ m (Zb ((gi c x2.toNat)) rfl ?_))))))
   obtain ⟨x3,⟨Y,N,I,ab,rfl,L⟩,hp⟩:=bdk hp fun _=>ZbE.ok (h:=v)  (a.rd0 s_cells.rd) (a.inn 1 rfl (Zf i):Sl Z2 v (gi c x2.toNat) (gi x x2.toNat))
   refine ZaI rfl rfl I ?_
   have t:=a.call L rfl
   obtain ⟨x4,⟨aa,S,J,rfl,M⟩,hp⟩:=bdk hp fun _=>Zb4.ok (h:=N)  (t.sl 2 rfl)
   refine ZaI rfl rfl J ?_
   have g:=t.call M rfl
   refine Ze (Zaa (Zi (Zc (Zbl rfl rfl) (Zb (.b (decide (x4=4))) rfl (Ze (zD hp rfl (fun A hp=>?_) (fun A hp=>?_)))))))
   ·refine Zc2 (Zaf (Zaf (Zo (zI (ckk hp fun E hp=>Zc (zc d rfl E) (Zb (.n (x2 + 1)) rfl (Zg ?_)))))))
    cases hp
    exact ⟨rfl,m,q,o,p,rfl,(g.pk [0,1])⟩
   ·refine Zi (Zc (Zbl rfl rfl) (Zb (.b (decide (x4=(-4)))) rfl (Ze (zD hp rfl (fun C hp=>?_) (fun C hp=>?_)))))
    ·refine ZB (Zi (Zb _ q (Zc (ZcV rfl rfl) (Ze (zD hp rfl (fun D hp=>?_) (fun D hp=>?_))))))
     ·refine Zi (Zb (.n 0) rfl (Zb (.b false) rfl (Ze (Zar (zE (Zbv ?_))))))
      refine Zbv (zE ?_)
      cases hp
      exact ⟨nofun,rfl,rfl,rfl,(g.pk [])⟩
     ·refine Zas (zI (Zb (.n x2) rfl (Zb (.n x2) rfl (Zg (Zaf (Zaf (Zo ?_)))))))
      refine zI (ckk hp fun F hp=>Zc (zc d rfl F) (Zb (.n (x2 + 1)) rfl (Zg ?_)))
      cases hp
      exact ⟨rfl,m,rfl,o,p,rfl,(g.pk [0,1])⟩
    ·refine Zi (Zb (.n 0) rfl (Zb (.b false) rfl (Ze (Zar (Zbv (Zbv ?_))))))
     refine zE ?_
     cases hp
     exact ⟨nofun,rfl,rfl,rfl,(g.pk [])⟩
  ·refine Zbq (zM ?_)
   cases hp
   exact ⟨nofun,rfl,q,(a.pk [])⟩
 rintro (at_1 | _) hp _ U R s
 ·obtain ⟨rfl,w,l⟩:=s
  refine Zav (Zo (Zi (Zb _ w (Zb _ w (Zc (ZcV rfl rfl) (Zb (.n at_1) rfl (Zb (.b (decide (0≤at_1))) rfl ?_)))))))
  refine Ze (Zar (z4 (zX rfl (zX rfl ZK)) ?_))
  cases hp
  exact ⟨rfl,(l.pk [])⟩
 ·obtain ⟨rfl,O,P,l⟩:=s
  refine Zbv (zE (z4 (zX O (zX P ZK)) ?_))
  cases hp
  exact ⟨rfl,(l.pk [])⟩

theorem ZcS.ok {h:Hp} {cells:List Za} {v_cells:V} (s_cells:Sl Zd h v_cells cells) {r:Int} (hp:ZcS cells=some r) :
  ∃ u k',Is G 176 [v_cells] h u k'∧V.n r=u∧Own (fun r=>r < h.n) h k' []:=by
 refine WC.is (ZaP ZfO ?_)
 unfold ZcS at hp
 let B:Nat→Prop:=(fun r=>r < h.n)
 have hO:Own B h h []:=Own.start0 h
 refine Zi (Zb (.n 0) rfl (Ze (ZB (Zi (Zb v_cells rfl ?_)))))
 obtain ⟨x,⟨D,v,l,rfl,q⟩,hp⟩:=bdk hp fun _=>Zam.ok (h:=h)  (hO.rd0 s_cells.rd)
 refine ZaI rfl rfl l ?_
 have c:=hO.call q rfl
 refine Zb (.n x) rfl (Ze (Zi (Zb (.n x) rfl (Zc (Zc5 rfl rfl) (Ze (zD hp rfl (fun g hp=>?_) (fun g hp=>?_)))))))
 ·refine Zi (Zb (.n x) rfl (Zb (.n x) rfl (Ze (Zar (zE (z4 (zX rfl ZK) ?_))))))
  cases hp
  exact ⟨rfl,(c.pk [])⟩
 ·refine Zas (ZB (Zi (Zb v_cells rfl ?_)))
  obtain ⟨x1,⟨E,y,m,rfl,s⟩,hp⟩:=bdk hp fun _=>ZcZ.ok (h:=v)  (c.rd0 s_cells.rd)
  refine ZaI rfl rfl m ?_
  have d:=c.call s rfl
  refine Zc (ZcO rfl) (Ze (zD hp rfl (fun i hp=>?_) (fun i hp=>?_)))
  ·refine Zi (Zb (.n 13) rfl (Ze (Zar (zE (z4 (zX rfl ZK) ?_)))))
   cases hp
   exact ⟨rfl,(d.pk [])⟩
  ·refine Zas (ZB (Zi (Zb v_cells rfl ?_)))
   obtain ⟨⟨x2,x3⟩,⟨F,A,o,rfl,t⟩,hp⟩:=bdk hp fun _=>ZbK.ok (h:=y)  (d.rd0 s_cells.rd)
   refine ZaI rfl rfl o ?_
   have e:=d.call t rfl
   refine Zb (.tu [.n x2,.b x3]) rfl (Zc (Zbr rfl rfl) (Zc (Zbr rfl rfl) (Zb (.n x2) rfl (Zb (.b x3) rfl (Ze (Zi ?_))))))
   refine Zb (.b x3) rfl (Zc (ZcO rfl) (Zb (.b (!x3)) rfl (zK 4 (fun f k=>A=k∧f 25=.b ((!x3) && (decide (1 < (cells.length:Int))))) ?_ ?_)))
   ·rcases bc (!x3) with a | a
    ·refine Zp rfl a (Zb v_cells rfl (Zp rfl a (Zc (Zae (e.rd0 s_cells.rd) rfl) (Zp rfl a (Zc (Zd2 rfl rfl) (Zc (ZcN rfl a rfl) (Zg ?_)))))))
     exact ⟨rfl,rfl⟩
    ·refine Zh rfl a (Zh rfl a (Zh rfl a (Zc (ZcM (w:=(!x3) && (decide (1 < (cells.length:Int)))) rfl a rfl) (Zg ?_))))
     exact ⟨rfl,rfl⟩
   rintro C _ ⟨rfl,p⟩
   refine Ze (zD hp p (fun j hp=>?_) (fun j hp=>?_))
   ·refine Zi (Zb (.n 10) rfl (Ze (Zar (zE (z4 (zX rfl ZK) ?_)))))
    cases hp
    exact ⟨rfl,(e.pk [])⟩
   ·refine Zas (Zi (Zb (.n 0) rfl (Ze (Zar (z4 (zX rfl ZK) ?_)))))
    cases hp
    exact ⟨rfl,(e.pk [])⟩

theorem Zbs.ok {h:Hp} {s:List Za} {v_s:V} (s_s:Sl Zd h v_s s) {r:List Za} (hp:Zbs s=some r) :
  ∃ u k',Is G 51 [v_s] h u k'∧∃ v,v=u∧Own (fun r=>r < h.n) h k' [eSl Zd v r]:=by
 refine WC.is (ZaP Zdv ?_)
 obtain ⟨c1,hp⟩:=Zje hp
 cases hp
 have hO:Own (fun r=>r < h.n) h h []:=Own.start0 h
 refine Zi (Zb (.sn) rfl (Ze (ZB (Zi (Zb v_s rfl ?_)))))
 rcases Zph s_s with ⟨rfl,rfl⟩ | hn
 ·refine Zc (v:=.b true) rfl (Ze (Zp5 rfl rfl (Zi (Zb (.sn) rfl (Ze ?_)))))
  refine Zar (zE (z4 (zX rfl ZK) ?_))
  exact ⟨.sn,rfl,hO.nil Zd⟩
 ·refine Zc (Zp9 (v:=v_s) hn rfl rfl) (Ze (Zlk rfl rfl (Zas (Zi (zz (hO.bsl (E:=Zd) (l:=[]) hO.fr rfl rfl) ?_)))))
  rintro v1 k1 ⟨r1,f1,hW⟩
  have hO1:Own (fun r=>r < h.n) h k1 [eSl Zd v1 []]:=hW
  refine Zb v_s rfl (zz (hO1.app (bytes:=64) 0 hO1.fr rfl (hO1.rd0 s_s.rd) rfl rfl (fun _=>rfl) (by simpa using c1) (by decide)) ?_)
  rintro v2 k2 ⟨f2,hW⟩
  have hO2:Own (fun r=>r < h.n) h k2 [eSl Zd v2 ([]++s)]:=hW
  refine Zb v2 rfl (Ze (Zar (z4 (zX rfl ZK) ?_)))
  exact ⟨v2,rfl,hO2⟩

theorem Zem.ok {h:Hp} {cells:List Za} {v_cells:V} (s_cells:Sl Zd h v_cells cells) {r:(Option Zbe) × Int} (hp:Zem cells=some r) :
  ∃ u k',Is G 119 [v_cells] h u k'∧∃ d f,V.tu [(if (r.1).isSome=true then V.p d 0 else V.pn),.n r.2]=u∧Own (fun r=>r < h.n) h k' [eIf (r.1).isSome (zP d [f]),eIf (r.1).isSome (eSl Zd f ((r.1.getD default).cells))]:=by
 refine WC.is (ZaP Zhw ?_)
 unfold Zem at hp
 let B:Nat→Prop:=(fun r=>r < h.n)
 have hO:Own B h h []:=Own.start0 h
 refine Zi (Zb (.pn) rfl (Zb (.n 0) rfl (Ze (ZB (Zi ?_)))))
 refine Zb v_cells rfl ?_
 obtain ⟨x,⟨y,o,i,rfl,l⟩,hp⟩:=bdk hp fun _=>Zam.ok (h:=h)  (hO.rd0 s_cells.rd)
 refine ZaI rfl rfl i ?_
 have b:=hO.call l rfl
 refine Zb (.n x) rfl (Ze (Zi (Zb (.n x) rfl (Zc (Zc5 rfl rfl) (Ze (zD hp rfl (fun g hp=>?_) (fun g hp=>?_)))))))
 ·refine Zi (Zb (.n x) rfl (Zb (.pn) rfl (Zb (.n x) rfl (Ze (Zar (zE ?_))))))
  refine z4 (zX rfl (zX rfl ZK)) ?_
  cases hp
  exact ⟨0,V.sn,rfl,(b.pk [900,901])⟩
 ·refine Zas (Zi (Zb v_cells rfl ?_))
  obtain ⟨x1,⟨A,s,j,a,rfl,m⟩,hp⟩:=bdk hp fun _=>Zbs.ok (h:=o)  (b.rd0 s_cells.rd)
  refine ZaI rfl rfl j ?_
  have c:=b.call m rfl
  refine Zc (Zc4 (cs:=[a]) (by rw [(zp (v:=a) rfl ZaN)]; simp [fill,over,Zja,ZiY,ZiZ,Zjc,ZiX,Zjb,(c.sl 0 rfl).cells])) (zz (c.boxd (cs:=[a]) c.fr rfl rfl) ?_)
  rintro _ t ⟨e,rfl,w,q,k⟩
  refine Zb (.p e 0) rfl (Zb (.n 0) rfl (Ze (Zar (z4 (zX rfl (zX rfl ZK)) ?_))))
  cases hp
  exact ⟨e,a,rfl,(k.pk [1,0])⟩

theorem ZbO.ok {h:Hp} {g:Zbe} {r_g:Nat} {v_g_cells:V} {w_g:Bool} (b_g:h.m r_g=some (.cells w_g [v_g_cells])) (s_g_cells:Sl Zd h v_g_cells g.cells) {r:(List Za)} (hp:ZbO g=some r) :
  ∃ u k',Is G 57 [.p r_g 0] h u k'∧∃ a,a=u∧Own (fun r=>r < h.n) h k' [eSl Zd a r]:=by
 refine WC.is (ZaP ZeB ?_)
 unfold ZbO at hp
 let B:Nat→Prop:=(fun r=>r < h.n)
 have hO:Own B h h []:=Own.start0 h
 refine Zi (Zb (.sn) rfl (Ze (ZB (Zi (Zb (.p r_g 0) rfl ?_)))))
 refine Zc (ZlE rfl rfl) (Ze (Zlk rfl rfl (Zas (Zi (Zb (.p r_g 0) rfl ?_)))))
 refine Zc (Zge rfl) (Zc (zG (r:=r_g) (o:=0) rfl rfl) (Zc (ZU (hO.rdB0 (RdB.of b_g)).choose_spec rfl rfl) ?_))
 obtain ⟨x,⟨i,f,c,b,rfl,e⟩,hp⟩:=bdk hp fun _=>Zbs.ok (h:=h)  (hO.rd0 s_g_cells.rd)
 refine ZaI rfl rfl c ?_
 have d:=hO.call e rfl
 refine Zb b rfl (Ze (Zar (z4 (zX rfl ZK) ?_)))
 cases hp
 exact ⟨b,rfl,(d.pk [0])⟩

theorem ZaL.ok {h:Hp} {s:List Int} {f:Int→Option Bool} {v_s:V} {id_f:Nat} {cap_f:List V} (s_s:Sl zT h v_s s) (f_f:∀ (k:Hp) (x0:Int) (y:Bool),Ex' (fun r=>r < h.n) h k→f x0=some y→∃ u k',Is G id_f (.n x0 :: cap_f) k u k'∧V.b y=u∧Own (fun r=>r < k.n) k k' []) {r:Int} (hp:ZaL s f=some r) :
  ∃ u k',Is G 91 [v_s,.f id_f cap_f] h u k'∧V.n r=u∧Own (fun r=>r < h.n) h k' []:=by
 refine WC.is (ZaP Zd0 ?_)
 unfold ZaL at hp
 let B:Nat→Prop:=(fun r=>r < h.n)
 have hO:Own B h h []:=Own.start0 h
 refine Zi (Zb (.n 0) rfl (Ze (ZB (Zi (Zb v_s rfl ?_)))))
 refine Zc (Zae (hO.rd0 s_s.rd) rfl) (Zb (.n 0) rfl (Ze (Zaa (Zb7 hp (fun x fr k=>fr 0=v_s∧fr 1=.f id_f cap_f∧fr 7=.n (s.length:Int)∧fr 8=.n x∧Own B h k []) (fun | .inl _,e,fr,k=>e=(.exit 0)∧Own B h k [] | .inr x1,e,fr,k=>e=.ret∧fr 4=.n x1∧Own B h k []) ⟨rfl,rfl,rfl,rfl,(hO.pk [])⟩ ?_ ?_))))
 ·rintro x J E ⟨l,m,o,d,a⟩ H hp
  dsimp only [ZaL.s0] at hp
  refine Zi (Zc (zF d o) (Ze (ZB (zD hp rfl (fun p hp=>?_) (fun p hp=>?_)))))
  ·refine Zas (ZB (Zaa (Zi (Zb _ d (Zb (.n x) rfl (Zg ?_))))))
   refine Zo (Zi (Zb _ m (Zb _ l (Zb (.n x) rfl (ckk hp fun g hp=>Zc (ZZ (a.rd0 s_s.rd) rfl rfl g) (Zc (zN (a.rd0 s_s.rd) rfl (Zf g) rfl) ?_))))))
   obtain ⟨x2,A,hp⟩:=ZaH hp
   obtain ⟨K,F,v,rfl,w⟩:=f_f _ _ _ a.ext A
   refine ZaI rfl rfl v ?_
   have j:=a.call w rfl
   refine Ze (zD hp rfl (fun q hp=>?_) (fun q hp=>?_))
   ·refine Zi (Zb (.n x) rfl (Zb (.n x) rfl (Ze (Zar (Zbv (zE ?_))))))
    cases hp
    exact ⟨nofun,rfl,rfl,(j.pk [])⟩
   ·refine Zc2 (Zaf (Zo (zI (ckk hp fun t hp=>Zc (zc d rfl t) (Zb (.n (x + 1)) rfl (Zg ?_))))))
    cases hp
    exact ⟨rfl,l,m,o,rfl,(j.pk [])⟩
  ·refine Zbq (zM ?_)
   cases hp
   exact ⟨nofun,rfl,(a.pk [])⟩
 rintro (_ | x1) hp _ I D i
 ·obtain ⟨rfl,c⟩:=i
  refine Zav (Zo (Zi (Zb (.n (-1)) rfl (Ze (Zar (z4 (zX rfl ZK) ?_))))))
  cases hp
  exact ⟨rfl,(c.pk [])⟩
 ·obtain ⟨rfl,C,c⟩:=i
  refine Zbv (zE (z4 (zX C ZK) ?_))
  cases hp
  exact ⟨rfl,(c.pk [])⟩

theorem ZbC.ok {h:Hp} {s:List Int} {f:Int→Option Bool} {v_s:V} {id_f:Nat} {cap_f:List V} (s_s:Sl zT h v_s s) (f_f:∀ (k:Hp) (x0:Int) (y:Bool),Ex' (fun r=>r < h.n) h k→f x0=some y→∃ u k',Is G id_f (.n x0 :: cap_f) k u k'∧V.b y=u∧Own (fun r=>r < k.n) k k' []) {r:Bool} (hp:ZbC s f=some r) :
  ∃ u k',Is G 78 [v_s,.f id_f cap_f] h u k'∧V.b r=u∧Own (fun r=>r < h.n) h k' []:=by
 refine WC.is (ZaP Zdf ?_)
 unfold ZbC at hp
 let B:Nat→Prop:=(fun r=>r < h.n)
 have hO:Own B h h []:=Own.start0 h
 refine Zi (Zb (.b false) rfl (Ze (Zi (Zb v_s rfl (Zb (.f id_f cap_f) rfl ?_)))))
 obtain ⟨x,⟨g,e,a,rfl,d⟩,hp⟩:=bdk hp fun _=>ZaL.ok (h:=h)  (hO.rd0 s_s.rd) (fun k z0 y hk hx=>f_f k z0 y (Zq1 hO hk) hx)
 refine ZaI rfl rfl a ?_
 have c:=hO.call d rfl
 refine Zc (ZcV rfl rfl) (Zb (.b (decide (0≤x))) rfl (Ze (Zar (z4 (zX rfl ZK) ?_))))
 cases hp
 exact ⟨rfl,(c.pk [])⟩

theorem ZcK.ok {h:Hp} {t:Int}   {r:Bool} (hp:ZcK t=some r) :
  ∃ u k',Is G 80 [.n t] h u k'∧V.b r=u∧Own (fun r=>r < h.n) h k' []:=by
 refine WC.is (ZaP Zfi ?_)
 unfold ZcK at hp
 let B:Nat→Prop:=(fun r=>r < h.n)
 have hO:Own B h h []:=Own.start0 h
 refine Zi (Zb (.b false) rfl (Ze (Zi (Zb (.n t) rfl (Zc (zF rfl rfl) ?_)))))
 refine Zb (.b (decide (t < (-2)))) rfl (zK 3 (fun f k=>h=k∧f 8=.b ((decide (t < (-2))) || (decide (1 < t)))) ?_ ?_)
 ·rcases bc (decide (t < (-2))) with a | a
  ·refine Zh rfl a (Zh rfl a (Zc (Zcb (w:=(decide (t < (-2))) || (decide (1 < t))) rfl a rfl) (Zg ?_)))
   exact ⟨rfl,rfl⟩
  ·refine Zp rfl a (Zb (.n t) rfl (Zp rfl a (Zc (Zd2 rfl rfl) (Zc (Zcc rfl a rfl) (Zg ?_)))))
   exact ⟨rfl,rfl⟩
 rintro d _ ⟨rfl,c⟩
 refine Zb _ c (Ze (Zar (z4 (zX rfl ZK) ?_)))
 cases hp
 exact ⟨rfl,(hO.pk [])⟩

theorem ZcR.ok {h:Hp} {turns:List Int} {v_turns:V} (s_turns:Sl zT h v_turns turns) {r:Bool} (hp:ZcR turns=some r) :
  ∃ u k',Is G 59 [v_turns] h u k'∧V.b r=u∧Own (fun r=>r < h.n) h k' []:=by
 refine WC.is (ZaP ZfN ?_)
 unfold ZcR at hp
 let B:Nat→Prop:=(fun r=>r < h.n)
 have hO:Own B h h []:=Own.start0 h
 refine Zi (Zb (.b false) rfl (Ze (Zi (Zb v_turns rfl ?_))))
 obtain ⟨x,⟨f,e,a,rfl,d⟩,hp⟩:=bdk hp fun _=>ZbC.ok (h:=h)  (hO.rd0 s_turns.rd) (fun k z0 y hk hx=>ZcK.ok (h:=k)  hx)
 refine ZaI rfl rfl a ?_
 have c:=hO.call d rfl
 refine Zc (ZcO rfl) (Zb (.b (!x)) rfl (Ze (Zar (z4 (zX rfl ZK) ?_))))
 cases hp
 exact ⟨rfl,(c.pk [])⟩

end Mu
