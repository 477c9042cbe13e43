/- The code comes to what was worked out. -/
import Derived.Test.YtfdidkebomeiaaaMuDf
import Derived.Test.YtfdidkebomeiaaaMuPa
import Derived.Test.YtfdidkebomeiaaaMuC1
set_option linter.unusedVariables false
set_option linter.unnecessarySimpa false
set_option linter.unusedSimpArgs false
set_option maxHeartbeats 2000000
set_option maxRecDepth 10000
namespace Mu
open Go (IntKind BinOp UnOp)
theorem Zbx.ok {h:Hp}    {r:(List Za)} (hp:Zbx =some r) :
  ∃ u k',Is G 213 [] h u k'∧∃ y,y=u∧Own (fun r=>r < h.n) h k' [eSl Zd y r]:=by
 refine WC.is (ZaP Zeh ?_)
 unfold Zbx at hp
 let B:Nat→Prop:=(fun r=>r < h.n)
 have hO:Own B h h []:=Own.start0 h
 refine Zk (Zb (.sn) rfl (Ze (Zk ?_)))
 obtain ⟨x,⟨X,P,F,A,rfl,K⟩,hp⟩:=bdk hp fun _=>zh.ok (h:=h)  
 refine ZaK rfl rfl F ?_
 have m:=hO.call K rfl
 refine Zb A rfl (Ze (ZB (Zk (zw (m.bsl (E:=zM) (l:=([0,1,0,1,2,1,2,3,2,3,0,3]:List Int)) m.fr (by rw [(zo (v:=.n 0) rfl (zo (v:=.n 1) rfl (zo (v:=.n 0) rfl (zo (v:=.n 1) rfl (zo (v:=.n 2) rfl (zo (v:=.n 1) rfl (zo (v:=.n 2) rfl (zo (v:=.n 3) rfl (zo (v:=.n 2) rfl (zo (v:=.n 3) rfl (zo (v:=.n 0) rfl (zo (v:=.n 3) rfl ZaH))))))))))))]; rfl) rfl) ?_))))
 rintro C Q ⟨W,O,p⟩
 refine Zc (Zak (p.sl 1 rfl) rfl) (Zb (.n 0) rfl (Ze (zX (Zb7 hp (fun | (l,x1),fr,k=>∃ f,fr 1=f∧fr 5=C∧fr 6=.n (([0,1,0,1,2,1,2,3,2,3,0,3]:List Int).length:Int)∧fr 7=.n x1∧Own B h k [eSl Zd f l,eSl zM C ([0,1,0,1,2,1,2,3,2,3,0,3]:List Int)]) (fun l1 e fr k=>e=(.exit 0)∧∃ b,fr 1=b∧Own B h k [eSl Zd b l1]) ⟨A,rfl,rfl,rfl,rfl,(p.pk [0,1])⟩ ?_ ?_))))
 ·rintro ⟨l,x1⟩ V M ⟨f,q,s,t,c,a⟩ T hp
  dsimp only [Zbx.s0] at hp
  refine Zk (Zc (zH c t) (Ze (ZB (zC hp rfl (fun D hp=>?_) (fun D hp=>?_)))))
  ·refine Zat (ZB (zX (Zk (Zb _ c (ckk hp fun i hp=>Zc (zi (a.sl 1 rfl) s c i) ?_)))))
   refine Zc (zS (a.sl 1 rfl) rfl (Zg i) rfl) (Zb (.n x1) rfl (Zb (.n (gi ([0,1,0,1,2,1,2,3,2,3,0,3]:List Int) x1.toNat)) rfl (Ze (zD (Zb _ q (Zb (.n x1) rfl (Zb (.n (gi ([0,1,0,1,2,1,2,3,2,3,0,3]:List Int) x1.toNat)) rfl ?_)))))))
   refine Zb (.n x1) rfl (ckk hp fun j hp=>Zc (zf rfl rfl j) (Zc (ZcL rfl rfl (by decide)) ?_))
   obtain ⟨⟨x2,x3⟩,⟨Y,S,H,g,rfl,L⟩,hp⟩:=bdk hp fun _=>Zap.ok (h:=M) (l:=l) (v:=x1) (d:=(gi ([0,1,0,1,2,1,2,3,2,3,0,3]:List Int) x1.toNat)) (w:=((x1 + 1).tmod 12)) (o:=0) (a.toM [0] rfl (by decide)) 
   refine ZaK rfl rfl H ?_
   have J:=(a.callM [0] [1] rfl rfl (by decide) L rfl).pick [900,0,1] rfl (by decide)
   refine Zb (.tu [g,.n x3]) rfl (Zc (ZbF rfl rfl) (Zc (ZbF rfl rfl) (Zb g rfl (Zh (Zaa (Zo (zD (Zc (zf c rfl j) ?_))))))))
   refine Zb (.n (x1 + 1)) rfl (Zh ?_)
   cases hp
   exact ⟨rfl,g,rfl,s,t,rfl,(J.pk [2,1])⟩
  ·refine Zbo (zK ?_)
   cases hp
   exact ⟨nofun,rfl,f,q,(a.pk [0])⟩
 rintro l1 hp _ U R ⟨rfl,b,N,I⟩
 refine Zaw (Zo (Zk (Zb _ N (Zb b rfl (Ze (Zav ?_))))))
 refine z8 (Zag rfl ZQ) ?_
 cases hp
 exact ⟨b,rfl,(I.pk [0])⟩

theorem Zbi.ok {h:Hp} {d:Int}   {r:Bool} (hp:Zbi d=some r) :
  ∃ u k',Is G 90 [.n d] h u k'∧V.b r=u∧Own (fun r=>r < h.n) h k' []:=by
 refine WC.is (ZaP Zfk ?_)
 unfold Zbi at hp
 let B:Nat→Prop:=(fun r=>r < h.n)
 have hO:Own B h h []:=Own.start0 h
 refine Zk (Zb (.b false) rfl (Ze (Zk (Zb (.n d) rfl (Zc (ZcZ rfl rfl) ?_)))))
 refine Zb (.b (decide (0≤d))) rfl (Zai 3 (fun f k=>h=k∧f 8=.b ((decide (0≤d)) && (decide (d≤3)))) ?_ ?_)
 ·rcases bc (decide (0≤d)) with a | a
  ·refine Zu rfl a (Zb (.n d) rfl (Zu rfl a (Zc (Zk0 rfl rfl) (Zc (ZcY rfl a rfl) (Zh ?_)))))
   exact ⟨rfl,rfl⟩
  ·refine Zl rfl a (Zl rfl a (Zc (ZcX (w:=(decide (0≤d)) && (decide (d≤3))) rfl a rfl) (Zh ?_)))
   exact ⟨rfl,rfl⟩
 rintro e _ ⟨rfl,c⟩
 refine Zb _ c (Ze (Zav (z8 (Zag rfl ZQ) ?_)))
 cases hp
 exact ⟨rfl,(hO.pk [])⟩

theorem Za2.ok {h:Hp} {d:Int} {times:Int}   {r:Int} (hp:Za2 d times=some r) :
  ∃ u k',Is G 77 [.n d,.n times] h u k'∧V.n r=u∧Own (fun r=>r < h.n) h k' []:=by
 refine WC.is (ZaP Zfl ?_)
 unfold Za2 at hp
 let B:Nat→Prop:=(fun r=>r < h.n)
 have hO:Own B h h []:=Own.start0 h
 refine Zk (Zb (.n 0) rfl (Ze (ZB (Zk (Zb (.n d) rfl ?_)))))
 obtain ⟨x,⟨j,i,f,rfl,g⟩,hp⟩:=bdk hp fun _=>Zbi.ok (h:=h)  
 refine ZaK rfl rfl f ?_
 have a:=hO.call g rfl
 refine Zc (ZcR rfl) (Ze (zC hp rfl (fun b hp=>?_) (fun b hp=>?_)))
 ·refine Zk (Zb (.n 0) rfl (Ze (Zav (zE (z8 (Zag rfl ZQ) ?_)))))
  cases hp
  exact ⟨rfl,(a.pk [])⟩
 ·refine Zat (Zk (Zb (.n d) rfl (Zb (.n times) rfl (Zc (ZcL rfl rfl (by decide)) (ckk hp fun c hp=>Zc (zf rfl rfl c) ?_)))))
  refine ckk hp fun e hp=>Zc (zf rfl rfl e) (Zc (ZcL rfl rfl (by decide)) (Zb (.n (((d + (times.tmod 4)) + 4).tmod 4)) rfl (Ze (Zav (z8 (Zag rfl ZQ) ?_)))))
  cases hp
  exact ⟨rfl,(a.pk [])⟩

theorem Zdh.ok {h:Hp} {cells:List Za} {v:Int} {d:Int} {v_cells:V} (s_cells:Sl Zd h v_cells cells) {r:Int} (hp:Zdh cells v d=some r) :
  ∃ u k',Is G 82 [v_cells,.n v,.n d] h u k'∧V.n r=u∧Own (fun r=>r < h.n) h k' []:=by
 refine WC.is (ZaP Zgi ?_)
 unfold Zdh at hp
 let B:Nat→Prop:=(fun r=>r < h.n)
 have hO:Own B h h []:=Own.start0 h
 refine Zk (Zb (.n 0) rfl (Ze (ZB (Zhw ?_))))
 have c:=hO.bump 16
 refine ZaV v_cells rfl (ZaV (.n v) rfl (ZaV (.n d) rfl (ckk hp fun j hp=>zt rfl (zi (c.rd0 s_cells.rd) rfl rfl j) (zt rfl (Zbt (c.rd0 s_cells.rd) (Zg j) rfl rfl) (ckk hp fun o hp=>zt rfl (Zbj (c.rd0 s_cells.rd) (Zg j) rfl rfl o rfl) (zt rfl (zS (c.rd0 s_cells.rd) rfl (Zg j) (zI o)) ?_))))))
 refine ZaV v_cells rfl (ZaV (.n v) rfl (ZaV (.n d) rfl (zt rfl (zi (c.rd0 s_cells.rd) rfl rfl j) (zt rfl (Zbt (c.rd0 s_cells.rd) (Zg j) rfl rfl) (zt rfl (Zbj (c.rd0 s_cells.rd) (Zg j) rfl rfl o rfl) (zt rfl (zS (c.rd0 s_cells.rd) rfl (Zg j) (Zcm o)) (ZaV (.n (((gi cells v.toNat).Next).get d)) rfl (ZaV (.n (((gi cells v.toNat).Owner).get d)) rfl ?_))))))))
 refine Zba (Zo (ZB (Zk (Zb (.n (((gi cells v.toNat).Next).get d)) rfl (Zc (Zb0 rfl rfl) (Ze (zC hp rfl (fun H hp=>?_) (fun H hp=>?_))))))))
 ·refine ZB (Zk (Zb (.n (((gi cells v.toNat).Owner).get d)) rfl (Zc (Zc2 rfl rfl) (Ze (zC hp rfl (fun I hp=>?_) (fun I hp=>?_))))))
  ·refine Zk (Zb (.n 9) rfl (Ze (Zav (zE (zE (z8 (Zag rfl ZQ) ?_))))))
   cases hp
   exact ⟨rfl,(c.pk [])⟩
  ·refine Zat (Zk (Zb (.n 0) rfl (Ze (Zav (zE ?_)))))
   refine z8 (Zag rfl ZQ) ?_
   cases hp
   exact ⟨rfl,(c.pk [])⟩
 ·refine Zat (ZB (Zk (Zb (.n (((gi cells v.toNat).Next).get d)) rfl (Zc (zH rfl rfl) (Zb (.b (decide ((((gi cells v.toNat).Next).get d) < 0))) rfl (Zai 5 (fun f k=>(h.bump 16)=k∧f 35=.b ((decide ((((gi cells v.toNat).Next).get d) < 0)) || (decide ((cells.length:Int)≤(((gi cells v.toNat).Next).get d))))∧f 0=v_cells∧f 1=.n v∧f 2=.n d∧f 7=.n (((gi cells v.toNat).Next).get d)∧f 8=.n (((gi cells v.toNat).Owner).get d)) ?_ ?_))))))
  ·rcases bc (decide ((((gi cells v.toNat).Next).get d) < 0)) with e | e
   ·refine Zl rfl e (Zl rfl e (Zl rfl e (Zl rfl e (Zc (Zcs (w:=(decide ((((gi cells v.toNat).Next).get d) < 0)) || (decide ((cells.length:Int)≤(((gi cells v.toNat).Next).get d)))) rfl e rfl) (Zh ?_)))))
    exact ⟨rfl,rfl,rfl,rfl,rfl,rfl,rfl⟩
   ·refine Zu rfl e (Zb (.n (((gi cells v.toNat).Next).get d)) rfl (Zu rfl e (Zb v_cells rfl (Zu rfl e (Zc (Zak (c.rd0 s_cells.rd) rfl) (Zu rfl e (Zc (ZcZ rfl rfl) (Zc (Zct rfl e rfl) ?_))))))))
    refine Zh ?_
    exact ⟨rfl,rfl,rfl,rfl,rfl,rfl,rfl⟩
  rintro U _ ⟨rfl,M,y,q,A,s,C⟩
  refine Zb _ M (Zai 4 (fun f k=>(h.bump 16)=k∧f 40=.b (((decide ((((gi cells v.toNat).Next).get d) < 0)) || (decide ((cells.length:Int)≤(((gi cells v.toNat).Next).get d)))) || (decide (((gi cells v.toNat).Next).get d=v)))∧f 0=v_cells∧f 1=.n v∧f 2=.n d∧f 7=.n (((gi cells v.toNat).Next).get d)∧f 8=.n (((gi cells v.toNat).Owner).get d)) ?_ ?_)
  ·rcases bc ((decide ((((gi cells v.toNat).Next).get d) < 0)) || (decide ((cells.length:Int)≤(((gi cells v.toNat).Next).get d)))) with i | i
   ·refine Zl rfl i (Zl rfl i (Zl rfl i (Zc (Zcs (w:=((decide ((((gi cells v.toNat).Next).get d) < 0)) || (decide ((cells.length:Int)≤(((gi cells v.toNat).Next).get d)))) || (decide (((gi cells v.toNat).Next).get d=v))) rfl i rfl) (Zh ?_))))
    exact ⟨rfl,rfl,y,q,A,s,C⟩
   ·refine Zu rfl i (Zb _ s (Zu rfl i (Zb _ q (Zu rfl i (Zc (Zb0 rfl rfl) (Zc (Zct rfl i rfl) (Zh ?_)))))))
    exact ⟨rfl,rfl,y,q,A,s,C⟩
  rintro W _ ⟨rfl,P,D,N,O,E,t⟩
  refine Ze (zC hp P (fun J hp=>?_) (fun J hp=>?_))
  ·refine Zk (Zb (.n 3) rfl (Ze (Zav (zE (z8 (Zag rfl ZQ) ?_)))))
   cases hp
   exact ⟨rfl,(c.pk [])⟩
  ·refine Zat (Zk (Zb _ O ?_))
   obtain ⟨x,⟨aa,F,L,rfl,T⟩,hp⟩:=bdk hp fun _=>Za2.ok (h:=(h.bump 16))  
   refine ZaK rfl rfl L ?_
   have g:=c.call T rfl
   refine Zb (.n x) rfl (Ze (ZB (Zk (Zb _ D (Zb _ E (Zb (.n x) rfl ?_))))))
   refine ckk hp fun l hp=>Zc (zi (g.rd0 s_cells.rd) rfl rfl l) (Zc (Zbt (g.rd0 s_cells.rd) (Zg l) rfl rfl) (ckk hp fun p hp=>Zc (Zbj (g.rd0 s_cells.rd) (Zg l) rfl rfl p rfl) (Zc (zS (g.rd0 s_cells.rd) rfl (Zg l) (zI p)) (Zb _ N (Zc (Zc2 rfl rfl) (Zb (.b (!(decide (((gi cells (((gi cells v.toNat).Next).get d:Int).toNat).Next).get x=v)))) rfl (Zai 10 (fun f k=>F=k∧f 62=.b ((!(decide (((gi cells (((gi cells v.toNat).Next).get d:Int).toNat).Next).get x=v))) || (!(decide (((gi cells (((gi cells v.toNat).Next).get d:Int).toNat).Owner).get x=((gi cells v.toNat).Owner).get d))))∧f 8=.n (((gi cells v.toNat).Owner).get d)) ?_ ?_)))))))
   ·rcases bc (!(decide (((gi cells (((gi cells v.toNat).Next).get d:Int).toNat).Next).get x=v))) with a | a
    ·refine Zl rfl a (Zl rfl a (Zl rfl a (Zl rfl a (Zl rfl a (Zl rfl a (Zl rfl a (Zl rfl a (Zl rfl a ?_))))))))
     refine Zc (Zcs (w:=(!(decide (((gi cells (((gi cells v.toNat).Next).get d:Int).toNat).Next).get x=v))) || (!(decide (((gi cells (((gi cells v.toNat).Next).get d:Int).toNat).Owner).get x=((gi cells v.toNat).Owner).get d)))) rfl a rfl) (Zh ?_)
     exact ⟨rfl,rfl,t⟩
    ·refine Zu rfl a (Zb _ D (Zu rfl a (Zb _ E (Zu rfl a (Zb (.n x) rfl (Zu rfl a (Zc (zi (g.rd0 s_cells.rd) rfl rfl l) (Zu rfl a ?_))))))))
     refine Zc (Zbt (g.rd0 s_cells.rd) (Zg l) rfl rfl) (Zu rfl a (Zc (Zbj (g.rd0 s_cells.rd) (Zg l) rfl rfl p rfl) (Zu rfl a (Zc (zS (g.rd0 s_cells.rd) rfl (Zg l) (Zcm p)) (Zu rfl a (Zb _ t (Zu rfl a (Zc (Zc2 rfl rfl) ?_))))))))
     refine Zc (Zct rfl a rfl) (Zh ?_)
     exact ⟨rfl,rfl,t⟩
   rintro X _ ⟨rfl,Q,R⟩
   refine Zb _ Q (Zai 3 (fun f k=>F=k∧f 66=.b (((!(decide (((gi cells (((gi cells v.toNat).Next).get d:Int).toNat).Next).get x=v))) || (!(decide (((gi cells (((gi cells v.toNat).Next).get d:Int).toNat).Owner).get x=((gi cells v.toNat).Owner).get d)))) || (decide ((((gi cells v.toNat).Owner).get d) < (-2))))) ?_ ?_)
   ·rcases bc ((!(decide (((gi cells (((gi cells v.toNat).Next).get d:Int).toNat).Next).get x=v))) || (!(decide (((gi cells (((gi cells v.toNat).Next).get d:Int).toNat).Owner).get x=((gi cells v.toNat).Owner).get d)))) with m | m
    ·refine Zl rfl m (Zl rfl m (Zc (Zcs (w:=((!(decide (((gi cells (((gi cells v.toNat).Next).get d:Int).toNat).Next).get x=v))) || (!(decide (((gi cells (((gi cells v.toNat).Next).get d:Int).toNat).Owner).get x=((gi cells v.toNat).Owner).get d)))) || (decide ((((gi cells v.toNat).Owner).get d) < (-2)))) rfl m rfl) (Zh ?_)))
     exact ⟨rfl,rfl⟩
    ·refine Zu rfl m (Zb _ R (Zu rfl m (Zc (zH rfl rfl) (Zc (Zct rfl m rfl) (Zh ?_)))))
     exact ⟨rfl,rfl⟩
   rintro Y _ ⟨rfl,S⟩
   refine Ze (zC hp S (fun K hp=>?_) (fun K hp=>?_))
   ·refine Zk (Zb (.n 9) rfl (Ze (Zav (zE (z8 (Zag rfl ZQ) ?_)))))
    cases hp
    exact ⟨rfl,(g.pk [])⟩
   ·refine Zat (Zk (Zb (.n 0) rfl (Ze (Zav (z8 (Zag rfl ZQ) ?_)))))
    cases hp
    exact ⟨rfl,(g.pk [])⟩

theorem Zah.ok {h:Hp} {cells:List Za} {v_cells:V} (s_cells:Sl Zd h v_cells cells) {r:Int} (hp:Zah cells=some r) :
  ∃ u k',Is G 66 [v_cells] h u k'∧V.n r=u∧Own (fun r=>r < h.n) h k' []:=by
 refine WC.is (ZaP ZfL ?_)
 unfold Zah at hp
 let B:Nat→Prop:=(fun r=>r < h.n)
 have hO:Own B h h []:=Own.start0 h
 refine Zk (Zb (.n 0) rfl (Ze (ZB (Zk (Zb v_cells rfl ?_)))))
 refine Zc (Zak (hO.rd0 s_cells.rd) rfl) (Zc (ZdC rfl rfl) (Ze (zC hp rfl (fun t hp=>?_) (fun t hp=>?_))))
 ·refine Zk (Zb (.n 6) rfl (Ze (Zav (zE (z8 (Zag rfl ZQ) ?_)))))
  cases hp
  exact ⟨rfl,(hO.pk [])⟩
 ·refine Zat (ZB (Zk (Zb v_cells rfl (Zc (Zak (hO.rd0 s_cells.rd) rfl) (Zb (.n 0) rfl (Zh ?_))))))
  refine Zo (zX (Zb7 hp (fun x fr k=>fr 0=v_cells∧fr 10=.n (cells.length:Int)∧fr 11=.n x∧Own B h k []) (fun | .inl _,e,fr,k=>e=(.exit 0)∧Own B h k [] | .inr x1,e,fr,k=>e=.ret∧fr 2=.n x1∧Own B h k []) ⟨rfl,rfl,rfl,(hO.pk [])⟩ ?_ ?_))
  ·rintro x U O ⟨I,o,d,l⟩ R hp
   dsimp only [Zah.s0] at hp
   refine Zk (Zc (zH d o) (Ze (ZB (zC hp rfl (fun v hp=>?_) (fun v hp=>?_)))))
   ·refine Zat (ZB (zX (Zk (Zb _ d (Zb (.n x) rfl (Zh ?_))))))
    refine Zo (Zk (Zb (.n 0) rfl (Ze (zX (Zb7 hp (fun x2 fr k=>fr 0=v_cells∧fr 3=.n x∧fr 10=.n (cells.length:Int)∧fr 11=.n x∧fr 14=.n x2∧Own B h k []) (fun | .inl _,e,fr,k=>e=(.exit 2)∧fr 0=v_cells∧fr 10=.n (cells.length:Int)∧fr 11=.n x∧Own B h k [] | .inr x3,e,fr,k=>e=.ret∧fr 2=.n x3∧Own B h k []) ⟨I,rfl,o,d,rfl,(l.pk [])⟩ ?_ ?_)))))
    ·rintro x2 X F ⟨f,s,p,q,g,c⟩ S hp
     dsimp only [Zah.s1] at hp
     refine Zk (Zc (zH g rfl) (Ze (ZB (zC hp rfl (fun w hp=>?_) (fun w hp=>?_)))))
     ·refine Zat (ZB (zX (Zk (Zb _ g (Zb (.n x2) rfl (Zh ?_))))))
      refine Zo (Zk (Zb _ f (Zb _ s (Zb (.n x2) rfl ?_))))
      obtain ⟨x4,⟨Y,Q,D,rfl,E⟩,hp⟩:=bdk hp fun _=>Zdh.ok (h:=F)  (c.rd0 s_cells.rd)
      refine ZaK rfl rfl D ?_
      have m:=c.call E rfl
      refine Zb (.n x4) rfl (Ze (Zk (Zb (.n x4) rfl (Zc (Zc2 rfl rfl) (Ze (zC hp rfl (fun y hp=>?_) (fun y hp=>?_)))))))
      ·refine Zk (Zb (.n x4) rfl (Zb (.n x4) rfl (Ze (Zav (Zbw (zE ?_))))))
       cases hp
       exact ⟨nofun,rfl,rfl,(m.pk [])⟩
      ·refine Zc1 (Zaa (Zo (zD (ckk hp fun A hp=>Zc (zf g rfl A) (Zb (.n (x2 + 1)) rfl (Zh ?_))))))
       cases hp
       exact ⟨rfl,f,s,p,q,rfl,(m.pk [])⟩
     ·refine Zbo (zK ?_)
      cases hp
      exact ⟨nofun,rfl,f,p,q,(c.pk [])⟩
    rintro (_ | x3) hp _ W P j
    ·obtain ⟨rfl,J,K,L,b⟩:=j
     refine Zaw (Zaa (Zo (zD (ckk hp fun C hp=>Zc (zf L rfl C) (Zb (.n (x + 1)) rfl (Zh ?_))))))
     cases hp
     exact ⟨rfl,J,K,rfl,(b.pk [])⟩
    ·obtain ⟨rfl,M,b⟩:=j
     refine Zbw (Zbw (zE ?_))
     cases hp
     exact ⟨nofun,rfl,M,(b.pk [])⟩
   ·refine Zbo (zK ?_)
    cases hp
    exact ⟨nofun,rfl,(l.pk [])⟩
  rintro (_ | x1) hp _ T N i
  ·obtain ⟨rfl,a⟩:=i
   refine Zaw (Zo (Zk (Zb (.n 0) rfl (Ze (Zav (z8 (Zag rfl ZQ) ?_))))))
   cases hp
   exact ⟨rfl,(a.pk [])⟩
  ·obtain ⟨rfl,H,a⟩:=i
   refine Zbw (zE (z8 (Zag H ZQ) ?_))
   cases hp
   exact ⟨rfl,(a.pk [])⟩

theorem ZdG.ok {h:Hp} {x:Int} {y:Int}   {r:Int × Int} (hp:ZdG x y=some r) :
  ∃ u k',Is G 98 [.i .u64 x,.i .u64 y] h u k'∧V.tu [.i .u64 r.1,.i .u64 r.2]=u∧Own (fun r=>r < h.n) h k' []:=by
 refine WC.is (ZaP ZfI ?_)
 unfold ZdG at hp
 let B:Nat→Prop:=(fun r=>r < h.n)
 have hO:Own B h h []:=Own.start0 h
 refine Zk (Zb (.i .u64 0) rfl (Zb (.i .u64 0) rfl (Ze (Zk (Zb (.i .u64 x) rfl ?_)))))
 refine Zc (ZeZ (v:=.i .u64 (ZK .u64 x 4294967295)) rfl rfl (by decide) rfl) (Zb (.i .u64 (ZK .u64 x 4294967295)) rfl (Ze (Zk (Zb (.i .u64 x) rfl (Zc (Zf0 (v:=.i .u64 (zB .u64 x 32)) rfl rfl (by decide) (Zee (by decide))) (Zb (.i .u64 (zB .u64 x 32)) rfl ?_))))))
 refine Ze (Zk (Zb (.i .u64 y) rfl (Zc (ZeZ (v:=.i .u64 (ZK .u64 y 4294967295)) rfl rfl (by decide) rfl) (Zb (.i .u64 (ZK .u64 y 4294967295)) rfl (Ze ?_)))))
 refine Zk (Zb (.i .u64 y) rfl (Zc (Zf0 (v:=.i .u64 (zB .u64 y 32)) rfl rfl (by decide) (Zee (by decide))) (Zb (.i .u64 (zB .u64 y 32)) rfl (Ze (Zk ?_)))))
 refine Zb (.i .u64 (ZK .u64 x 4294967295)) rfl (Zb (.i .u64 (ZK .u64 y 4294967295)) rfl (Zc (ZeZ (v:=.i .u64 (Zad .u64 (ZK .u64 x 4294967295) (ZK .u64 y 4294967295))) rfl rfl (by decide) rfl) (Zb (.i .u64 (Zad .u64 (ZK .u64 x 4294967295) (ZK .u64 y 4294967295))) rfl (Ze (Zk (Zb (.i .u64 (zB .u64 x 32)) rfl ?_))))))
 refine Zb (.i .u64 (ZK .u64 y 4294967295)) rfl (Zc (ZeZ (v:=.i .u64 (Zad .u64 (zB .u64 x 32) (ZK .u64 y 4294967295))) rfl rfl (by decide) rfl) (Zb (.i .u64 (Zad .u64 (ZK .u64 x 4294967295) (ZK .u64 y 4294967295))) rfl (Zc (Zf0 (v:=.i .u64 (zB .u64 (Zad .u64 (ZK .u64 x 4294967295) (ZK .u64 y 4294967295)) 32)) rfl rfl (by decide) (Zee (by decide))) (Zc (ZeZ (v:=.i .u64 (Zbv .u64 (Zad .u64 (zB .u64 x 32) (ZK .u64 y 4294967295)) (zB .u64 (Zad .u64 (ZK .u64 x 4294967295) (ZK .u64 y 4294967295)) 32))) rfl rfl (by decide) rfl) (Zb (.i .u64 (Zbv .u64 (Zad .u64 (zB .u64 x 32) (ZK .u64 y 4294967295)) (zB .u64 (Zad .u64 (ZK .u64 x 4294967295) (ZK .u64 y 4294967295)) 32))) rfl (Ze (ZB ?_)))))))
 refine zD (Zb (.i .u64 (Zbv .u64 (Zad .u64 (zB .u64 x 32) (ZK .u64 y 4294967295)) (zB .u64 (Zad .u64 (ZK .u64 x 4294967295) (ZK .u64 y 4294967295)) 32))) rfl (Zc (ZeZ (v:=.i .u64 (ZK .u64 (Zbv .u64 (Zad .u64 (zB .u64 x 32) (ZK .u64 y 4294967295)) (zB .u64 (Zad .u64 (ZK .u64 x 4294967295) (ZK .u64 y 4294967295)) 32)) 4294967295)) rfl rfl (by decide) rfl) (Zb (.i .u64 (ZK .u64 (Zbv .u64 (Zad .u64 (zB .u64 x 32) (ZK .u64 y 4294967295)) (zB .u64 (Zad .u64 (ZK .u64 x 4294967295) (ZK .u64 y 4294967295)) 32)) 4294967295)) rfl (Ze (Zk (Zb (.i .u64 (Zbv .u64 (Zad .u64 (zB .u64 x 32) (ZK .u64 y 4294967295)) (zB .u64 (Zad .u64 (ZK .u64 x 4294967295) (ZK .u64 y 4294967295)) 32))) rfl ?_))))))
 refine Zc (Zf0 (v:=.i .u64 (zB .u64 (Zbv .u64 (Zad .u64 (zB .u64 x 32) (ZK .u64 y 4294967295)) (zB .u64 (Zad .u64 (ZK .u64 x 4294967295) (ZK .u64 y 4294967295)) 32)) 32)) rfl rfl (by decide) (Zee (by decide))) (Zb (.i .u64 (zB .u64 (Zbv .u64 (Zad .u64 (zB .u64 x 32) (ZK .u64 y 4294967295)) (zB .u64 (Zad .u64 (ZK .u64 x 4294967295) (ZK .u64 y 4294967295)) 32)) 32)) rfl (Ze (Zk (Zb (.i .u64 (ZK .u64 (Zbv .u64 (Zad .u64 (zB .u64 x 32) (ZK .u64 y 4294967295)) (zB .u64 (Zad .u64 (ZK .u64 x 4294967295) (ZK .u64 y 4294967295)) 32)) 4294967295)) rfl (Zb (.i .u64 (ZK .u64 x 4294967295)) rfl (Zb (.i .u64 (zB .u64 y 32)) rfl ?_))))))
 refine Zc (ZeZ (v:=.i .u64 (Zad .u64 (ZK .u64 x 4294967295) (zB .u64 y 32))) rfl rfl (by decide) rfl) (Zc (ZeZ (v:=.i .u64 (Zbv .u64 (ZK .u64 (Zbv .u64 (Zad .u64 (zB .u64 x 32) (ZK .u64 y 4294967295)) (zB .u64 (Zad .u64 (ZK .u64 x 4294967295) (ZK .u64 y 4294967295)) 32)) 4294967295) (Zad .u64 (ZK .u64 x 4294967295) (zB .u64 y 32)))) rfl rfl (by decide) rfl) (Zb (.i .u64 (Zbv .u64 (ZK .u64 (Zbv .u64 (Zad .u64 (zB .u64 x 32) (ZK .u64 y 4294967295)) (zB .u64 (Zad .u64 (ZK .u64 x 4294967295) (ZK .u64 y 4294967295)) 32)) 4294967295) (Zad .u64 (ZK .u64 x 4294967295) (zB .u64 y 32)))) rfl (Ze (Zk (Zb (.i .u64 (zB .u64 x 32)) rfl (Zb (.i .u64 (zB .u64 y 32)) rfl ?_))))))
 refine Zc (ZeZ (v:=.i .u64 (Zad .u64 (zB .u64 x 32) (zB .u64 y 32))) rfl rfl (by decide) rfl) (Zb (.i .u64 (zB .u64 (Zbv .u64 (Zad .u64 (zB .u64 x 32) (ZK .u64 y 4294967295)) (zB .u64 (Zad .u64 (ZK .u64 x 4294967295) (ZK .u64 y 4294967295)) 32)) 32)) rfl (Zc (ZeZ (v:=.i .u64 (Zbv .u64 (Zad .u64 (zB .u64 x 32) (zB .u64 y 32)) (zB .u64 (Zbv .u64 (Zad .u64 (zB .u64 x 32) (ZK .u64 y 4294967295)) (zB .u64 (Zad .u64 (ZK .u64 x 4294967295) (ZK .u64 y 4294967295)) 32)) 32))) rfl rfl (by decide) rfl) (Zb (.i .u64 (Zbv .u64 (ZK .u64 (Zbv .u64 (Zad .u64 (zB .u64 x 32) (ZK .u64 y 4294967295)) (zB .u64 (Zad .u64 (ZK .u64 x 4294967295) (ZK .u64 y 4294967295)) 32)) 4294967295) (Zad .u64 (ZK .u64 x 4294967295) (zB .u64 y 32)))) rfl (Zc (Zf0 (v:=.i .u64 (zB .u64 (Zbv .u64 (ZK .u64 (Zbv .u64 (Zad .u64 (zB .u64 x 32) (ZK .u64 y 4294967295)) (zB .u64 (Zad .u64 (ZK .u64 x 4294967295) (ZK .u64 y 4294967295)) 32)) 4294967295) (Zad .u64 (ZK .u64 x 4294967295) (zB .u64 y 32))) 32)) rfl rfl (by decide) (Zee (by decide))) (Zc (ZeZ (v:=.i .u64 (Zbv .u64 (Zbv .u64 (Zad .u64 (zB .u64 x 32) (zB .u64 y 32)) (zB .u64 (Zbv .u64 (Zad .u64 (zB .u64 x 32) (ZK .u64 y 4294967295)) (zB .u64 (Zad .u64 (ZK .u64 x 4294967295) (ZK .u64 y 4294967295)) 32)) 32)) (zB .u64 (Zbv .u64 (ZK .u64 (Zbv .u64 (Zad .u64 (zB .u64 x 32) (ZK .u64 y 4294967295)) (zB .u64 (Zad .u64 (ZK .u64 x 4294967295) (ZK .u64 y 4294967295)) 32)) 4294967295) (Zad .u64 (ZK .u64 x 4294967295) (zB .u64 y 32))) 32))) rfl rfl (by decide) rfl) (Zb (.i .u64 (Zbv .u64 (Zbv .u64 (Zad .u64 (zB .u64 x 32) (zB .u64 y 32)) (zB .u64 (Zbv .u64 (Zad .u64 (zB .u64 x 32) (ZK .u64 y 4294967295)) (zB .u64 (Zad .u64 (ZK .u64 x 4294967295) (ZK .u64 y 4294967295)) 32)) 32)) (zB .u64 (Zbv .u64 (ZK .u64 (Zbv .u64 (Zad .u64 (zB .u64 x 32) (ZK .u64 y 4294967295)) (zB .u64 (Zad .u64 (ZK .u64 x 4294967295) (ZK .u64 y 4294967295)) 32)) 4294967295) (Zad .u64 (ZK .u64 x 4294967295) (zB .u64 y 32))) 32))) rfl (Ze ?_)))))))
 refine Zk (Zb (.i .u64 x) rfl (Zb (.i .u64 y) rfl (Zc (ZeZ (v:=.i .u64 (Zad .u64 x y)) rfl rfl (by decide) rfl) (Zb (.i .u64 (Zad .u64 x y)) rfl (Ze (Zav ?_))))))
 refine z8 (Zag rfl (Zag rfl ZQ)) ?_
 cases hp
 exact ⟨rfl,(hO.pk [])⟩

theorem Zdz.ok {h:Hp} {x:Int} {y:Int}   {r:Int × Int} (hp:Zdz x y=some r) :
  ∃ u k',Is G 89 [.i .u64 x,.i .u64 y] h u k'∧V.tu [.i .u64 r.1,.i .u64 r.2]=u∧Own (fun r=>r < h.n) h k' []:=by
 refine WC.is (ZaP Zg1 ?_)
 unfold Zdz at hp
 let B:Nat→Prop:=(fun r=>r < h.n)
 have hO:Own B h h []:=Own.start0 h
 refine Zk (Zb (.i .u64 0) rfl (Zb (.i .u64 0) rfl (Ze (ZB (ZkS rfl rfl (Zc1 ?_))))))
 refine Zo (Zk (Zb (.i .u64 x) rfl (Zb (.i .u64 y) rfl ?_)))
 obtain ⟨⟨x1,x2⟩,⟨e,d,a,rfl,c⟩,hp⟩:=bdk hp fun _=>ZdG.ok (h:=h)  
 refine ZaK rfl rfl a ?_
 have b:=hO.call c rfl
 refine Zb (.tu [.i .u64 x1,.i .u64 x2]) rfl (Zc (ZbF rfl rfl) (Zc (ZbF rfl rfl) (Zb (.i .u64 x1) rfl (Zb (.i .u64 x2) rfl (Ze (Zk ?_))))))
 refine Zb (.i .u64 x1) rfl (Zb (.i .u64 x2) rfl (Zb (.i .u64 x1) rfl (Zb (.i .u64 x2) rfl (Ze (Zav (z8 (Zag rfl (Zag rfl ZQ)) ?_))))))
 cases hp
 exact ⟨rfl,(b.pk [])⟩

theorem Za8.ok {h:Hp} {x:List Int} {count:Int} {v_x:V} (s_x:Sl zM h v_x x) {r:(List Int)} (hp:Za8 x count=some r) :
  ∃ u k',Is G 83 [v_x,.n count] h u k'∧∃ A,A=u∧Own (fun r=>r < h.n) h k' [eSl zM A r]:=by
 refine WC.is (ZaP ZdV ?_)
 unfold Za8 at hp
 let B:Nat→Prop:=(fun r=>r < h.n)
 have hO:Own B h h []:=Own.start0 h
 refine Zk (Zb (.sn) rfl (Ze (ZB (Zk (Zb (.n count) rfl ?_)))))
 refine Zc (zH rfl rfl) (Ze (Zg4 hp (fun _ e fr k=>e=.normal∧fr 0=v_x∧fr 1=.n count∧Own B h k []) (fun _ hp=>?_) ?_))
 ·refine zC hp rfl (fun C hp=>?_) (fun C hp=>?_)
  ·exact nomatch hp
  ·refine Zc1 ?_
   cases hp
   exact ⟨rfl,rfl,rfl,(hO.pk [])⟩
 rintro _ hp _ aq Y ⟨rfl,p,ab,s⟩
 refine Zo (Zk (Zb _ p (Zc (Zak (s.rd0 s_x.rd) rfl) (ckk hp fun H hp=>Zc (Zfe rfl H) (Zb _ ab (ckk hp fun I hp=>?_))))))
 refine Zc (Zfe rfl I) ?_
 obtain ⟨⟨x1,x2⟩,⟨ax,aa,M,rfl,X⟩,hp⟩:=bdk hp fun _=>Zdz.ok (h:=Y)  
 refine ZaK rfl rfl M ?_
 have S:=s.call X rfl
 refine Zb (.tu [.i .u64 x1,.i .u64 x2]) rfl (Zc (ZbF rfl rfl) (Zc (ZbF rfl rfl) (Zb (.i .u64 x1) rfl (Zb (.i .u64 x2) rfl (Ze (ZB (ZB ?_)))))))
 refine zD (Zb (.i .u64 x1) rfl (Zc (ZdC rfl rfl) (Zb (.b (decide (0 < x1))) rfl (Zai 3 (fun f k=>aa=k∧f 26=.b ((decide (0 < x1)) || (decide (9223372036854775807 < x2)))∧f 0=v_x∧f 6=.i .u64 x2) ?_ ?_))))
 ·rcases bc (decide (0 < x1)) with c | c
  ·refine Zl rfl c (Zl rfl c (Zc (Zcs (w:=(decide (0 < x1)) || (decide (9223372036854775807 < x2))) rfl c rfl) (Zh ?_)))
   exact ⟨rfl,rfl,p,rfl⟩
  ·refine Zu rfl c (Zb (.i .u64 x2) rfl (Zu rfl c (Zc (ZdC rfl rfl) (Zc (Zct rfl c rfl) (Zh ?_)))))
   exact ⟨rfl,rfl,p,rfl⟩
 rintro ai _ ⟨rfl,Q,P,R⟩
 refine Ze (Zg4 hp (fun _ e fr k=>e=.normal∧fr 0=v_x∧fr 6=.i .u64 x2∧Own B h k []) (fun _ hp=>?_) ?_)
 ·refine zC hp Q (fun D hp=>?_) (fun D hp=>?_)
  ·exact nomatch hp
  ·refine Zc1 ?_
   cases hp
   exact ⟨rfl,P,R,(S.pk [])⟩
 rintro _ hp _ ar aj ⟨rfl,ac,ad,t⟩
 refine Zo (Zk (Zb _ ad (ckk hp fun J hp=>Zc (Zfe rfl J) (ckk hp fun K hp=>zw (t.mks (E:=zM) (y:=(0:Int)) (bytes:=8) (z:=x2) t.fr rfl rfl rfl K (by decide)) ?_))))
 rintro a ak ⟨aw,af,v⟩
 refine Zb a rfl (Ze (Zk (Zb a rfl (Zb _ ac (zw (v.cpy 0 rfl (v.rd0 s_x.rd) rfl rfl (fun _=>rfl)) ?_)))))
 rintro _ al ⟨rfl,ag,T⟩
 refine Zb (.n ((min x.length (List.replicate x2.toNat (0:Int)).length:Nat):Int)) rfl (Ze (ZB (zX (Zb7 hp (fun | (newslice,n),fr,k=>fr 7=a∧fr 8=.n n∧Own B h k [eSl zM a newslice]) (fun newslice1 e fr k=>e=(.exit 0)∧fr 7=a∧Own B h k [eSl zM a newslice1]) ⟨rfl,rfl,(T.pk [0])⟩ ?_ ?_))))
 ·rintro ⟨newslice,n⟩ av o ⟨d,m,j⟩ ap hp
  dsimp only [Za8.s0] at hp
  refine ZB (Zk (Zb _ m (Zb _ d (Zc (Zak (j.sl 0 rfl) rfl) (Zc (zH rfl rfl) (Ze (zC hp rfl (fun F hp=>?_) (fun F hp=>?_))))))))
  ·refine Zat (zX (ZfG ?_))
   have l:=j.bump 10
   have O:=Fresh.start o 10
   have ao:∀ {i:Nat},h.n≤o.n + i:=Nat.le_trans j.n (Nat.le_add_right _ _)
   refine Zbr _ m (Zbr _ d (Zbr _ m (ckk hp fun g hp=>z4 (Zl1 (E:=zM) (z:=n) (l.sl 0 rfl) rfl rfl g) (Zbr _ d (Zbr _ m (z4 (Zoe (E:=zM) (z:=n) (l.sl 0 rfl) rfl rfl g) (Ze8 (l.cpyF (E:=zM) (z:=n) 0 rfl g (Sl.cutU (l.sl 0 rfl) g:Sl zM (o.bump 10) (V.cut a 0 n.toNat) (newslice.take n.toNat)) rfl rfl (fun _=>rfl)) ?_)))))))
   rintro _ an ay ⟨rfl,N,W⟩
   have ah:=O.kept N (by decide)
   refine ckk hp fun L hp=>z4 (zf rfl rfl L) (Zbr (.n (n + ((min (newslice.take n.toNat).length (newslice.drop n.toNat).length:Nat):Int))) rfl (ZcA ?_))
   refine And.intro ?_ ?_
   ·intro q hq
    cases hq
   refine Zaa ?_
   cases hp
   exact ⟨rfl,d,rfl,(W.pk [0])⟩
  ·refine Zbo (zK ?_)
   cases hp
   exact ⟨nofun,rfl,d,(j.pk [0])⟩
 rintro newslice1 hp _ au am ⟨rfl,ae,U⟩
 refine Zaw (Zo (Zk (Zb _ ae (Zb a rfl (Ze (Zav ?_))))))
 refine z8 (Zag rfl ZQ) ?_
 cases hp
 exact ⟨a,rfl,(U.pk [0])⟩

theorem ZaT.ok {h:Hp} {cells:List Za} {v:Int} {v_cells:V} (s_cells:Sl Zd h v_cells cells) {r:(List Int) × (List Int)} (hp:ZaT cells v=some r) :
  ∃ u k',Is G 67 [v_cells,.n v] h u k'∧∃ ap ar,V.tu [ap,ar]=u∧Own (fun r=>r < h.n) h k' [eSl zM ap r.1,eSl zM ar r.2]:=by
 refine WC.is (ZaP Zf9 ?_)
 unfold ZaT at hp
 let B:Nat→Prop:=(fun r=>r < h.n)
 have hO:Own B h h []:=Own.start0 h
 refine Zk (Zb (.sn) rfl (Zb (.sn) rfl (Ze (Zk (zw (hO.bsl (E:=zM) (l:=([(-1)]:List Int)) hO.fr (by rw [(zo (v:=.n (-1)) rfl ZaH)]; rfl) rfl) ?_)))))
 rintro a1 al ⟨bA,a3,J⟩
 refine Zb v_cells rfl (Zc (Zak (J.rd0 s_cells.rd) rfl) ?_)
 obtain ⟨x,⟨bF,bj,aC,c,rfl,aL⟩,hp⟩:=bdk hp fun _=>Za8.ok (h:=al)  (J.sl 0 rfl:Sl zM al a1 ([(-1)]:List Int))
 refine ZaK rfl rfl aC ?_
 have ai:=J.call aL rfl
 refine zw (ai.bsl (E:=zM) (l:=([(-1)]:List Int)) ai.fr (by rw [(zo (v:=.n (-1)) rfl ZaH)]; rfl) rfl) ?_
 rintro a2 am ⟨bB,a5,L⟩
 refine Zb v_cells rfl (Zc (Zak (L.rd0 s_cells.rd) rfl) ?_)
 obtain ⟨x1,⟨bG,bk,aD,d,rfl,aM⟩,hp⟩:=bdk hp fun _=>Za8.ok (h:=am)  (L.sl 2 rfl:Sl zM am a2 ([(-1)]:List Int))
 refine ZaK rfl rfl aD ?_
 have aj:=L.call aM rfl
 refine Zb c rfl (Zb d rfl (Ze (Zk (Zb (.n v) rfl (zw (aj.bsl (E:=zM) (l:=[v]) aj.fr (by rw [(zo (v:=.n v) rfl ZaH)]; rfl) rfl) ?_)))))
 rintro au bl ⟨bC,a6,M⟩
 refine Zb au rfl (Ze (Zk (Zb v_cells rfl (Zc (Zak (M.rd0 s_cells.rd) rfl) (ckk hp fun ay hp=>zw (M.mks (E:=e_bool) (y:=false) (bytes:=1) (z:=(cells.length:Int)) M.fr rfl rfl rfl ay (by decide)) ?_)))))
 rintro i aQ ⟨bD,a7,ak⟩
 refine Zb i rfl (Ze (Zk (Zb i rfl (Zb (.n v) rfl (ckk hp fun T hp=>Zc (zi (ak.sl 5 rfl:Sl e_bool aQ i (List.replicate ((cells.length:Int):Int).toNat false)) rfl rfl T) ?_)))))
 refine zw (ak.ste (y:=true) 5 rfl rfl (Zg T) rfl rfl ⟨rfl,Nat.le_of_ble_eq_true rfl,rfl⟩ rfl) ?_
 rintro _ bm ⟨rfl,a8,bp,aJ⟩
 refine Ze (ZB (zX (Zb7 hp (fun | (from_,dir,l,met),fr,k=>∃ o,fr 0=v_cells∧fr 6=c∧fr 7=d∧fr 8=o∧fr 9=i∧Own B h k [eSl zM c from_,eSl zM d dir,eSl zM o l,eSl e_bool i met]) (fun | (from_1,dir1),e,fr,k=>e=(.exit 0)∧fr 6=c∧fr 7=d∧Own B h k [eSl zM c from_1,eSl zM d dir1]) ⟨au,rfl,rfl,rfl,rfl,rfl,(aJ.pk [1,3,4,5])⟩ ?_ ?_)))
 ·rintro ⟨from_,dir,l,met⟩ bw bo ⟨o,aT,an,ao,N,aU,j⟩ bt hp
  dsimp only [ZaT.s0] at hp
  refine ZB (Zk (Zb _ N (Zc (Zak (j.sl 2 rfl) rfl) (Zc (ZdC rfl rfl) (Ze (zC hp rfl (fun av hp=>?_) (fun av hp=>?_)))))))
  ·refine Zat (zX (Zk (Zb _ N (ckk hp fun U hp=>Zc (zi (j.sl 2 rfl) rfl rfl U) (Zc (zS (j.sl 2 rfl) rfl (Zg U) rfl) ?_)))))
   refine Zb (.n (gi l (0:Int).toNat)) rfl (Ze (Zk (Zb _ N (ckk hp fun W hp=>Zc (Zl1 (E:=zM) (z:=1) (j.sl 2 rfl) rfl rfl W) (Zb ((V.cut o (1:Int).toNat (l).length)) rfl ?_)))))
   refine Ze (Zk (Zb (.n 0) rfl (Ze (zX ?_))))
   have aH:=j.cutF 2 rfl W
   refine Zb7 hp (fun | (from_2,dir2,l1,met1,x2),fr,k=>∃ m,fr 0=v_cells∧fr 6=c∧fr 7=d∧fr 8=m∧fr 9=i∧fr 10=.n (gi l (0:Int).toNat)∧fr 37=.n x2∧Own B h k [eSl zM c from_2,eSl zM d dir2,eSl zM m l1,eSl e_bool i met1]) (fun | (from_3,dir3,l2,met2),e,fr,k=>e=(.exit 2)∧∃ C,fr 0=v_cells∧fr 6=c∧fr 7=d∧fr 8=C∧fr 9=i∧Own B h k [eSl zM c from_3,eSl zM d dir3,eSl zM C l2,eSl e_bool i met2]) ⟨(V.cut o (1:Int).toNat (l).length),aT,an,ao,rfl,aU,rfl,rfl,(aH.pk [0,1,2,3])⟩ ?_ ?_
   ·rintro ⟨from_2,dir2,l1,met1,x2⟩ bz aO ⟨m,s,P,Q,R,A,O,w,g⟩ bu hp
    dsimp only [ZaT.s1] at hp
    refine Zk (Zc (zH w rfl) (Ze (ZB (zC hp rfl (fun aw hp=>?_) (fun aw hp=>?_)))))
    ·refine Zat (ZB (zX (Zk (Zb _ w (Zb (.n x2) rfl (Zh ?_))))))
     refine Zo (Zk (Zb _ s (Zb _ O (Zb (.n x2) rfl (ckk hp fun p hp=>Zc (zi (g.rd0 s_cells.rd) rfl rfl p) (Zc (Zbt (g.rd0 s_cells.rd) (Zg p) rfl rfl) ?_))))))
     refine ckk hp fun X hp=>Zc (Zbj (g.rd0 s_cells.rd) (Zg p) rfl rfl X rfl) (Zc (zS (g.rd0 s_cells.rd) rfl (Zg p) (zI X)) (Zb (.n (((gi cells (gi l (0:Int).toNat:Int).toNat).Next).get x2)) rfl (Ze (Zk (Zb (.n (((gi cells (gi l (0:Int).toNat:Int).toNat).Next).get x2)) rfl ?_)))))
     refine Zc (ZcZ rfl rfl) (Zb (.b (decide (0≤(((gi cells (gi l (0:Int).toNat:Int).toNat).Next).get x2)))) rfl ?_)
     obtain ⟨t,aN,hp⟩:=ZaZ hp
     refine Zai 6 (fun f k=>aO=k∧f 55=.b t∧f 0=v_cells∧f 10=.n (gi l (0:Int).toNat)∧f 11=.n x2∧f 12=.n (((gi cells (gi l (0:Int).toNat:Int).toNat).Next).get x2)∧f 37=.n x2∧f 6=c∧f 7=d∧f 8=m∧f 9=i) ?_ ?_
     ·clear hp; rcases Zbn aN with ⟨a,hp⟩ | ⟨a,hp⟩
      ·refine Zu rfl a (Zb _ A (Zu rfl a (Zb (.n (((gi cells (gi l (0:Int).toNat:Int).toNat).Next).get x2)) rfl (Zu rfl a (ckk hp fun Y hp=>Zc (zi (g.sl 3 rfl) rfl rfl Y) (Zu rfl a (Zc (zS (g.sl 3 rfl) rfl (Zg Y) rfl) ?_)))))))
       refine Zu rfl a (Zc (ZcR rfl) (Zc (ZaS (v:=.b t) rfl a (Eq.trans (b:=V.b (!(gi met1 (((gi cells (gi l (0:Int).toNat:Int).toNat).Next).get x2:Int).toNat))) rfl (congrArg V.b (Option.some.inj hp)))) (Zh ?_)))
       exact ⟨rfl,rfl,s,O,rfl,rfl,w,P,Q,R,A⟩
      ·refine Zl rfl a (Zl rfl a (Zl rfl a (Zl rfl a (Zl rfl a (Zc (ZaL (v:=.b t) rfl a (Eq.trans (b:=V.b false) rfl (congrArg V.b (Option.some.inj hp)))) (Zh ?_))))))
       exact ⟨rfl,rfl,s,O,rfl,rfl,w,P,Q,R,A⟩
     rintro bd _ ⟨rfl,aF,ac,D,aE,q,ad,F,H,ae,I⟩
     refine Ze (zC hp aF (fun ax hp=>?_) (fun ax hp=>?_))
     ·refine Zk (Zb _ I (Zb _ q (Zb _ F (Zb _ q (Zb _ H (Zb _ q (Zb _ D ?_)))))))
      refine Zb _ aE (ckk hp fun aa hp=>Zc (zi (g.sl 3 rfl) rfl rfl aa) (zw (g.ste (y:=true) 3 rfl rfl (Zg aa) rfl rfl ⟨rfl,Nat.le_of_ble_eq_true rfl,rfl⟩ rfl) ?_))
      rintro _ bf ⟨rfl,a9,bq,af⟩
      refine ckk hp fun ab hp=>Zc (zi (af.sl 0 rfl) rfl rfl ab) (zw (af.ste (y:=(gi l (0:Int).toNat)) 0 rfl rfl (Zg ab) rfl rfl ⟨rfl,Nat.le_of_ble_eq_true rfl,rfl⟩ rfl) ?_)
      rintro _ bg ⟨rfl,ba,br,ag⟩
      refine ckk hp fun S hp=>Zc (zi (ag.sl 1 rfl) rfl rfl S) (zw (ag.ste (y:=x2) 1 rfl rfl (Zg S) rfl rfl ⟨rfl,Nat.le_of_ble_eq_true rfl,rfl⟩ rfl) ?_)
      rintro _ bh ⟨rfl,bb,bs,ah⟩
      refine Ze (zD (Zb _ ae (Zb _ q (zw (ah.bsl (E:=zM) (l:=[((gi cells (gi l (0:Int).toNat:Int).toNat).Next).get x2]) ah.fr (by rw [(zo (v:=.n (((gi cells (gi l (0:Int).toNat:Int).toNat).Next).get x2)) rfl ZaH)]; rfl) rfl) ?_))))
      rintro a0 aP ⟨bE,bc,K⟩
      refine ckk hp fun az hp=>zw (K.app (bytes:=8) 2 K.fr rfl (K.sl 4 rfl:Sl zM aP a0 [((gi cells (gi l (0:Int).toNat:Int).toNat).Next).get x2]) rfl rfl (fun _=>rfl) az (by decide)) ?_
      rintro aq bi ⟨a4,aI⟩
      refine Zb aq rfl (Zh (Zaa (Zo (zD (ckk hp fun aA hp=>Zc (zf ad rfl aA) (Zb (.n (x2 + 1)) rfl (Zh ?_)))))))
      cases hp
      exact ⟨rfl,aq,ac,F,H,rfl,I,D,rfl,(aI.pk [0,1,2,3])⟩
     ·refine Zc1 (Zaa (Zo (zD (ckk hp fun aB hp=>Zc (zf ad rfl aB) (Zb (.n (x2 + 1)) rfl (Zh ?_))))))
      cases hp
      exact ⟨rfl,m,ac,F,H,ae,I,D,rfl,(g.pk [0,1,2,3])⟩
    ·refine Zbo (zK ?_)
     cases hp
     exact ⟨nofun,rfl,m,s,P,Q,R,A,(g.pk [0,1,2,3])⟩
   rintro ⟨from_3,dir3,l2,met2⟩ hp _ bx be ⟨rfl,C,aV,aW,aX,aY,aZ,aG⟩
   refine Zaw (Zaa ?_)
   cases hp
   exact ⟨rfl,C,aV,aW,aX,aY,aZ,(aG.pk [0,1,2,3])⟩
  ·refine Zbo (zK ?_)
   cases hp
   exact ⟨nofun,rfl,an,ao,(j.pk [0,1])⟩
 rintro ⟨from_1,dir1⟩ hp _ bv bn ⟨rfl,aR,aS,aK⟩
 refine Zaw (Zo (Zk (Zb _ aR (Zb _ aS (Zb c rfl (Zb d rfl (Zh ?_)))))))
 refine Zo (Zav (z8 (Zag rfl (Zag rfl ZQ)) ?_))
 cases hp
 exact ⟨c,d,rfl,(aK.pk [0,1])⟩

theorem Zbc.ok {h:Hp} {cells:List Za} {v_cells:V} (s_cells:Sl Zd h v_cells cells) {r:(List (List Int)) × Int} (hp:Zbc cells=some r) :
  ∃ u k',Is G 29 [v_cells] h u k'∧∃ ap aw,V.tu [ap,.n r.2]=u∧Own (fun r=>r < h.n) h k' [eSl eV ap aw,Zce zM aw r.1]:=by
 refine WC.is (ZaP ZfM ?_)
 unfold Zbc at hp
 let B:Nat→Prop:=(fun r=>r < h.n)
 have hO:Own B h h []:=Own.start0 h
 refine Zk (Zb (.sn) rfl (Zb (.n 0) rfl (Ze (ZB (Zk ?_)))))
 refine Zb v_cells rfl ?_
 obtain ⟨x,⟨bB,be,aJ,rfl,aU⟩,hp⟩:=bdk hp fun _=>Zah.ok (h:=h)  (hO.rd0 s_cells.rd)
 refine ZaK rfl rfl aJ ?_
 have w:=hO.call aU rfl
 refine Zb (.n x) rfl (Ze (Zk (Zb (.n x) rfl (Zc (Zc2 rfl rfl) (Ze (zC hp rfl (fun ax hp=>?_) (fun ax hp=>?_)))))))
 ·refine Zk (Zb (.n x) rfl (Zb (.sn) rfl (Zb (.n x) rfl (Ze (Zav (zE ?_))))))
  have aP:=w.nil eV
  have aQ:=aP.allNil zM 0
  refine z8 (Zag rfl (Zag rfl ZQ)) ?_
  cases hp
  exact ⟨V.sn,[],rfl,(aQ.pk [0,1])⟩
 ·refine Zat (Zk (Zb (.sn) rfl (Ze (Zk ?_))))
  refine Zb v_cells rfl (Zc (Zak (w.rd0 s_cells.rd) rfl) (ckk hp fun aC hp=>zw (w.mks (E:=e_bool) (y:=false) (bytes:=1) (z:=(cells.length:Int)) w.fr rfl rfl rfl aC (by decide)) ?_))
  rintro g bj ⟨bw,a6,an⟩
  refine Zb g rfl (Ze (ZB (Zk (Zb v_cells rfl (Zc (Zak (an.rd0 s_cells.rd) rfl) (Zb (.n 0) rfl ?_))))))
  refine Ze (zX ?_)
  have aS:=an.nil eV
  have aT:=aS.allNil zM 0
  refine Zb7 hp (fun | (l,met,x1),fr,k=>∃ d c,fr 0=v_cells∧fr 5=d∧fr 6=g∧fr 21=.n (cells.length:Int)∧fr 22=.n x1∧Own B h k [eSl eV d c,Zce zM c l,eSl e_bool g met]) (fun l1 e fr k=>e=(.exit 0)∧∃ q F,fr 5=q∧Own B h k [eSl eV q F,Zce zM F l1]) ⟨V.sn,[],rfl,rfl,rfl,rfl,rfl,(aT.pk [1,2,0])⟩ ?_ ?_
  ·rintro ⟨l,met,x1⟩ bt aX ⟨d,c,A,L,M,K,C,j⟩ bq hp
   dsimp only [Zbc.s0] at hp
   refine Zk (Zc (zH C K) (Ze (ZB (zC hp rfl (fun ay hp=>?_) (fun ay hp=>?_)))))
   ·refine Zat (ZB (zX (Zk (Zb _ C (Zb (.n x1) rfl (Zh ?_))))))
    refine Zo (ZB (Zk (Zb _ M (Zb (.n x1) rfl (ckk hp fun X hp=>Zc (zi (j.sl 2 rfl) rfl rfl X) (Zc (zS (j.sl 2 rfl) rfl (Zg X) rfl) ?_))))))
    refine Ze (zC hp rfl (fun az hp=>?_) (fun az hp=>?_))
    ·refine Zbo (zK (Zaw (Zo (zD (ckk hp fun aE hp=>Zc (zf C rfl aE) (Zb (.n (x1 + 1)) rfl (Zh ?_)))))))
     cases hp
     exact ⟨rfl,d,c,A,L,M,K,rfl,(j.pk [0,1,2])⟩
    ·refine Zat (Zk (Zb _ A (Zb (.n x1) rfl ?_)))
     obtain ⟨⟨x2,x3⟩,⟨bC,bl,aK,au,s,rfl,aV⟩,hp⟩:=bdk hp fun _=>ZaT.ok (h:=aX)  (j.rd0 s_cells.rd)
     refine ZaK rfl rfl aK ?_
     have ao:=j.call aV rfl
     refine Zb (.tu [au,s]) rfl (Zc (ZbF rfl rfl) (Zc (ZbF rfl rfl) (Zb au rfl (Zb s rfl (Ze (Zk ?_))))))
     refine zw (ao.bsl (E:=zM) (l:=[]) ao.fr (by rw [ZaH]; rfl) rfl) ?_
     rintro av bm ⟨bx,a7,al⟩
     refine Zb av rfl (Ze (ZB (Zk (Zb _ A (Zc (Zak (al.rd0 s_cells.rd) rfl) (Zb (.n 0) rfl ?_))))))
     refine Ze (zX (Zb7 hp (fun | (met1,part,x4),fr,k=>∃ m,fr 0=v_cells∧fr 5=d∧fr 6=g∧fr 7=.n x1∧fr 9=s∧fr 10=m∧fr 21=.n (cells.length:Int)∧fr 22=.n x1∧fr 37=.n (cells.length:Int)∧fr 38=.n x4∧Own B h k [eSl eV d c,Zce zM c l,eSl e_bool g met1,eSl zM s x3,eSl zM m part]) (fun | (met2,part1),e,fr,k=>e=(.exit 2)∧∃ o,fr 0=v_cells∧fr 5=d∧fr 6=g∧fr 10=o∧fr 21=.n (cells.length:Int)∧fr 22=.n x1∧Own B h k [eSl eV d c,Zce zM c l,eSl e_bool g met2,eSl zM o part1]) ⟨av,A,L,M,rfl,rfl,rfl,K,C,rfl,rfl,(al.pk [0,1,2,4,5])⟩ ?_ ?_))
     ·rintro ⟨met1,part,x4⟩ bv aY ⟨m,N,S,T,U,W,O,P,Q,R,D,i⟩ br hp
      dsimp only [Zbc.s1] at hp
      refine Zk (Zc (zH D R) (Ze (ZB (zC hp rfl (fun aA hp=>?_) (fun aA hp=>?_)))))
      ·refine Zat (ZB (zX (Zk (Zb _ D (Zb (.n x4) rfl (Zh ?_))))))
       refine Zo (Zk (Zb (.n x4) rfl (Zb _ U (Zc (Zb0 rfl rfl) (Zb (.b (decide (x4=x1))) rfl ?_)))))
       obtain ⟨t,aW,hp⟩:=ZaZ hp
       refine Zai 6 (fun f k=>aY=k∧f 50=.b t∧f 0=v_cells∧f 10=m∧f 11=.n x4∧f 21=.n (cells.length:Int)∧f 22=.n x1∧f 37=.n (cells.length:Int)∧f 38=.n x4∧f 5=d∧f 6=g∧f 7=.n x1∧f 9=s) ?_ ?_
       ·clear hp; rcases Zbn aW with ⟨a,hp⟩ | ⟨a,hp⟩
        ·refine Zl rfl a (Zl rfl a (Zl rfl a (Zl rfl a (Zl rfl a (Zc (ZaS (v:=.b t) rfl a (Eq.trans (b:=V.b true) rfl (congrArg V.b (Option.some.inj hp)))) (Zh ?_))))))
         exact ⟨rfl,rfl,N,O,rfl,P,Q,R,D,S,T,U,W⟩
        ·refine Zu rfl a (Zb _ W (Zu rfl a (Zb (.n x4) rfl (Zu rfl a (ckk hp fun Y hp=>Zc (zi (i.sl 3 rfl) rfl rfl Y) (Zu rfl a (Zc (zS (i.sl 3 rfl) rfl (Zg Y) rfl) ?_)))))))
         refine Zu rfl a (Zc (ZcZ rfl rfl) (Zc (ZaL (v:=.b t) rfl a (Eq.trans (b:=V.b (decide (0≤(gi x3 x4.toNat)))) rfl (congrArg V.b (Option.some.inj hp)))) (Zh ?_)))
         exact ⟨rfl,rfl,N,O,rfl,P,Q,R,D,S,T,U,W⟩
       rintro bd _ ⟨rfl,aL,ab,ac,ad,ae,af,ag,ah,ai,H,aj,ak⟩
       refine Ze (zC hp aL (fun aB hp=>?_) (fun aB hp=>?_))
       ·refine Zk (Zb _ H (Zb _ ad (ckk hp fun aa hp=>Zc (zi (i.sl 2 rfl) rfl rfl aa) (zw (i.ste (y:=true) 2 rfl rfl (Zg aa) rfl rfl ⟨rfl,Nat.le_of_ble_eq_true rfl,rfl⟩ rfl) ?_))))
        rintro _ bo ⟨rfl,a8,bp,am⟩
        refine Ze (zD (Zb _ ac (Zb _ ad (zw (am.bsl (E:=zM) (l:=[x4]) am.fr (by rw [(zo (v:=.n x4) rfl ZaH)]; rfl) rfl) ?_))))
        rintro bD bf ⟨bz,a9,J⟩
        refine ckk hp fun aF hp=>zw (J.app (bytes:=8) 4 J.fr rfl (J.sl 5 rfl) rfl rfl (fun _=>rfl) aF (by decide)) ?_
        rintro aq bg ⟨ba,aM⟩
        refine Zb aq rfl (Zh (Zaa (Zo (zD (ckk hp fun aG hp=>Zc (zf ah rfl aG) (Zb (.n (x4 + 1)) rfl (Zh ?_)))))))
        cases hp
        exact ⟨rfl,aq,ab,ai,H,aj,ak,rfl,ae,af,ag,rfl,(aM.pk [0,1,2,3,4])⟩
       ·refine Zc1 (Zaa (Zo (zD (ckk hp fun aH hp=>Zc (zf ah rfl aH) (Zb (.n (x4 + 1)) rfl (Zh ?_))))))
        cases hp
        exact ⟨rfl,m,ab,ai,H,aj,ak,ac,ae,af,ag,rfl,(i.pk [0,1,2,3,4])⟩
      ·refine Zbo (zK ?_)
       cases hp
       exact ⟨nofun,rfl,m,N,S,T,O,P,Q,(i.pk [0,1,2,4])⟩
     rintro ⟨met2,part1⟩ hp _ bu bn ⟨rfl,o,a0,a4,a5,a1,a2,a3,I⟩
     refine Zaw (Zo (zD (Zb _ a4 (Zb _ a1 (zw (I.bsl (E:=eV) (l:=[o]) I.fr (by rw [(zo (v:=o) rfl ZaH)]; simp only [fill,(I.sl 3 rfl).cells]; simp [over]) rfl) ?_)))))
     rintro bE bh ⟨bA,bb,p⟩
     refine ckk hp fun aI hp=>zw (p.appV (bytes:=24) 0 p.fr rfl (p.sl 4 rfl) rfl rfl (by simp only [List.all_cons,List.all_nil,Bool.and_true]; exact (p.sl 3 rfl).oneV) (by rw [(p.allLen 1 rfl:(c).length=(l).length)]; exact aI) (by decide)) ?_
     rintro ar bi ⟨bc,aN⟩
     have aO:=aN.absorb 1 3 rfl rfl (by decide)
     refine Zb ar rfl (Zh (Zaa (Zo (zD (ckk hp fun aD hp=>Zc (zf a3 rfl aD) (Zb (.n (x1 + 1)) rfl (Zh ?_)))))))
     cases hp
     exact ⟨rfl,ar,c++[o],a0,rfl,a5,a2,rfl,(aO.pk [0,1,2])⟩
   ·refine Zbo (zK ?_)
    cases hp
    exact ⟨nofun,rfl,d,c,L,(j.pk [0,1])⟩
  rintro l1 hp _ bs bk ⟨rfl,q,F,aZ,aR⟩
  refine Zaw (Zo (Zk (Zb _ aZ (Zb q rfl (Zb (.n 0) rfl (Ze ?_))))))
  refine Zav (z8 (Zag rfl (Zag rfl ZQ)) ?_)
  cases hp
  exact ⟨q,F,rfl,(aR.pk [0,1])⟩

theorem ZcQ.ok {h:Hp} {cells:List Za} {v_cells:V} (s_cells:Sl Zd h v_cells cells) {r:Bool} (hp:ZcQ cells=some r) :
  ∃ u k',Is G 32 [v_cells] h u k'∧V.b r=u∧Own (fun r=>r < h.n) h k' []:=by
 refine WC.is (ZaP ZfN ?_)
 unfold ZcQ at hp
 let B:Nat→Prop:=(fun r=>r < h.n)
 have hO:Own B h h []:=Own.start0 h
 refine Zk (Zb (.b false) rfl (Ze (Zk (Zb v_cells rfl ?_))))
 obtain ⟨⟨x,x1⟩,⟨o,j,e,d,l,rfl,i⟩,hp⟩:=bdk hp fun _=>Zbc.ok (h:=h)  (hO.rd0 s_cells.rd)
 refine ZaK rfl rfl e ?_
 have c:=hO.call i rfl
 refine Zb (.tu [d,.n x1]) rfl (Zc (ZbF rfl rfl) (Zc (ZbF rfl rfl) (Zb d rfl (Zb (.n x1) rfl (Ze (Zk ?_))))))
 refine Zb (.n x1) rfl (Zc (Zb0 rfl rfl) (Zb (.b (decide (x1=0))) rfl (Zai 4 (fun f k=>j=k∧f 16=.b ((decide (x1=0)) && (decide ((x.length:Int)=1)))) ?_ ?_)))
 ·rcases bc (decide (x1=0)) with a | a
  ·refine Zu rfl a (Zb d rfl (Zu rfl a (Zc (ZgP (n:=(x).length) (c.sl 0 rfl) (c.allLen 1 rfl:(l).length=(x).length) rfl) (Zu rfl a (Zc (Zb0 rfl rfl) (Zc (ZcY rfl a rfl) (Zh ?_)))))))
   exact ⟨rfl,rfl⟩
  ·refine Zl rfl a (Zl rfl a (Zl rfl a (Zc (ZcX (w:=(decide (x1=0)) && (decide ((x.length:Int)=1))) rfl a rfl) (Zh ?_))))
   exact ⟨rfl,rfl⟩
 rintro m _ ⟨rfl,g⟩
 refine Zb _ g (Ze (Zav (z8 (Zag rfl ZQ) ?_)))
 cases hp
 exact ⟨rfl,(c.pk [])⟩

theorem ZbG.ok {h:Hp} {d:ZF} {cells:List Za} {v_cells:V} (s_cells:Sl Zd h v_cells cells) {r:Bool} (hp:ZbG d cells=some r) :
  ∃ u k',Is G 220 [.ag (Z0.c d),v_cells] h u k'∧V.b r=u∧Own (fun r=>r < h.n) h k' []:=by
 refine WC.is (ZaP Zfn ?_)
 unfold ZbG at hp
 let B:Nat→Prop:=(fun r=>r < h.n)
 have hO:Own B h h []:=Own.start0 h
 refine Zk (zw (hO.boxd (cs:=Z0.c d) hO.fr rfl rfl) ?_)
 rintro _ m ⟨k,rfl,E,A,s⟩
 refine Zb (.b false) rfl (Ze (ZB (ZfG ?_)))
 have j:=s.bump 28
 have y:=Fresh.start m 28
 have F:∀ {i:Nat},h.n≤m.n + i:=Nat.le_trans s.n (Nat.le_add_right _ _)
 refine z4 (zR (r:=k) (o:=0) rfl rfl) (z4 (zn (j.box 0 rfl) rfl rfl) (z4 (ZcZ rfl rfl) (Zbr (.b (decide (0≤d.Cell))) rfl ?_)))
 refine ifk hp (fun e hp=>?_) (fun e hp=>?_)
 ·refine Zc9 rfl e (z4 (zR (r:=k) (o:=0) rfl rfl) (Zc9 rfl e (z4 (zn (j.box 0 rfl) rfl rfl) (Zc9 rfl e (Zbr v_cells rfl (Zc9 rfl e (z4 (Zak (j.rd0 s_cells.rd) rfl) (Zc9 rfl e ?_))))))))
  refine z4 (zH rfl rfl) (z4 (ZaS (v:=.b (decide (d.Cell < (cells.length:Int)))) rfl e rfl) (Zbr (.b (decide (d.Cell < (cells.length:Int)))) rfl ?_))
  refine ifk hp (fun f hp=>?_) (fun f hp=>?_)
  ·refine Zc9 rfl f (z4 (zR (r:=k) (o:=0) rfl rfl) (Zc9 rfl f (z4 (zn (j.box 0 rfl) rfl rfl) (Zc9 rfl f ?_))))
   obtain ⟨x,⟨H,D,w,rfl,t⟩,hp⟩:=bdk hp fun _=>Zbi.ok (h:=(m.bump 28))  
   refine Zjv rfl rfl w ?_
   have C:=y.call t
   have g:=j.call t rfl
   refine z4 (ZaS (v:=.b x) rfl f rfl) (Zbr (.b x) rfl ?_)
   refine ifk hp (fun a hp=>?_) (fun a hp=>?_)
   ·refine Zc9 rfl a (Zbr v_cells rfl (Zc9 rfl a (z4 (zR (r:=k) (o:=0) rfl rfl) (Zc9 rfl a (z4 (zn (g.box 0 rfl) rfl rfl) (Zc9 rfl a (z4 (zR (r:=k) (o:=0) rfl rfl) (Zc9 rfl a ?_))))))))
    refine z4 (zn (g.box 0 rfl) rfl rfl) (Zc9 rfl a (ckk hp fun l hp=>z4 (zi (g.rd0 s_cells.rd) rfl rfl l) (Zc9 rfl a (z4 (Zbt (g.rd0 s_cells.rd) (Zg l) rfl rfl) (Zc9 rfl a (ckk hp fun p hp=>z4 (Zbj (g.rd0 s_cells.rd) (Zg l) rfl rfl p rfl) ?_))))))
    refine Zc9 rfl a (z4 (zS (g.rd0 s_cells.rd) rfl (Zg l) (zI p)) (Zc9 rfl a (z4 (ZcZ rfl rfl) (z4 (ZaS (v:=.b (decide (0≤(((gi cells (d.Cell:Int).toNat).Next).get d.Dir)))) rfl a rfl) (Zbr (.b (decide (0≤(((gi cells (d.Cell:Int).toNat).Next).get d.Dir)))) rfl (ZcA ?_))))))
    refine And.intro ?_ ?_
    ·intro q hq
     simp only [List.mem_cons,List.not_mem_nil,or_false] at hq
     rcases hq with rfl
     ·refine Zao ?_ ?_
      ·exact (fun h=>nomatch h)
      ·exact (fun h=>nomatch h)
    refine Zo (Zav (z8 (Zag rfl ZQ) ?_))
    cases hp
    exact ⟨rfl,(g.pk [])⟩
   ·refine ZaQ rfl a (ZaQ rfl a (ZaQ rfl a (ZaQ rfl a (ZaQ rfl a (ZaQ rfl a (ZaQ rfl a (ZaQ rfl a (ZaQ rfl a ?_))))))))
    refine ZaQ rfl a (z4 (ZaL (v:=.b false) rfl a rfl) (Zbr (.b false) rfl (ZcA ?_)))
    refine And.intro ?_ ?_
    ·intro q hq
     simp only [List.mem_cons,List.not_mem_nil,or_false] at hq
     rcases hq with rfl
     ·exact Zk3
    refine Zo (Zav (z8 (Zag rfl ZQ) ?_))
    cases hp
    exact ⟨rfl,(g.pk [])⟩
  ·refine ZaQ rfl f (ZaQ rfl f (ZaQ rfl f (z4 (ZaL (v:=.b false) rfl f rfl) (Zbr (.b false) rfl (ZaQ rfl rfl (ZaQ rfl rfl (ZaQ rfl rfl (ZaQ rfl rfl ?_))))))))
   refine ZaQ rfl rfl (ZaQ rfl rfl (ZaQ rfl rfl (ZaQ rfl rfl (ZaQ rfl rfl (ZaQ rfl rfl (z4 (ZaL (v:=.b false) rfl rfl rfl) (Zbr (.b false) rfl (ZcA ?_))))))))
   refine And.intro ?_ ?_
   ·intro q hq
    simp only [List.mem_cons,List.not_mem_nil,or_false] at hq
    rcases hq with rfl
    ·exact Zk3
   refine Zo (Zav (z8 (Zag rfl ZQ) ?_))
   cases hp
   exact ⟨rfl,(j.pk [])⟩
 ·refine ZaQ rfl e (ZaQ rfl e (ZaQ rfl e (ZaQ rfl e (ZaQ rfl e (z4 (ZaL (v:=.b false) rfl e rfl) (Zbr (.b false) rfl (ZaQ rfl rfl (ZaQ rfl rfl ?_))))))))
  refine ZaQ rfl rfl (z4 (ZaL (v:=.b false) rfl rfl rfl) (Zbr (.b false) rfl (ZaQ rfl rfl (ZaQ rfl rfl (ZaQ rfl rfl (ZaQ rfl rfl (ZaQ rfl rfl (ZaQ rfl rfl ?_))))))))
  refine ZaQ rfl rfl (ZaQ rfl rfl (ZaQ rfl rfl (ZaQ rfl rfl (z4 (ZaL (v:=.b false) rfl rfl rfl) (Zbr (.b false) rfl (ZcA ?_))))))
  refine And.intro ?_ ?_
  ·intro q hq
   simp only [List.mem_cons,List.not_mem_nil,or_false] at hq
   rcases hq with rfl
   ·exact Zk3
  refine Zo (Zav (z8 (Zag rfl ZQ) ?_))
  cases hp
  exact ⟨rfl,(j.pk [])⟩

theorem Za5.ok {h:Hp} {d:ZF} {cells:List Za} {v_cells:V} (s_cells:Sl Zd h v_cells cells) {r:ZF} (hp:Za5 d cells=some r) :
  ∃ u k',Is G 221 [.ag (Z0.c d),v_cells] h u k'∧V.ag (Z0.c r)=u∧Own (fun r=>r < h.n) h k' []:=by
 refine WC.is (ZaP Zeg ?_)
 unfold Za5 at hp
 let B:Nat→Prop:=(fun r=>r < h.n)
 have hO:Own B h h []:=Own.start0 h
 refine Zk (zw (hO.boxd (cs:=Z0.c d) hO.fr rfl rfl) ?_)
 rintro _ af ⟨b,rfl,ar,Y,D⟩
 refine zw (D.alloc (cs:=Z0.c (⟨0,0⟩:ZF)) D.fr) ?_
 rintro _ aj ⟨f,rfl,au,aa,Q⟩
 refine Ze (ZB (Zhw ?_))
 have a:=Q.bump 10
 refine ZaV v_cells rfl (zt rfl (zR (r:=b) (o:=0) rfl rfl) (zt rfl (zn (a.box 0 rfl) rfl rfl) (zt rfl (zR (r:=b) (o:=0) rfl rfl) (zt rfl (zn (a.box 0 rfl) rfl rfl) (ckk hp fun i hp=>zt rfl (zi (a.rd0 s_cells.rd) rfl rfl i) (zt rfl (Zbt (a.rd0 s_cells.rd) (Zg i) rfl rfl) (ckk hp fun y hp=>?_)))))))
 refine zt rfl (Zbj (a.rd0 s_cells.rd) (Zg i) rfl rfl y rfl) (zt rfl (zS (a.rd0 s_cells.rd) rfl (Zg i) (zI y)) (ZaV (.n (((gi cells (d.Cell:Int).toNat).Next).get d.Dir)) rfl (Zba (Zo (ZB (Zk (Zc (Zcx (cs:=Zdd.c (⟨1,0,(-1),2⟩:A4 Int)) (by rw [(zo (v:=.n 1) rfl (zo (v:=.n 0) rfl (zo (v:=.n (-1)) rfl (zo (v:=.n 2) rfl ZaH))))]; rfl)) ?_)))))))
 refine Zb (.n 0) rfl (Ze (zX (Zb7 hp (fun x fr k=>fr 1=v_cells∧fr 2=.p b 0∧fr 4=.p f 0∧fr 5=.n (((gi cells (d.Cell:Int).toNat).Next).get d.Dir)∧fr 18=.ag (Zdd.c (⟨1,0,(-1),2⟩:A4 Int))∧fr 19=.n x∧Own B h k [zV b (Z0.c d),zV f (Z0.c (⟨0,0⟩:ZF))]) (fun | .inl _,e,fr,k=>e=(.exit 0)∧fr 2=.p b 0∧fr 4=.p f 0∧Own B h k [zV b (Z0.c d),zV f (Z0.c (⟨0,0⟩:ZF))] | .inr x1,e,fr,k=>e=.ret∧fr 4=.p f 0∧Own B h k [zV f (Z0.c x1)]) ⟨rfl,rfl,rfl,rfl,rfl,rfl,(a.pk [0,1])⟩ ?_ ?_)))
 ·rintro x ay U ⟨H,w,l,J,I,t,m⟩ aw hp
  dsimp only [Za5.s0] at hp
  refine Zk (Zc (zH t rfl) (Ze (ZB (zC hp rfl (fun K hp=>?_) (fun K hp=>?_)))))
  ·refine Zat (ZB (zX (Zk (ckk hp fun A hp=>Zc (Zp0 (cs:=Zdd.c (⟨1,0,(-1),2⟩:A4 Int)) (z:=x) (v:=.n ((⟨1,0,(-1),2⟩:A4 Int).get x)) I t A (Zi6 A)) (Zb (.n ((⟨1,0,(-1),2⟩:A4 Int).get x)) rfl ?_)))))
   refine Ze (Zk (Zb _ J (Zc (zR (r:=b) (o:=0) w rfl) (Zc (zn (m.box 0 rfl) rfl rfl) (Zb (.n ((⟨1,0,(-1),2⟩:A4 Int).get x)) rfl ?_)))))
   obtain ⟨x2,⟨aA,al,N,rfl,S⟩,hp⟩:=bdk hp fun _=>Za2.ok (h:=U)  
   refine ZaK rfl rfl N ?_
   have F:=m.call S rfl
   refine Zc (Zcx (cs:=Z0.c (⟨((gi cells (d.Cell:Int).toNat).Next).get d.Dir,x2⟩:ZF)) (by rw [(zo (v:=.n (((gi cells (d.Cell:Int).toNat).Next).get d.Dir)) rfl (zo (v:=.n x2) rfl ZaH))]; rfl)) (zw (F.alloc (cs:=Z0.c (⟨0,0⟩:ZF)) F.fr) ?_)
   rintro _ am ⟨az,rfl,av,ab,R⟩
   refine zw (R.stb (cs':=Z0.c (⟨((gi cells (d.Cell:Int).toNat).Next).get d.Dir,x2⟩:ZF)) 2 rfl rfl rfl rfl ⟨rfl,Nat.le_of_ble_eq_true rfl,rfl⟩ rfl) ?_
   rintro _ W ⟨rfl,ac,ao,q⟩
   refine Ze (Zk (Zc (Zbu (q.box 2 rfl) rfl rfl) (Zb _ H ?_)))
   obtain ⟨x3,⟨aB,an,O,rfl,T⟩,hp⟩:=bdk hp fun _=>ZbG.ok (h:=W)  (q.rd0 s_cells.rd)
   refine ZaK rfl rfl O ?_
   have s:=q.call T rfl
   refine Ze (zC hp rfl (fun L hp=>?_) (fun L hp=>?_))
   ·refine Zk (Zc (Zbu (s.box 2 rfl) rfl rfl) (zw (s.stb (cs':=Z0.c (⟨((gi cells (d.Cell:Int).toNat).Next).get d.Dir,x2⟩:ZF)) 1 rfl l rfl rfl ⟨rfl,Nat.le_of_ble_eq_true rfl,rfl⟩ rfl) ?_))
    rintro _ ah ⟨rfl,ad,ap,P⟩
    refine Ze (Zav (Zbw (zE ?_)))
    cases hp
    exact ⟨nofun,rfl,l,(P.pk [1])⟩
   ·refine Zc1 (Zaa (Zo (zD (ckk hp fun M hp=>Zc (zf t rfl M) (Zb (.n (x + 1)) rfl (Zh ?_))))))
    cases hp
    exact ⟨rfl,H,w,l,J,I,rfl,(s.pk [0,1])⟩
  ·refine Zbo (zK ?_)
   cases hp
   exact ⟨nofun,rfl,w,l,(m.pk [0,1])⟩
 rintro (_ | x1) hp _ ax ak C
 ·obtain ⟨rfl,X,j,g⟩:=C
  refine Zaw (Zo (Zk (Zc (Zbu (g.box 0 rfl) X rfl) (zw (g.stb (cs':=Z0.c d) 1 rfl j rfl rfl ⟨rfl,Nat.le_of_ble_eq_true rfl,rfl⟩ rfl) ?_))))
  rintro _ ai ⟨rfl,ae,aq,E⟩
  refine Ze (Zav (z8 (Zgb j (E.box 1 rfl) rfl ZQ) ?_))
  cases hp
  exact ⟨rfl,(E.pk [])⟩
 ·obtain ⟨rfl,j,g⟩:=C
  refine Zbw (zE (z8 (Zgb j (g.box 0 rfl) rfl ZQ) ?_))
  cases hp
  exact ⟨rfl,(g.pk [])⟩

theorem Zaz.ok {h:Hp} {cells:List Za} {v_cells:V} (s_cells:Sl Zd h v_cells cells) {r:(List (List ZF)) × Int} (hp:Zaz cells=some r) :
  ∃ u k',Is G 203 [v_cells] h u k'∧∃ az aC,V.tu [az,.n r.2]=u∧Own (fun r=>r < h.n) h k' [eSl eV az aC,Zce Z0 aC r.1]:=by
 refine WC.is (ZaP ZfJ ?_)
 unfold Zaz at hp
 let B:Nat→Prop:=(fun r=>r < h.n)
 have hO:Own B h h []:=Own.start0 h
 refine Zk (Zb (.sn) rfl (Zb (.n 0) rfl (Ze (ZB (Zk ?_)))))
 refine Zb v_cells rfl ?_
 obtain ⟨x,⟨cp,bM,aN,rfl,a7⟩,hp⟩:=bdk hp fun _=>Zah.ok (h:=h)  (hO.rd0 s_cells.rd)
 refine ZaK rfl rfl aN ?_
 have O:=hO.call a7 rfl
 refine Zb (.n x) rfl (Ze (Zk (Zb (.n x) rfl (Zc (Zc2 rfl rfl) (Ze (zC hp rfl (fun aD hp=>?_) (fun aD hp=>?_)))))))
 ·refine Zk (Zb (.n x) rfl (Zb (.sn) rfl (Zb (.n x) rfl (Ze (Zav (zE ?_))))))
  have aW:=O.nil eV
  have a2:=aW.allNil Z0 0
  refine z8 (Zag rfl (Zag rfl ZQ)) ?_
  cases hp
  exact ⟨V.sn,[],rfl,(a2.pk [0,1])⟩
 ·refine Zat (Zk (Zb (.sn) rfl (Ze (Zk ?_))))
  refine zw (O.mkm Z0 O.fr) ?_
  rintro _ bW ⟨a,rfl,ca,bx,an⟩
  refine Zb (.mp a) rfl (Ze (ZB (Zk (Zb v_cells rfl (Zc (Zak (an.rd0 s_cells.rd) rfl) (Zb (.n 0) rfl ?_))))))
  refine Ze (zX ?_)
  have a4:=an.nil eV
  have a5:=a4.allNil Z0 0
  refine Zb7 hp (fun | (l,met,x1),fr,k=>∃ y C,fr 0=v_cells∧fr 5=y∧fr 6=.mp a∧fr 19=.n (cells.length:Int)∧fr 20=.n x1∧Own B h k [eSl eV y C,Zce Z0 C l,eMp Z0 a met]) (fun l1 e fr k=>e=(.exit 0)∧∃ A M,fr 5=A∧Own B h k [eSl eV A M,Zce Z0 M l1]) ⟨V.sn,[],rfl,rfl,rfl,rfl,rfl,(a5.pk [1,2,0])⟩ ?_ ?_
  ·rintro ⟨l,met,x1⟩ ci b1 ⟨y,C,bf,aq,bg,ap,X,ao⟩ ce hp
   dsimp only [Zaz.s0] at hp
   refine Zk (Zc (zH X ap) (Ze (ZB (zC hp rfl (fun aE hp=>?_) (fun aE hp=>?_)))))
   ·refine Zat (ZB (zX (Zk (Zb _ X (Zb (.n x1) rfl (Zh ?_))))))
    refine Zo (Zk (Zb (.n 0) rfl (Ze (zX (Zb7 hp (fun | (l2,met1,x2),fr,k=>∃ g d,fr 0=v_cells∧fr 5=g∧fr 6=.mp a∧fr 7=.n x1∧fr 19=.n (cells.length:Int)∧fr 20=.n x1∧fr 23=.n x2∧Own B h k [eSl eV g d,Zce Z0 d l2,eMp Z0 a met1]) (fun | (l3,met2),e,fr,k=>e=(.exit 2)∧∃ K N,fr 0=v_cells∧fr 5=K∧fr 6=.mp a∧fr 19=.n (cells.length:Int)∧fr 20=.n x1∧Own B h k [eSl eV K N,Zce Z0 N l3,eMp Z0 a met2]) ⟨y,C,bf,aq,bg,rfl,ap,X,rfl,(ao.pk [0,1,2])⟩ ?_ ?_)))))
    ·rintro ⟨l2,met1,x2⟩ ck b3 ⟨g,d,D,ab,H,ac,Y,aa,F,P⟩ cf hp
     dsimp only [Zaz.s1] at hp
     refine Zk (Zc (zH F rfl) (Ze (ZB (zC hp rfl (fun aF hp=>?_) (fun aF hp=>?_)))))
     ·refine Zat (ZB (zX (Zk (Zb _ F (Zb (.n x2) rfl (Zh ?_))))))
      refine Zo (Zk (Zb _ ac (Zb (.n x2) rfl (Zc (Zcx (cs:=Z0.c (⟨x1,x2⟩:ZF)) (by rw [(zo (v:=.n x1) rfl (zo (v:=.n x2) rfl ZaH))]; rfl)) (zw (P.alloc (cs:=Z0.c (⟨0,0⟩:ZF)) P.fr) ?_)))))
      rintro _ b4 ⟨bu,rfl,cb,bD,aS⟩
      refine zw (aS.stb (cs':=Z0.c (⟨x1,x2⟩:ZF)) 3 rfl rfl rfl rfl ⟨rfl,Nat.le_of_ble_eq_true rfl,rfl⟩ rfl) ?_
      rintro _ bb ⟨rfl,bE,b5,Q⟩
      refine Ze (ZB (Zk (Zc (Zbu (Q.box 3 rfl) rfl rfl) (Zb _ D ?_))))
      obtain ⟨x3,⟨cq,bd,aO,rfl,a8⟩,hp⟩:=bdk hp fun _=>ZbG.ok (h:=bb)  (Q.rd0 s_cells.rd)
      refine ZaK rfl rfl aO ?_
      have j:=Q.call a8 rfl
      refine Zc (ZcR rfl) (Zb (.b (!x3)) rfl (Zai 4 (fun f k=>bd=k∧f 37=.b ((!x3) || (ZfF false (⟨x1,x2⟩:ZF) met1))∧f 0=v_cells∧f 19=.n (cells.length:Int)∧f 20=.n x1∧f 23=.n x2∧f 5=g∧f 6=.mp a∧f 7=.n x1∧f 9=.p bu 0) ?_ ?_))
      ·rcases bc (!x3) with i | i
       ·refine Zl rfl i (Zl rfl i (Zl rfl i (Zc (Zcs (w:=(!x3) || (ZfF false (⟨x1,x2⟩:ZF) met1)) rfl i rfl) (Zh ?_))))
        exact ⟨rfl,rfl,D,Y,aa,F,ab,H,ac,rfl⟩
       ·refine Zu rfl i (Zb _ H (Zu rfl i (Zc (Zbu (j.box 3 rfl) rfl rfl) (Zu rfl i (Zc (ZnL (E:=Z0) (m:=met1) (q:=(⟨x1,x2⟩:ZF)) (j.mpP 2 rfl) rfl rfl (Mu.Z0.same)) (Zc (Zct rfl i rfl) (Zh ?_)))))))
        exact ⟨rfl,rfl,D,Y,aa,F,ab,H,ac,rfl⟩
      rintro bL _ ⟨rfl,aQ,af,ah,ai,aj,ak,al,am,aR⟩
      refine Ze (zC hp aQ (fun aG hp=>?_) (fun aG hp=>?_))
      ·refine Zbo (zK (Zaw (Zo (zD (ckk hp fun aI hp=>Zc (zf aj rfl aI) (Zb (.n (x2 + 1)) rfl (Zh ?_)))))))
       cases hp
       exact ⟨rfl,g,d,af,ak,al,am,ah,ai,rfl,(j.pk [0,1,2])⟩
      ·refine Zat (Zk (Zb (.sn) rfl (Ze (ZB (ZB ?_)))))
       refine zD (Zc (Zbu (j.box 3 rfl) aR rfl) (zw (j.alloc (cs:=Z0.c (⟨0,0⟩:ZF)) j.fr) ?_))
       rintro _ bN ⟨bv,rfl,cc,bF,aT⟩
       refine zw (aT.stb (cs':=Z0.c (⟨x1,x2⟩:ZF)) 4 rfl rfl rfl rfl ⟨rfl,Nat.le_of_ble_eq_true rfl,rfl⟩ rfl) ?_
       rintro _ bO ⟨rfl,bG,b6,aU⟩
       refine Ze (zX ?_)
       have aV:=aU.nil Z0
       refine Zb7 hp (fun | (met3,f,x4),fr,k=>∃ L ae,fr 0=v_cells∧fr 5=g∧fr 6=.mp a∧fr 7=.n x1∧fr 10=L∧fr 11=.p ae 0∧fr 19=.n (cells.length:Int)∧fr 20=.n x1∧fr 23=.n x2∧Own B h k [eSl eV g d,Zce Z0 d l2,eMp Z0 a met3,eSl Z0 L f,zV ae (Z0.c x4)]) (fun | (met4,f1),e,fr,k=>e=(.exit 4)∧∃ o,fr 0=v_cells∧fr 5=g∧fr 6=.mp a∧fr 7=.n x1∧fr 10=o∧fr 19=.n (cells.length:Int)∧fr 20=.n x1∧fr 23=.n x2∧Own B h k [eSl eV g d,Zce Z0 d l2,eMp Z0 a met4,eSl Z0 o f1]) ⟨V.sn,bv,af,ak,al,am,rfl,rfl,ah,ai,aj,(aV.pk [0,1,2,5,4])⟩ ?_ ?_
       ·rintro ⟨met3,f,x4⟩ cm bQ ⟨L,ae,ad,ax,J,ay,ar,I,au,av,aw,s⟩ cg hp
        dsimp only [Zaz.s2] at hp
        refine ZB (Zk (Zb _ J (Zc (Zbu (s.box 4 rfl) I rfl) (Zc (ZnL (E:=Z0) (m:=met3) (q:=x4) (s.mpP 2 rfl) rfl rfl (Mu.Z0.same)) (Zc (ZcR rfl) (Ze (zC hp rfl (fun aH hp=>?_) (fun aH hp=>?_))))))))
        ·refine Zat (ZB (zX (Zk (Zb _ J (Zc (Zbu (s.box 4 rfl) I rfl) (zw (s.mup (E:=Z0) (m:=met3) (q:=x4) (v:=true) 2 rfl rfl rfl rfl (Mu.Z0.same)) ?_))))))
         rintro _ bR ⟨rfl,bH,b7,S⟩
         refine Ze (zD (Zb _ ar (Zc (Zbu (S.box 4 rfl) I rfl) (zw (S.bsl (E:=Z0) (l:=[x4]) S.fr (by rw [(zo (v:=.ag (Z0.c x4)) rfl ZaH)]; rfl) rfl) ?_))))
         rintro cu bS ⟨cn,bI,T⟩
         refine ckk hp fun aJ hp=>zw (T.app (bytes:=16) 3 T.fr rfl (T.sl 5 rfl) rfl rfl (fun _=>rfl) aJ (by decide)) ?_
         rintro aB bT ⟨bJ,U⟩
         refine Zb aB rfl (Zh (Zaa (Zo (ZB (Zk (Zc (Zbu (U.box 4 rfl) I rfl) (Zh ?_)))))))
         refine Zo (zD (zw (U.alloc (cs:=Z0.c (⟨0,0⟩:ZF)) U.fr) ?_))
         rintro _ bU ⟨bw,rfl,cd,bK,aX⟩
         refine zw (aX.stb (cs':=Z0.c x4) 6 rfl rfl rfl rfl ⟨rfl,Nat.le_of_ble_eq_true rfl,rfl⟩ rfl) ?_
         rintro _ ba ⟨rfl,bz,b8,W⟩
         refine Ze (zD (Zc (Zbu (W.box 6 rfl) rfl rfl) (Zb _ ad ?_)))
         obtain ⟨x5,⟨cr,bV,aP,rfl,a9⟩,hp⟩:=bdk hp fun _=>Za5.ok (h:=ba)  (W.rd0 s_cells.rd)
         refine ZaK rfl rfl aP ?_
         have aY:=W.call a9 rfl
         refine zw (aY.stb (cs':=Z0.c x5) 6 rfl rfl rfl rfl ⟨rfl,Nat.le_of_ble_eq_true rfl,rfl⟩ rfl) ?_
         rintro _ bX ⟨rfl,bA,b9,aZ⟩
         refine Zh ?_
         cases hp
         exact ⟨rfl,aB,bw,ad,ax,J,ay,rfl,rfl,au,av,aw,(aZ.pk [0,1,2,3,6])⟩
        ·refine Zbo (zK ?_)
         cases hp
         exact ⟨nofun,rfl,L,ad,ax,J,ay,ar,au,av,aw,(s.pk [0,1,2,3])⟩
       rintro ⟨met4,f1⟩ hp _ cl bP ⟨rfl,o,bm,br,bs,bt,bn,bo,bp,bq,R⟩
       refine Zaw (Zo (zD (Zb _ br (Zb _ bn (zw (R.bsl (E:=eV) (l:=[o]) R.fr (by rw [(zo (v:=o) rfl ZaH)]; simp only [fill,(R.sl 3 rfl).cells]; simp [over]) rfl) ?_)))))
       rintro ct bY ⟨co,bB,t⟩
       refine ckk hp fun aK hp=>zw (t.appV (bytes:=24) 0 t.fr rfl (t.sl 4 rfl) rfl rfl (by simp only [List.all_cons,List.all_nil,Bool.and_true]; exact (t.sl 3 rfl).oneV) (by rw [(t.allLen 1 rfl:(d).length=(l2).length)]; exact aK) (by decide)) ?_
       rintro aA bZ ⟨bC,a0⟩
       have a1:=a0.absorb 1 3 rfl rfl (by decide)
       refine Zb aA rfl (Zh (Zaa (Zo (zD (ckk hp fun aL hp=>Zc (zf bq rfl aL) (Zb (.n (x2 + 1)) rfl (Zh ?_)))))))
       cases hp
       exact ⟨rfl,aA,d++[o],bm,rfl,bs,bt,bo,bp,rfl,(a1.pk [0,1,2])⟩
     ·refine Zbo (zK ?_)
      cases hp
      exact ⟨nofun,rfl,g,d,D,ab,H,Y,aa,(P.pk [0,1,2])⟩
    rintro ⟨l3,met2⟩ hp _ cj b2 ⟨rfl,K,N,bh,bk,bl,bi,bj,a6⟩
    refine Zaw (Zaa (Zo (zD (ckk hp fun aM hp=>Zc (zf bj rfl aM) (Zb (.n (x1 + 1)) rfl (Zh ?_))))))
    cases hp
    exact ⟨rfl,K,N,bh,bk,bl,bi,rfl,(a6.pk [0,1,2])⟩
   ·refine Zbo (zK ?_)
    cases hp
    exact ⟨nofun,rfl,y,C,aq,(ao.pk [0,1])⟩
  rintro l1 hp _ ch b0 ⟨rfl,A,M,be,a3⟩
  refine Zaw (Zo (Zk (Zb _ be (Zb A rfl (Zb (.n 0) rfl (Ze ?_))))))
  refine Zav (z8 (Zag rfl (Zag rfl ZQ)) ?_)
  cases hp
  exact ⟨A,M,rfl,(a3.pk [0,1])⟩

theorem Zc6.ok {h:Hp} {d:Int} {e_:Int}   {r:Int} (hp:Zc6 d e_=some r) :
  ∃ u k',Is G 222 [.n d,.n e_] h u k'∧V.n r=u∧Own (fun r=>r < h.n) h k' []:=by
 refine WC.is (ZaP Zfm ?_)
 unfold Zc6 at hp
 let B:Nat→Prop:=(fun r=>r < h.n)
 have hO:Own B h h []:=Own.start0 h
 refine Zk (Zb (.n 0) rfl (Ze (ZB (Zk (Zb (.n d) rfl ?_)))))
 obtain ⟨x,⟨J,E,o,rfl,A⟩,hp⟩:=bdk hp fun _=>Zbi.ok (h:=h)  
 refine ZaK rfl rfl o ?_
 have g:=hO.call A rfl
 refine Zc (ZcR rfl) (Zb (.b (!x)) rfl ?_)
 obtain ⟨t,D,hp⟩:=ZaZ hp
 refine Zai 4 (fun f k=>Own B h k []∧f 12=.b t∧f 0=.n d∧f 1=.n e_) ?_ ?_
 ·clear hp; rcases Zbn D with ⟨a,hp⟩ | ⟨a,hp⟩
  ·refine Zl rfl a (Zl rfl a (Zl rfl a (Zc (ZaS (v:=.b t) rfl a (Eq.trans (b:=V.b true) rfl (congrArg V.b (Option.some.inj hp)))) (Zh ?_))))
   exact ⟨g.pick [] rfl (by decide),rfl,rfl,rfl⟩
  ·refine Zu rfl a (Zb (.n e_) rfl (Zu rfl a ?_))
   obtain ⟨x1,⟨K,H,p,rfl,C⟩,hp⟩:=bdk hp fun _=>Zbi.ok (h:=E)  
   refine ZaK rfl rfl p ?_
   have y:=g.call C rfl
   refine Zu rfl a (Zc (ZcR rfl) (Zc (ZaL (v:=.b t) rfl a (Eq.trans (b:=V.b (!x1)) rfl (congrArg V.b (Option.some.inj hp)))) (Zh ?_)))
   exact ⟨y.pick [] rfl (by decide),rfl,rfl,rfl⟩
 rintro F I ⟨i,w,q,s⟩
 refine Ze (zC hp w (fun j hp=>?_) (fun j hp=>?_))
 ·refine Zk (Zb (.n 0) rfl (Ze (Zav (zE (z8 (Zag rfl ZQ) ?_)))))
  cases hp
  exact ⟨rfl,(i.pk [])⟩
 ·refine Zat (Zk (Zc (Zcx (cs:=Zdd.c (⟨0,1,(-2),(-1)⟩:A4 Int)) (by rw [(zo (v:=.n 0) rfl (zo (v:=.n 1) rfl (zo (v:=.n (-2)) rfl (zo (v:=.n (-1)) rfl ZaH))))]; rfl)) (Zb _ s (Zb _ q (ckk hp fun l hp=>Zc (Zjz rfl rfl l) ?_)))))
  refine ckk hp fun m hp=>Zc (zf rfl rfl m) (Zc (ZcL rfl rfl (by decide)) (ckk hp fun e hp=>Zc (Zp0 (cs:=Zdd.c (⟨0,1,(-2),(-1)⟩:A4 Int)) (z:=(((e_ - d) + 4).tmod 4)) (v:=.n ((⟨0,1,(-2),(-1)⟩:A4 Int).get (((e_ - d) + 4).tmod 4))) rfl rfl e (Zi6 e)) (Zb (.n ((⟨0,1,(-2),(-1)⟩:A4 Int).get (((e_ - d) + 4).tmod 4))) rfl (Ze (Zav ?_)))))
  refine z8 (Zag rfl ZQ) ?_
  cases hp
  exact ⟨rfl,(i.pk [])⟩

theorem ZbA.ok {h:Hp} {cells:List Za} {f:List ZF} {v_cells:V} {v_f:V} (s_cells:Sl Zd h v_cells cells) (s_f:Sl Z0 h v_f f) {r:(List Int)} (hp:ZbA cells f=some r) :
  ∃ u k',Is G 204 [v_cells,v_f] h u k'∧∃ M,M=u∧Own (fun r=>r < h.n) h k' [eSl zM M r]:=by
 refine WC.is (ZaP ZfK ?_)
 unfold ZbA at hp
 let B:Nat→Prop:=(fun r=>r < h.n)
 have hO:Own B h h []:=Own.start0 h
 refine Zk (Zb (.sn) rfl (Ze (Zk (Zb v_f rfl (Zc (Zak (hO.rd0 s_f.rd) rfl) ?_)))))
 refine ckk hp fun Q hp=>zw (hO.mks (E:=zM) (y:=(0:Int)) (bytes:=8) (z:=(f.length:Int)) hO.fr rfl rfl rfl Q (by decide)) ?_
 rintro a ai ⟨aG,an,J⟩
 refine Zb a rfl (Ze (ZB (Zk (Zb v_cells rfl ?_))))
 obtain ⟨x,⟨aH,av,T,rfl,ag⟩,hp⟩:=bdk hp fun _=>Zah.ok (h:=ai)  (J.rd0 s_cells.rd)
 refine ZaK rfl rfl T ?_
 have s:=J.call ag rfl
 refine Zc (Zc2 rfl rfl) (Ze (zC hp rfl (fun N hp=>?_) (fun N hp=>?_)))
 ·refine Zk (Zb a rfl (Zb a rfl (Ze (Zav (zE (z8 (Zag rfl ZQ) ?_))))))
  cases hp
  exact ⟨a,rfl,(s.pk [0])⟩
 ·refine Zat (ZB (Zk (Zb v_f rfl (Zc (Zak (s.rd0 s_f.rd) rfl) (Zb (.n 0) rfl (Zh ?_))))))
  refine Zo (zX (Zb7 hp (fun | (l,x1),fr,k=>fr 0=v_cells∧fr 5=a∧fr 15=v_f∧fr 16=.n (f.length:Int)∧fr 17=.n x1∧Own B h k [eSl zM a l]) (fun l1 e fr k=>e=(.exit 0)∧fr 5=a∧Own B h k [eSl zM a l1]) ⟨rfl,rfl,rfl,rfl,rfl,(s.pk [0])⟩ ?_ ?_))
  ·rintro ⟨l,x1⟩ aF ax ⟨m,p,C,D,d,b⟩ aD hp
   dsimp only [ZbA.s0] at hp
   refine Zk (Zc (zH d D) (Ze (ZB (zC hp rfl (fun O hp=>?_) (fun O hp=>?_)))))
   ·refine Zat (ZB (zX (Zk (Zb _ d (ckk hp fun F hp=>Zc (zi (b.rd0 s_f.rd) C d F) ?_)))))
    refine Zc (Zdu (b.rd0 s_f.rd) rfl (Zg F)) (zw (b.alloc (cs:=Z0.c (⟨0,0⟩:ZF)) b.fr) ?_)
    rintro _ ay ⟨am,rfl,aB,ao,ae⟩
    refine Zb (.n x1) rfl (zw (ae.stb (cs':=Z0.c (gi f x1.toNat)) 1 rfl rfl rfl rfl ⟨rfl,Nat.le_of_ble_eq_true rfl,rfl⟩ rfl) ?_)
    rintro _ aj ⟨rfl,ap,az,t⟩
    refine Ze (Zk (Zc (Zbu (t.box 1 rfl) rfl rfl) (Zb _ m ?_)))
    obtain ⟨x2,⟨aI,A,U,rfl,ah⟩,hp⟩:=bdk hp fun _=>ZbG.ok (h:=aj)  (t.rd0 s_cells.rd)
    refine ZaK rfl rfl U ?_
    have g:=t.call ah rfl
    refine Ze (zC hp rfl (fun P hp=>?_) (fun P hp=>?_))
    ·refine ZfG ?_
     have j:=g.bump 11
     have I:=Fresh.start A 11
     have aC:∀ {i:Nat},h.n≤A.n + i:=Nat.le_trans g.n (Nat.le_add_right _ _)
     refine Zbr _ p (Zbr (.n x1) rfl (z4 (zR (r:=am) (o:=0) rfl rfl) (z4 (zn (j.box 1 rfl) rfl rfl) (z4 (Zbu (j.box 1 rfl) rfl rfl) (Zbr _ m ?_)))))
     obtain ⟨x3,⟨aJ,ak,W,rfl,w⟩,hp⟩:=bdk hp fun _=>Za5.ok (h:=(A.bump 11))  (j.rd0 s_cells.rd)
     refine Zjv rfl rfl W ?_
     have aa:=I.call w
     have af:=j.call w rfl
     refine z4 (ZnK (cs:=Z0.c x3) (v:=.n x3.Dir) rfl rfl) ?_
     obtain ⟨x4,⟨aK,ar,X,rfl,L⟩,hp⟩:=bdk hp fun _=>Zc6.ok (h:=ak)  
     refine Zjv rfl rfl X ?_
     have ab:=aa.call L
     have K:=af.call L rfl
     refine ckk hp fun H hp=>z4 (zi (K.sl 0 rfl) rfl rfl H) (Ze8 (K.ste (y:=x4) 0 rfl rfl (Zg H) rfl rfl ⟨rfl,Nat.le_of_ble_eq_true rfl,rfl⟩ rfl) ?_)
     rintro _ au aL ⟨rfl,Y,aA,ac⟩
     have aq:=ab.kept Y (by decide)
     refine ZcA ?_
     refine And.intro ?_ ?_
     ·intro q hq
      simp only [List.mem_cons,List.not_mem_nil,or_false] at hq
      rcases hq with rfl | rfl
      ·refine Zao ?_ ?_
       ·exact (fun h=>nomatch h)
       ·exact (fun h=>nomatch h)
      ·refine Zj0 rfl rfl ?_
       ·exact (fun r hm hc=>hc (w.base r (Nat.lt_of_lt_of_le (g.ltAt 1 rfl _ (tch (Zcp hm) rfl)) (Nat.le_trans (Nat.le_add_right _ _) I.n))))
     refine Zaa (Zo (zD (ckk hp fun R hp=>Zc (zf d rfl R) (Zb (.n (x1 + 1)) rfl (Zh ?_)))))
     cases hp
     exact ⟨rfl,m,p,C,D,rfl,(ac.pk [0])⟩
    ·refine Zc1 (Zaa (Zo (zD (ckk hp fun S hp=>Zc (zf d rfl S) (Zb (.n (x1 + 1)) rfl (Zh ?_))))))
     cases hp
     exact ⟨rfl,m,p,C,D,rfl,(g.pk [0])⟩
   ·refine Zbo (zK ?_)
    cases hp
    exact ⟨nofun,rfl,p,(b.pk [0])⟩
  rintro l1 hp _ aE aw ⟨rfl,al,ad⟩
  refine Zaw (Zo (Zk (Zb _ al (Zb a rfl (Ze (Zav ?_))))))
  refine z8 (Zag rfl ZQ) ?_
  cases hp
  exact ⟨a,rfl,(ad.pk [0])⟩

theorem Zb2.ok {h:Hp} {turns:List Int} {v_turns:V} (s_turns:Sl zM h v_turns turns) {r:Int} (hp:Zb2 turns=some r) :
  ∃ u k',Is G 219 [v_turns] h u k'∧V.n r=u∧Own (fun r=>r < h.n) h k' []:=by
 refine WC.is (ZaP ZeU ?_)
 unfold Zb2 at hp
 let B:Nat→Prop:=(fun r=>r < h.n)
 have hO:Own B h h []:=Own.start0 h
 refine Zk (Zb (.n 0) rfl (Ze (Zk (Zb (.n 0) rfl (Zh ?_)))))
 refine Zo (ZB (Zk (Zb v_turns rfl (Zc (Zak (hO.rd0 s_turns.rd) rfl) (Zb (.n 0) rfl (Ze ?_))))))
 refine zX (Zb7 hp (fun | (n,x),fr,k=>fr 3=.n n∧fr 6=v_turns∧fr 7=.n (turns.length:Int)∧fr 8=.n x∧Own B h k []) (fun n1 e fr k=>e=(.exit 0)∧fr 3=.n n1∧Own B h k []) ⟨rfl,rfl,rfl,rfl,(hO.pk [])⟩ ?_ ?_)
 ·rintro ⟨n,x⟩ M F ⟨g,i,j,d,c⟩ K hp
  dsimp only [Zb2.s0] at hp
  refine Zk (Zc (zH d j) (Ze (ZB (zC hp rfl (fun s hp=>?_) (fun s hp=>?_)))))
  ·refine Zat (ZB (zX (Zk (ckk hp fun l hp=>Zc (zi (c.rd0 s_turns.rd) i d l) (Zc (zS (c.rd0 s_turns.rd) rfl (Zg l) rfl) ?_)))))
   refine Zb (.n (gi turns x.toNat)) rfl (Ze (Zk (Zb (.n (gi turns x.toNat)) rfl (Zc (ZcZ rfl rfl) (Zb (.b (decide ((-2)≤(gi turns x.toNat)))) rfl (Zai 3 (fun f k=>F=k∧f 17=.b ((decide ((-2)≤(gi turns x.toNat))) && (decide ((gi turns x.toNat)≤1)))∧f 3=.n n∧f 5=.n (gi turns x.toNat)∧f 6=v_turns∧f 7=.n (turns.length:Int)∧f 8=.n x) ?_ ?_))))))
   ·rcases bc (decide ((-2)≤(gi turns x.toNat))) with a | a
    ·refine Zu rfl a (Zb (.n (gi turns x.toNat)) rfl (Zu rfl a (Zc (Zk0 rfl rfl) (Zc (ZcY rfl a rfl) (Zh ?_)))))
     exact ⟨rfl,rfl,g,rfl,i,j,d⟩
    ·refine Zl rfl a (Zl rfl a (Zc (ZcX (w:=(decide ((-2)≤(gi turns x.toNat))) && (decide ((gi turns x.toNat)≤1))) rfl a rfl) (Zh ?_)))
     exact ⟨rfl,rfl,g,rfl,i,j,d⟩
   rintro I _ ⟨rfl,C,m,D,o,p,q⟩
   refine Ze (zC hp C (fun t hp=>?_) (fun t hp=>?_))
   ·refine zD (Zb _ m (Zb _ D (ckk hp fun v hp=>Zc (zf rfl rfl v) (Zb (.n (n + (gi turns x.toNat))) rfl (Zh (Zaa (Zo ?_)))))))
    refine zD (ckk hp fun y hp=>Zc (zf q rfl y) (Zb (.n (x + 1)) rfl (Zh ?_)))
    cases hp
    exact ⟨rfl,rfl,o,p,rfl,(c.pk [])⟩
   ·refine Zc1 (Zaa (Zo (zD (ckk hp fun A hp=>Zc (zf q rfl A) (Zb (.n (x + 1)) rfl (Zh ?_))))))
    cases hp
    exact ⟨rfl,m,o,p,rfl,(c.pk [])⟩
  ·refine Zbo (zK ?_)
   cases hp
   exact ⟨nofun,rfl,g,(c.pk [])⟩
 rintro n1 hp _ L J ⟨rfl,H,E⟩
 refine Zaw (Zo (Zk (Zb _ H (Zb (.n n1) rfl (Ze (Zav ?_))))))
 refine z8 (Zag rfl ZQ) ?_
 cases hp
 exact ⟨rfl,(E.pk [])⟩

theorem ZbI.ok {h:Hp} {cells:List Za} {v_cells:V} (s_cells:Sl Zd h v_cells cells) {r:Int × Bool} (hp:ZbI cells=some r) :
  ∃ u k',Is G 201 [v_cells] h u k'∧V.tu [.n r.1,.b r.2]=u∧Own (fun r=>r < h.n) h k' []:=by
 refine WC.is (ZaP ZfC ?_)
 unfold ZbI at hp
 let B:Nat→Prop:=(fun r=>r < h.n)
 have hO:Own B h h []:=Own.start0 h
 refine Zk (Zb (.n 0) rfl (Zb (.b false) rfl (Ze (Zk (Zb v_cells rfl ?_)))))
 obtain ⟨⟨x,x1⟩,⟨X,Q,H,f,c,rfl,K⟩,hp⟩:=bdk hp fun _=>Zaz.ok (h:=h)  (hO.rd0 s_cells.rd)
 refine ZaK rfl rfl H ?_
 have j:=hO.call K rfl
 refine Zb (.tu [f,.n x1]) rfl (Zc (ZbF rfl rfl) (Zc (ZbF rfl rfl) (Zb f rfl (Zb (.n x1) rfl (Ze (Zk ?_))))))
 refine Zb (.n (-1)) rfl (Ze (ZB (Zk (Zb f rfl (Zc (ZgP (n:=(x).length) (j.sl 0 rfl) (j.allLen 1 rfl:(c).length=(x).length) rfl) (Zb (.n 0) rfl ?_))))))
 refine Ze (zX (Zb7 hp (fun | (at_,x2),fr,k=>fr 0=v_cells∧fr 6=.n at_∧fr 14=f∧fr 15=.n (x.length:Int)∧fr 16=.n x2∧Own B h k [eSl eV f c,Zce Z0 c x]) (fun | .inl at_1,e,fr,k=>e=(.exit 0)∧fr 6=.n at_1∧Own B h k [] | .inr _,e,fr,k=>e=.ret∧fr 2=.n 0∧fr 3=.b false∧Own B h k []) ⟨rfl,rfl,rfl,rfl,rfl,(j.pk [0,1])⟩ ?_ ?_))
 ·rintro ⟨at_,x2⟩ W v ⟨m,q,o,p,d,a⟩ T hp
  dsimp only [ZbI.s0] at hp
  refine Zk (Zc (zH d p) (Ze (ZB (zC hp rfl (fun y hp=>?_) (fun y hp=>?_)))))
  ·refine Zat (ZB (zX (Zk (Zb _ d (ckk hp fun i hp=>Zc (zi (a.sl 0 rfl) o d (by rw [(a.allLen 1 rfl:(c).length=(x).length)]; exact i)) ?_)))))
   refine Zc (zS (a.sl 0 rfl) rfl (by rw [(a.allLen 1 rfl:(c).length=(x).length)]; exact Zg i) rfl) (Zb (.n x2) rfl (Zb ((gi c x2.toNat)) rfl (Ze (Zk (Zb _ m (Zb ((gi c x2.toNat)) rfl ?_))))))
   obtain ⟨x3,⟨Y,N,I,ab,rfl,L⟩,hp⟩:=bdk hp fun _=>ZbA.ok (h:=v)  (a.rd0 s_cells.rd) (a.inn 1 rfl (Zg i):Sl Z0 v (gi c x2.toNat) (gi x x2.toNat))
   refine ZaK rfl rfl I ?_
   have t:=a.call L rfl
   obtain ⟨x4,⟨aa,S,J,rfl,M⟩,hp⟩:=bdk hp fun _=>Zb2.ok (h:=N)  (t.sl 2 rfl)
   refine ZaK rfl rfl J ?_
   have g:=t.call M rfl
   refine Ze (zX (Zk (Zc (Zb0 rfl rfl) (Zb (.b (decide (x4=4))) rfl (Ze (zC hp rfl (fun A hp=>?_) (fun A hp=>?_)))))))
   ·refine Zc1 (Zaa (Zaa (Zo (zD (ckk hp fun E hp=>Zc (zf d rfl E) (Zb (.n (x2 + 1)) rfl (Zh ?_)))))))
    cases hp
    exact ⟨rfl,m,q,o,p,rfl,(g.pk [0,1])⟩
   ·refine Zk (Zc (Zb0 rfl rfl) (Zb (.b (decide (x4=(-4)))) rfl (Ze (zC hp rfl (fun C hp=>?_) (fun C hp=>?_)))))
    ·refine ZB (Zk (Zb _ q (Zc (ZcZ rfl rfl) (Ze (zC hp rfl (fun D hp=>?_) (fun D hp=>?_))))))
     ·refine Zk (Zb (.n 0) rfl (Zb (.b false) rfl (Ze (Zav (zE (Zbw ?_))))))
      refine Zbw (zE ?_)
      cases hp
      exact ⟨nofun,rfl,rfl,rfl,(g.pk [])⟩
     ·refine Zat (zD (Zb (.n x2) rfl (Zb (.n x2) rfl (Zh (Zaa (Zaa (Zo ?_)))))))
      refine zD (ckk hp fun F hp=>Zc (zf d rfl F) (Zb (.n (x2 + 1)) rfl (Zh ?_)))
      cases hp
      exact ⟨rfl,m,rfl,o,p,rfl,(g.pk [0,1])⟩
    ·refine Zk (Zb (.n 0) rfl (Zb (.b false) rfl (Ze (Zav (Zbw (Zbw ?_))))))
     refine zE ?_
     cases hp
     exact ⟨nofun,rfl,rfl,rfl,(g.pk [])⟩
  ·refine Zbo (zK ?_)
   cases hp
   exact ⟨nofun,rfl,q,(a.pk [])⟩
 rintro (at_1 | _) hp _ U R s
 ·obtain ⟨rfl,w,l⟩:=s
  refine Zaw (Zo (Zk (Zb _ w (Zb _ w (Zc (ZcZ rfl rfl) (Zb (.n at_1) rfl (Zb (.b (decide (0≤at_1))) rfl ?_)))))))
  refine Ze (Zav (z8 (Zag rfl (Zag rfl ZQ)) ?_))
  cases hp
  exact ⟨rfl,(l.pk [])⟩
 ·obtain ⟨rfl,O,P,l⟩:=s
  refine Zbw (zE (z8 (Zag O (Zag P ZQ)) ?_))
  cases hp
  exact ⟨rfl,(l.pk [])⟩

theorem ZcJ.ok {h:Hp} {cells:List Za} {v_cells:V} (s_cells:Sl Zd h v_cells cells) {r:Int} (hp:ZcJ cells=some r) :
  ∃ u k',Is G 176 [v_cells] h u k'∧V.n r=u∧Own (fun r=>r < h.n) h k' []:=by
 refine WC.is (ZaP ZfB ?_)
 unfold ZcJ at hp
 let B:Nat→Prop:=(fun r=>r < h.n)
 have hO:Own B h h []:=Own.start0 h
 refine Zk (Zb (.n 0) rfl (Ze (ZB (Zk (Zb v_cells rfl ?_)))))
 obtain ⟨x,⟨D,v,l,rfl,q⟩,hp⟩:=bdk hp fun _=>Zah.ok (h:=h)  (hO.rd0 s_cells.rd)
 refine ZaK rfl rfl l ?_
 have c:=hO.call q rfl
 refine Zb (.n x) rfl (Ze (Zk (Zb (.n x) rfl (Zc (Zc2 rfl rfl) (Ze (zC hp rfl (fun g hp=>?_) (fun g hp=>?_)))))))
 ·refine Zk (Zb (.n x) rfl (Zb (.n x) rfl (Ze (Zav (zE (z8 (Zag rfl ZQ) ?_))))))
  cases hp
  exact ⟨rfl,(c.pk [])⟩
 ·refine Zat (ZB (Zk (Zb v_cells rfl ?_)))
  obtain ⟨x1,⟨E,y,m,rfl,s⟩,hp⟩:=bdk hp fun _=>ZcQ.ok (h:=v)  (c.rd0 s_cells.rd)
  refine ZaK rfl rfl m ?_
  have d:=c.call s rfl
  refine Zc (ZcR rfl) (Ze (zC hp rfl (fun i hp=>?_) (fun i hp=>?_)))
  ·refine Zk (Zb (.n 13) rfl (Ze (Zav (zE (z8 (Zag rfl ZQ) ?_)))))
   cases hp
   exact ⟨rfl,(d.pk [])⟩
  ·refine Zat (ZB (Zk (Zb v_cells rfl ?_)))
   obtain ⟨⟨x2,x3⟩,⟨F,A,o,rfl,t⟩,hp⟩:=bdk hp fun _=>ZbI.ok (h:=y)  (d.rd0 s_cells.rd)
   refine ZaK rfl rfl o ?_
   have e:=d.call t rfl
   refine Zb (.tu [.n x2,.b x3]) rfl (Zc (ZbF rfl rfl) (Zc (ZbF rfl rfl) (Zb (.n x2) rfl (Zb (.b x3) rfl (Ze (Zk ?_))))))
   refine Zb (.b x3) rfl (Zc (ZcR rfl) (Zb (.b (!x3)) rfl (Zai 4 (fun f k=>A=k∧f 25=.b ((!x3) && (decide (1 < (cells.length:Int))))) ?_ ?_)))
   ·rcases bc (!x3) with a | a
    ·refine Zu rfl a (Zb v_cells rfl (Zu rfl a (Zc (Zak (e.rd0 s_cells.rd) rfl) (Zu rfl a (Zc (ZdC rfl rfl) (Zc (ZcY rfl a rfl) (Zh ?_)))))))
     exact ⟨rfl,rfl⟩
    ·refine Zl rfl a (Zl rfl a (Zl rfl a (Zc (ZcX (w:=(!x3) && (decide (1 < (cells.length:Int)))) rfl a rfl) (Zh ?_))))
     exact ⟨rfl,rfl⟩
   rintro C _ ⟨rfl,p⟩
   refine Ze (zC hp p (fun j hp=>?_) (fun j hp=>?_))
   ·refine Zk (Zb (.n 10) rfl (Ze (Zav (zE (z8 (Zag rfl ZQ) ?_)))))
    cases hp
    exact ⟨rfl,(e.pk [])⟩
   ·refine Zat (Zk (Zb (.n 0) rfl (Ze (Zav (z8 (Zag rfl ZQ) ?_)))))
    cases hp
    exact ⟨rfl,(e.pk [])⟩

theorem Zbk.ok {h:Hp} {s:List Za} {v_s:V} (s_s:Sl Zd h v_s s) {r:List Za} (hp:Zbk s=some r) :
  ∃ u k',Is G 51 [v_s] h u k'∧∃ v,v=u∧Own (fun r=>r < h.n) h k' [eSl Zd v r]:=by
 refine WC.is (ZaP Zdp ?_)
 obtain ⟨c1,hp⟩:=ZiT hp
 cases hp
 have hO:Own (fun r=>r < h.n) h h []:=Own.start0 h
 refine Zk (Zb (.sn) rfl (Ze (ZB (Zk (Zb v_s rfl ?_)))))
 rcases ZoV s_s with ⟨rfl,rfl⟩ | hn
 ·refine Zc (v:=.b true) rfl (Ze (Zpt rfl rfl (Zk (Zb (.sn) rfl (Ze ?_)))))
  refine Zav (zE (z8 (Zag rfl ZQ) ?_))
  exact ⟨.sn,rfl,hO.nil Zd⟩
 ·refine Zc (Zpy (v:=v_s) hn rfl rfl) (Ze (ZkS rfl rfl (Zat (Zk (zw (hO.bsl (E:=Zd) (l:=[]) hO.fr rfl rfl) ?_)))))
  rintro v1 k1 ⟨r1,f1,hW⟩
  have hO1:Own (fun r=>r < h.n) h k1 [eSl Zd v1 []]:=hW
  refine Zb v_s rfl (zw (hO1.app (bytes:=64) 0 hO1.fr rfl (hO1.rd0 s_s.rd) rfl rfl (fun _=>rfl) (by simpa using c1) (by decide)) ?_)
  rintro v2 k2 ⟨f2,hW⟩
  have hO2:Own (fun r=>r < h.n) h k2 [eSl Zd v2 ([]++s)]:=hW
  refine Zb v2 rfl (Ze (Zav (z8 (Zag rfl ZQ) ?_)))
  exact ⟨v2,rfl,hO2⟩

theorem Zed.ok {h:Hp} {cells:List Za} {v_cells:V} (s_cells:Sl Zd h v_cells cells) {r:(Option ZaY) × Int} (hp:Zed cells=some r) :
  ∃ u k',Is G 119 [v_cells] h u k'∧∃ d f,V.tu [(if (r.1).isSome=true then V.p d 0 else V.pn),.n r.2]=u∧Own (fun r=>r < h.n) h k' [eIf (r.1).isSome (zV d [f]),eIf (r.1).isSome (eSl Zd f ((r.1.getD default).cells))]:=by
 refine WC.is (ZaP Zhj ?_)
 unfold Zed at hp
 let B:Nat→Prop:=(fun r=>r < h.n)
 have hO:Own B h h []:=Own.start0 h
 refine Zk (Zb (.pn) rfl (Zb (.n 0) rfl (Ze (ZB (Zk ?_)))))
 refine Zb v_cells rfl ?_
 obtain ⟨x,⟨y,o,i,rfl,l⟩,hp⟩:=bdk hp fun _=>Zah.ok (h:=h)  (hO.rd0 s_cells.rd)
 refine ZaK rfl rfl i ?_
 have b:=hO.call l rfl
 refine Zb (.n x) rfl (Ze (Zk (Zb (.n x) rfl (Zc (Zc2 rfl rfl) (Ze (zC hp rfl (fun g hp=>?_) (fun g hp=>?_)))))))
 ·refine Zk (Zb (.n x) rfl (Zb (.pn) rfl (Zb (.n x) rfl (Ze (Zav (zE ?_))))))
  refine z8 (Zag rfl (Zag rfl ZQ)) ?_
  cases hp
  exact ⟨0,V.sn,rfl,(b.pk [900,901])⟩
 ·refine Zat (Zk (Zb v_cells rfl ?_))
  obtain ⟨x1,⟨A,s,j,a,rfl,m⟩,hp⟩:=bdk hp fun _=>Zbk.ok (h:=o)  (b.rd0 s_cells.rd)
  refine ZaK rfl rfl j ?_
  have c:=b.call m rfl
  refine Zc (Zcx (cs:=[a]) (by rw [(zo (v:=a) rfl ZaH)]; simp [fill,over,ZiP,ZiN,ZiO,ZiR,ZiM,ZiQ,(c.sl 0 rfl).cells])) (zw (c.boxd (cs:=[a]) c.fr rfl rfl) ?_)
  rintro _ t ⟨e,rfl,w,q,k⟩
  refine Zb (.p e 0) rfl (Zb (.n 0) rfl (Ze (Zav (z8 (Zag rfl (Zag rfl ZQ)) ?_))))
  cases hp
  exact ⟨e,a,rfl,(k.pk [1,0])⟩

theorem ZbL.ok {h:Hp} {g:ZaY} {r_g:Nat} {v_g_cells:V} {w_g:Bool} (b_g:h.m r_g=some (.cells w_g [v_g_cells])) (s_g_cells:Sl Zd h v_g_cells g.cells) {r:(List Za)} (hp:ZbL g=some r) :
  ∃ u k',Is G 57 [.p r_g 0] h u k'∧∃ a,a=u∧Own (fun r=>r < h.n) h k' [eSl Zd a r]:=by
 refine WC.is (ZaP Ze1 ?_)
 unfold ZbL at hp
 let B:Nat→Prop:=(fun r=>r < h.n)
 have hO:Own B h h []:=Own.start0 h
 refine Zk (Zb (.sn) rfl (Ze (ZB (Zk (Zb (.p r_g 0) rfl ?_)))))
 refine Zc (Zlx rfl rfl) (Ze (ZkS rfl rfl (Zat (Zk (Zb (.p r_g 0) rfl ?_)))))
 refine Zc (ZfQ rfl) (Zc (zR (r:=r_g) (o:=0) rfl rfl) (Zc (zn (hO.rdB0 (RdB.of b_g)).choose_spec rfl rfl) ?_))
 obtain ⟨x,⟨i,f,c,b,rfl,e⟩,hp⟩:=bdk hp fun _=>Zbk.ok (h:=h)  (hO.rd0 s_g_cells.rd)
 refine ZaK rfl rfl c ?_
 have d:=hO.call e rfl
 refine Zb b rfl (Ze (Zav (z8 (Zag rfl ZQ) ?_)))
 cases hp
 exact ⟨b,rfl,(d.pk [0])⟩

theorem ZaE.ok {h:Hp} {s:List Int} {f:Int→Option Bool} {v_s:V} {id_f:Nat} {cap_f:List V} (s_s:Sl zM h v_s s) (f_f:∀ (k:Hp) (x0:Int) (y:Bool),Ex' (fun r=>r < h.n) h k→f x0=some y→∃ u k',Is G id_f (.n x0 :: cap_f) k u k'∧V.b y=u∧Own (fun r=>r < k.n) k k' []) {r:Int} (hp:ZaE s f=some r) :
  ∃ u k',Is G 91 [v_s,.f id_f cap_f] h u k'∧V.n r=u∧Own (fun r=>r < h.n) h k' []:=by
 refine WC.is (ZaP Zdt ?_)
 unfold ZaE at hp
 let B:Nat→Prop:=(fun r=>r < h.n)
 have hO:Own B h h []:=Own.start0 h
 refine Zk (Zb (.n 0) rfl (Ze (ZB (Zk (Zb v_s rfl ?_)))))
 refine Zc (Zak (hO.rd0 s_s.rd) rfl) (Zb (.n 0) rfl (Ze (zX (Zb7 hp (fun x fr k=>fr 0=v_s∧fr 1=.f id_f cap_f∧fr 7=.n (s.length:Int)∧fr 8=.n x∧Own B h k []) (fun | .inl _,e,fr,k=>e=(.exit 0)∧Own B h k [] | .inr x1,e,fr,k=>e=.ret∧fr 4=.n x1∧Own B h k []) ⟨rfl,rfl,rfl,rfl,(hO.pk [])⟩ ?_ ?_))))
 ·rintro x J E ⟨l,m,o,d,a⟩ H hp
  dsimp only [ZaE.s0] at hp
  refine Zk (Zc (zH d o) (Ze (ZB (zC hp rfl (fun p hp=>?_) (fun p hp=>?_)))))
  ·refine Zat (ZB (zX (Zk (Zb _ d (Zb (.n x) rfl (Zh ?_))))))
   refine Zo (Zk (Zb _ m (Zb _ l (Zb (.n x) rfl (ckk hp fun g hp=>Zc (zi (a.rd0 s_s.rd) rfl rfl g) (Zc (zS (a.rd0 s_s.rd) rfl (Zg g) rfl) ?_))))))
   obtain ⟨x2,A,hp⟩:=ZaZ hp
   obtain ⟨K,F,v,rfl,w⟩:=f_f _ _ _ a.ext A
   refine ZaK rfl rfl v ?_
   have j:=a.call w rfl
   refine Ze (zC hp rfl (fun q hp=>?_) (fun q hp=>?_))
   ·refine Zk (Zb (.n x) rfl (Zb (.n x) rfl (Ze (Zav (Zbw (zE ?_))))))
    cases hp
    exact ⟨nofun,rfl,rfl,(j.pk [])⟩
   ·refine Zc1 (Zaa (Zo (zD (ckk hp fun t hp=>Zc (zf d rfl t) (Zb (.n (x + 1)) rfl (Zh ?_))))))
    cases hp
    exact ⟨rfl,l,m,o,rfl,(j.pk [])⟩
  ·refine Zbo (zK ?_)
   cases hp
   exact ⟨nofun,rfl,(a.pk [])⟩
 rintro (_ | x1) hp _ I D i
 ·obtain ⟨rfl,c⟩:=i
  refine Zaw (Zo (Zk (Zb (.n (-1)) rfl (Ze (Zav (z8 (Zag rfl ZQ) ?_))))))
  cases hp
  exact ⟨rfl,(c.pk [])⟩
 ·obtain ⟨rfl,C,c⟩:=i
  refine Zbw (zE (z8 (Zag C ZQ) ?_))
  cases hp
  exact ⟨rfl,(c.pk [])⟩

theorem Zb8.ok {h:Hp} {s:List Int} {f:Int→Option Bool} {v_s:V} {id_f:Nat} {cap_f:List V} (s_s:Sl zM h v_s s) (f_f:∀ (k:Hp) (x0:Int) (y:Bool),Ex' (fun r=>r < h.n) h k→f x0=some y→∃ u k',Is G id_f (.n x0 :: cap_f) k u k'∧V.b y=u∧Own (fun r=>r < k.n) k k' []) {r:Bool} (hp:Zb8 s f=some r) :
  ∃ u k',Is G 78 [v_s,.f id_f cap_f] h u k'∧V.b r=u∧Own (fun r=>r < h.n) h k' []:=by
 refine WC.is (ZaP ZcW ?_)
 unfold Zb8 at hp
 let B:Nat→Prop:=(fun r=>r < h.n)
 have hO:Own B h h []:=Own.start0 h
 refine Zk (Zb (.b false) rfl (Ze (Zk (Zb v_s rfl (Zb (.f id_f cap_f) rfl ?_)))))
 obtain ⟨x,⟨g,e,a,rfl,d⟩,hp⟩:=bdk hp fun _=>ZaE.ok (h:=h)  (hO.rd0 s_s.rd) (fun k z0 y hk hx=>f_f k z0 y (Zqp hO hk) hx)
 refine ZaK rfl rfl a ?_
 have c:=hO.call d rfl
 refine Zc (ZcZ rfl rfl) (Zb (.b (decide (0≤x))) rfl (Ze (Zav (z8 (Zag rfl ZQ) ?_))))
 cases hp
 exact ⟨rfl,(c.pk [])⟩

theorem ZcD.ok {h:Hp} {t:Int}   {r:Bool} (hp:ZcD t=some r) :
  ∃ u k',Is G 80 [.n t] h u k'∧V.b r=u∧Own (fun r=>r < h.n) h k' []:=by
 refine WC.is (ZaP ZeY ?_)
 unfold ZcD at hp
 let B:Nat→Prop:=(fun r=>r < h.n)
 have hO:Own B h h []:=Own.start0 h
 refine Zk (Zb (.b false) rfl (Ze (Zk (Zb (.n t) rfl (Zc (zH rfl rfl) ?_)))))
 refine Zb (.b (decide (t < (-2)))) rfl (Zai 3 (fun f k=>h=k∧f 8=.b ((decide (t < (-2))) || (decide (1 < t)))) ?_ ?_)
 ·rcases bc (decide (t < (-2))) with a | a
  ·refine Zl rfl a (Zl rfl a (Zc (Zcs (w:=(decide (t < (-2))) || (decide (1 < t))) rfl a rfl) (Zh ?_)))
   exact ⟨rfl,rfl⟩
  ·refine Zu rfl a (Zb (.n t) rfl (Zu rfl a (Zc (ZdC rfl rfl) (Zc (Zct rfl a rfl) (Zh ?_)))))
   exact ⟨rfl,rfl⟩
 rintro d _ ⟨rfl,c⟩
 refine Zb _ c (Ze (Zav (z8 (Zag rfl ZQ) ?_)))
 cases hp
 exact ⟨rfl,(hO.pk [])⟩

theorem ZcI.ok {h:Hp} {turns:List Int} {v_turns:V} (s_turns:Sl zM h v_turns turns) {r:Bool} (hp:ZcI turns=some r) :
  ∃ u k',Is G 59 [v_turns] h u k'∧V.b r=u∧Own (fun r=>r < h.n) h k' []:=by
 refine WC.is (ZaP ZfA ?_)
 unfold ZcI at hp
 let B:Nat→Prop:=(fun r=>r < h.n)
 have hO:Own B h h []:=Own.start0 h
 refine Zk (Zb (.b false) rfl (Ze (Zk (Zb v_turns rfl ?_))))
 obtain ⟨x,⟨f,e,a,rfl,d⟩,hp⟩:=bdk hp fun _=>Zb8.ok (h:=h)  (hO.rd0 s_turns.rd) (fun k z0 y hk hx=>ZcD.ok (h:=k)  hx)
 refine ZaK rfl rfl a ?_
 have c:=hO.call d rfl
 refine Zc (ZcR rfl) (Zb (.b (!x)) rfl (Ze (Zav (z8 (Zag rfl ZQ) ?_))))
 cases hp
 exact ⟨rfl,(c.pk [])⟩

end Mu
