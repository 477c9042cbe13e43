/- The code comes to what was worked out. -/
import Derived.Test.YtfdidkebomeiaaaMuDf
import Derived.Test.YtfdidkebomeiaaaMuPa
import Derived.Test.YtfdidkebomeiaaaMuC2
set_option linter.unusedVariables false
set_option linter.unnecessarySimpa false
set_option linter.unusedSimpArgs false
set_option maxHeartbeats 2000000
set_option maxRecDepth 10000
namespace Mu
open Go (IntKind BinOp UnOp)
theorem Za3.ok {h:Hp} {turns:List Int} {v_turns:V} (s_turns:Sl zM h v_turns turns) {r:(List Z9)} (hp:Za3 turns=some r) :
  ∃ u k',Is G 19 [v_turns] h u k'∧∃ H,H=u∧Own (fun r=>r < h.n) h k' [eSl Z3 H r]:=by
 refine WC.is (ZaP ZeX ?_)
 unfold Za3 at hp
 let B:Nat→Prop:=(fun r=>r < h.n)
 have hO:Own B h h []:=Own.start0 h
 refine Zk (Zb (.sn) rfl (Ze (Zk (Zb (.sn) rfl (Zh ?_)))))
 refine Zo (ZB (Zk (Zb v_turns rfl (Zc (Zak (hO.rd0 s_turns.rd) rfl) (Zb (.n 0) rfl (Ze ?_))))))
 refine zX ?_
 have S:=hO.nil Z3
 refine Zb7 hp (fun | (l,x),fr,k=>∃ a,fr 3=a∧fr 7=v_turns∧fr 8=.n (turns.length:Int)∧fr 9=.n x∧Own B h k [eSl Z3 a l]) (fun l1 e fr k=>e=(.exit 0)∧∃ f,fr 3=f∧Own B h k [eSl Z3 f l1]) ⟨V.sn,rfl,rfl,rfl,rfl,(S.pk [0])⟩ ?_ ?_
 ·rintro ⟨l,x⟩ ao af ⟨a,o,p,q,d,b⟩ al hp
  dsimp only [Za3.s0] at hp
  refine Zk (Zc (zH d q) (Ze (ZB (zC hp rfl (fun J hp=>?_) (fun J hp=>?_)))))
  ·refine Zat (ZB (zX (Zk (Zb _ d (ckk hp fun t hp=>Zc (zi (b.rd0 s_turns.rd) p d t) ?_)))))
   refine Zc (zS (b.rd0 s_turns.rd) rfl (Zg t) rfl) (Zb (.n x) rfl (Zb (.n (gi turns x.toNat)) rfl (Ze (ZB (Zk (Zb (.n (gi turns x.toNat)) rfl ?_))))))
   refine Zc (zH rfl rfl) (Ze (zC hp rfl (fun K hp=>?_) (fun K hp=>?_)))
   ·refine Zbo (zK (Zaw (Zo (zD (ckk hp fun M hp=>Zc (zf d rfl M) (Zb (.n (x + 1)) rfl (Zh ?_)))))))
    cases hp
    exact ⟨rfl,a,o,p,q,rfl,(b.pk [0])⟩
   ·refine Zat (Zk (Zb (.n (gi turns x.toNat)) rfl (ckk hp fun N hp=>Zc (Zly rfl N) (Zb (.n 0) rfl (Zh ?_)))))
    refine Zo (zX (Zb7 hp (fun | (l2,x1),fr,k=>∃ g,fr 3=g∧fr 4=.n x∧fr 7=v_turns∧fr 8=.n (turns.length:Int)∧fr 9=.n x∧fr 17=.n (-(gi turns x.toNat))∧fr 18=.n x1∧Own B h k [eSl Z3 g l2]) (fun l3 e fr k=>e=(.exit 2)∧∃ i,fr 3=i∧fr 7=v_turns∧fr 8=.n (turns.length:Int)∧fr 9=.n x∧Own B h k [eSl Z3 i l3]) ⟨a,o,rfl,p,q,d,rfl,rfl,(b.pk [0])⟩ ?_ ?_))
    ·rintro ⟨l2,x1⟩ aq ai ⟨g,y,A,C,D,F,w,s,j⟩ am hp
     dsimp only [Za3.s1] at hp
     refine Zk (Zc (zH s w) (Ze (ZB (zC hp rfl (fun L hp=>?_) (fun L hp=>?_)))))
     ·refine Zat (ZB (zX (Zk (Zb _ s (Zb (.n x1) rfl (Zh ?_))))))
      refine Zo (zD (Zb _ y (Zb _ A (Zb (.n x1) rfl (Zc (Zcx (cs:=Z3.c (⟨x,x1⟩:Z9)) (by rw [(zo (v:=.n x) rfl (zo (v:=.n x1) rfl ZaH))]; rfl)) (zw (j.bsl (E:=Z3) (l:=[(⟨x,x1⟩:Z9)]) j.fr (by rw [(zo (v:=.ag (Z3.c (⟨x,x1⟩:Z9))) rfl ZaH)]; rfl) rfl) ?_))))))
      rintro au aj ⟨ar,ac,m⟩
      refine ckk hp fun O hp=>zw (m.app (bytes:=16) 0 m.fr rfl (m.sl 1 rfl) rfl rfl (fun _=>rfl) O (by decide)) ?_
      rintro I ak ⟨ad,U⟩
      refine Zb I rfl (Zh (Zaa (Zo (zD (ckk hp fun P hp=>Zc (zf s rfl P) (Zb (.n (x1 + 1)) rfl (Zh ?_)))))))
      cases hp
      exact ⟨rfl,I,rfl,A,C,D,F,w,rfl,(U.pk [0])⟩
     ·refine Zbo (zK ?_)
      cases hp
      exact ⟨nofun,rfl,g,y,C,D,F,(j.pk [0])⟩
    rintro l3 hp _ ap ah ⟨rfl,i,X,Y,aa,ab,T⟩
    refine Zaw (Zaa (Zo (zD (ckk hp fun Q hp=>Zc (zf ab rfl Q) (Zb (.n (x + 1)) rfl (Zh ?_))))))
    cases hp
    exact ⟨rfl,i,X,Y,aa,rfl,(T.pk [0])⟩
  ·refine Zbo (zK ?_)
   cases hp
   exact ⟨nofun,rfl,a,o,(b.pk [0])⟩
 rintro l1 hp _ an ae ⟨rfl,f,W,R⟩
 refine Zaw (Zo (Zk (Zb _ W (Zb f rfl (Ze (Zav ?_))))))
 refine z8 (Zag rfl ZQ) ?_
 cases hp
 exact ⟨f,rfl,(R.pk [0])⟩

theorem ZbV.ok {h:Hp} {turns:List Int} {v_turns:V} (s_turns:Sl zM h v_turns turns) {r:(List Int)} (hp:ZbV turns=some r) :
  ∃ u k',Is G 62 [v_turns] h u k'∧∃ q,q=u∧Own (fun r=>r < h.n) h k' [eSl zM q r]:=by
 refine WC.is (ZaP ZfP ?_)
 unfold ZbV at hp
 let B:Nat→Prop:=(fun r=>r < h.n)
 have hO:Own B h h []:=Own.start0 h
 refine Zk (Zb (.sn) rfl (Ze (Zk (Zb v_turns rfl (Zc (Zak (hO.rd0 s_turns.rd) rfl) ?_)))))
 refine ckk hp fun t hp=>Zc (zf rfl rfl t) (ckk hp fun v hp=>zw (hO.mks (E:=zM) (y:=(0:Int)) (bytes:=8) (z:=((turns.length:Int) + 1)) hO.fr rfl rfl rfl v (by decide)) ?_)
 rintro b I ⟨Q,F,m⟩
 refine Zb b rfl (Ze (ZB (Zk (Zb v_turns rfl (Zc (Zak (m.rd0 s_turns.rd) rfl) (Zb (.n 0) rfl ?_))))))
 refine Ze (zX (Zb7 hp (fun | (l,x),fr,k=>fr 3=b∧fr 10=v_turns∧fr 11=.n (turns.length:Int)∧fr 12=.n x∧Own B h k [eSl zM b l]) (fun l1 e fr k=>e=(.exit 0)∧fr 3=b∧Own B h k [eSl zM b l1]) ⟨rfl,rfl,rfl,rfl,(m.pk [0])⟩ ?_ ?_))
 ·rintro ⟨l,x⟩ P K ⟨d,o,p,c,a⟩ N hp
  dsimp only [ZbV.s0] at hp
  refine Zk (Zc (zH c p) (Ze (ZB (zC hp rfl (fun s hp=>?_) (fun s hp=>?_)))))
  ·refine Zat (ZB (zX (Zk (Zb _ c (ckk hp fun f hp=>Zc (zi (a.rd0 s_turns.rd) o c f) ?_)))))
   refine Zc (zS (a.rd0 s_turns.rd) rfl (Zg f) rfl) (Zb (.n x) rfl (Zb (.n (gi turns x.toNat)) rfl (Ze (zD (Zb _ d (Zb (.n x) rfl (ckk hp fun g hp=>?_)))))))
   refine Zc (zf rfl rfl g) (Zb _ d (Zb (.n x) rfl (ckk hp fun i hp=>Zc (zi (a.sl 0 rfl) rfl rfl i) (Zc (zS (a.sl 0 rfl) rfl (Zg i) rfl) (Zb (.n (gi turns x.toNat)) rfl (ckk hp fun w hp=>Zc (zf rfl rfl w) ?_))))))
   refine ckk hp fun j hp=>Zc (zi (a.sl 0 rfl) rfl rfl j) (zw (a.ste (y:=((gi l x.toNat) + (gi turns x.toNat))) 0 rfl rfl (Zg j) rfl rfl ⟨rfl,Nat.le_of_ble_eq_true rfl,rfl⟩ rfl) ?_)
   rintro _ L ⟨rfl,H,M,C⟩
   refine Zh (Zaa (Zo (zD (Zc (zf c rfl g) (Zb (.n (x + 1)) rfl (Zh ?_))))))
   cases hp
   exact ⟨rfl,d,o,p,rfl,(C.pk [0])⟩
  ·refine Zbo (zK ?_)
   cases hp
   exact ⟨nofun,rfl,d,(a.pk [0])⟩
 rintro l1 hp _ O J ⟨rfl,D,A⟩
 refine Zaw (Zo (Zk (Zb _ D (Zb b rfl (Ze (Zav ?_))))))
 refine z8 (Zag rfl ZQ) ?_
 cases hp
 exact ⟨b,rfl,(A.pk [0])⟩

theorem Zdi.ok {h:Hp} {l:List Int} {a:Z9} {b:Z9} {v_l:V} (s_l:Sl zM h v_l l) {r:Int} (hp:Zdi l a b=some r) :
  ∃ u k',Is G 61 [v_l,.ag (Z3.c a),.ag (Z3.c b)] h u k'∧V.n r=u∧Own (fun r=>r < h.n) h k' []:=by
 refine WC.is (ZaP Zgj ?_)
 unfold Zdi at hp
 let B:Nat→Prop:=(fun r=>r < h.n)
 have hO:Own B h h []:=Own.start0 h
 refine Zk (zw (hO.boxd (cs:=Z3.c a) hO.fr rfl rfl) ?_)
 rintro _ R ⟨i,rfl,S,N,v⟩
 refine zw (v.boxd (cs:=Z3.c b) v.fr rfl rfl) ?_
 rintro _ x ⟨j,rfl,T,O,M⟩
 refine Zb (.n 0) rfl (Ze (ZB (Zhw ?_)))
 have d:=M.bump 18
 refine ZaV v_l rfl (zt rfl (zR (r:=j) (o:=0) rfl rfl) (zt rfl (zn (d.box 1 rfl) rfl rfl) (ckk hp fun m hp=>zt rfl (zi (d.rd0 s_l.rd) rfl rfl m) (zt rfl (zS (d.rd0 s_l.rd) rfl (Zg m) rfl) (zt rfl (zR (r:=j) (o:=0) rfl rfl) (zt rfl (zn (d.box 1 rfl) rfl rfl) (ckk hp fun A hp=>?_)))))))
 refine zt rfl (Zjz rfl rfl A) (ZaV v_l rfl (zt rfl (zR (r:=i) (o:=0) rfl rfl) (zt rfl (zn (d.box 0 rfl) rfl rfl) (ckk hp fun p hp=>zt rfl (zi (d.rd0 s_l.rd) rfl rfl p) (zt rfl (zS (d.rd0 s_l.rd) rfl (Zg p) rfl) (zt rfl (zR (r:=i) (o:=0) rfl rfl) (zt rfl (zn (d.box 0 rfl) rfl rfl) ?_)))))))
 refine ckk hp fun C hp=>zt rfl (Zjz rfl rfl C) (ckk hp fun D hp=>zt rfl (Zjz rfl rfl D) (ZaV (.n (((gi l (b.At:Int).toNat) - b.Part) - ((gi l (a.At:Int).toNat) - a.Part))) rfl (Zba (Zo (ZB (ZB ?_))))))
 refine zD (Zc (zR (r:=j) (o:=0) rfl rfl) (Zc (zn (d.box 1 rfl) rfl rfl) (Zc (zR (r:=i) (o:=0) rfl rfl) (Zc (zn (d.box 0 rfl) rfl rfl) (Zc (zH rfl rfl) (Zb (.b (decide (b.At < a.At))) rfl (Zai 13 (fun f k=>(x.bump 18)=k∧f 43=.b ((decide (b.At < a.At)) || ((decide (b.At=a.At)) && (decide (b.Part < a.Part))))∧f 0=v_l∧f 7=.n (((gi l (b.At:Int).toNat) - b.Part) - ((gi l (a.At:Int).toNat) - a.Part))) ?_ ?_)))))))
 ·rcases bc (decide (b.At < a.At)) with e | e
  ·refine Zl rfl e (Zl rfl e (Zl rfl e (Zl rfl e (Zl rfl e (Zl rfl e (ZhC rfl (ZhC rfl (ZhC rfl ?_))))))))
   refine ZhC rfl (ZhC rfl (Zl rfl e (Zc (Zcs (w:=(decide (b.At < a.At)) || ((decide (b.At=a.At)) && (decide (b.Part < a.Part)))) rfl e rfl) (Zh ?_))))
   exact ⟨rfl,rfl,rfl,rfl⟩
  ·refine Zu rfl e (Zc (zR (r:=j) (o:=0) rfl rfl) (Zu rfl e (Zc (zn (d.box 1 rfl) rfl rfl) (Zu rfl e (Zc (zR (r:=i) (o:=0) rfl rfl) (Zu rfl e (Zc (zn (d.box 0 rfl) rfl rfl) (Zu rfl e ?_))))))))
   refine Zc (Zb0 rfl rfl) (Zu rfl e (Zb (.b (decide (b.At=a.At))) rfl (Zai 6 (fun f k=>(x.bump 18)=k∧f 42=.b ((decide (b.At=a.At)) && (decide (b.Part < a.Part)))∧f 0=v_l∧f 30=.b (decide (b.At < a.At))∧f 7=.n (((gi l (b.At:Int).toNat) - b.Part) - ((gi l (a.At:Int).toNat) - a.Part))) ?_ ?_)))
   ·rcases bc (decide (b.At=a.At)) with g | g
    ·refine Zu rfl g (Zc (zR (r:=j) (o:=0) rfl rfl) (Zu rfl g (Zc (zn (d.box 1 rfl) rfl rfl) (Zu rfl g (Zc (zR (r:=i) (o:=0) rfl rfl) (Zu rfl g (Zc (zn (d.box 0 rfl) rfl rfl) (Zu rfl g ?_))))))))
     refine Zc (zH rfl rfl) (Zu rfl e (Zc (ZcY rfl g rfl) (Zh ?_)))
     exact ⟨rfl,rfl,rfl,rfl,rfl⟩
    ·refine Zl rfl g (Zl rfl g (Zl rfl g (Zl rfl g (Zl rfl g (Zu rfl e (Zc (ZcX (w:=(decide (b.At=a.At)) && (decide (b.Part < a.Part))) rfl g rfl) (Zh ?_)))))))
     exact ⟨rfl,rfl,rfl,rfl,rfl⟩
   rintro P _ ⟨rfl,J,H,I,K⟩
   refine Zc (Zct I e J) (Zh ?_)
   exact ⟨rfl,rfl,H,K⟩
 rintro Q _ ⟨rfl,L,s,t⟩
 refine Ze (zC hp L (fun y hp=>?_) (fun y hp=>?_))
 ·refine zD (Zb _ t (Zb _ s (Zb _ s (Zc (Zak (d.rd0 s_l.rd) rfl) (ckk hp fun E hp=>Zc (Zjz rfl rfl E) (ckk hp fun q hp=>Zc (zi (d.rd0 s_l.rd) rfl rfl q) ?_))))))
  refine Zc (zS (d.rd0 s_l.rd) rfl (Zg q) rfl) (ckk hp fun F hp=>Zc (zf rfl rfl F) (Zb (.n ((((gi l (b.At:Int).toNat) - b.Part) - ((gi l (a.At:Int).toNat) - a.Part)) + (gi l ((l.length:Int) - 1:Int).toNat))) rfl (Ze (Zk (Zb (.n ((((gi l (b.At:Int).toNat) - b.Part) - ((gi l (a.At:Int).toNat) - a.Part)) + (gi l ((l.length:Int) - 1:Int).toNat))) rfl ?_)))))
  refine Zb (.n ((((gi l (b.At:Int).toNat) - b.Part) - ((gi l (a.At:Int).toNat) - a.Part)) + (gi l ((l.length:Int) - 1:Int).toNat))) rfl (Ze (Zav (z8 (Zag rfl ZQ) ?_)))
  cases hp
  exact ⟨rfl,(d.pk [])⟩
 ·refine Zat (Zk (Zb _ t (Zb (.n (((gi l (b.At:Int).toNat) - b.Part) - ((gi l (a.At:Int).toNat) - a.Part))) rfl (Ze (Zav ?_)))))
  refine z8 (Zag rfl ZQ) ?_
  cases hp
  exact ⟨rfl,(d.pk [])⟩

theorem ZaO.ok {h:Hp} {turns:List Int} {v_turns:V} (s_turns:Sl zM h v_turns turns) {r:Z9 × Z9 × Bool} (hp:ZaO turns=some r) :
  ∃ u k',Is G 24 [v_turns] h u k'∧V.tu [.ag (Z3.c r.1),.ag (Z3.c r.2.1),.b r.2.2]=u∧Own (fun r=>r < h.n) h k' []:=by
 refine WC.is (ZaP ZfO ?_)
 unfold ZaO at hp
 let B:Nat→Prop:=(fun r=>r < h.n)
 have hO:Own B h h []:=Own.start0 h
 refine Zk (zw (hO.alloc (cs:=Z3.c (⟨0,0⟩:Z9)) hO.fr) ?_)
 rintro _ ba ⟨a,rfl,bx,aZ,S⟩
 refine zw (S.alloc (cs:=Z3.c (⟨0,0⟩:Z9)) S.fr) ?_
 rintro _ aO ⟨d,rfl,bz,a2,U⟩
 refine Zb (.b false) rfl (Ze (ZB (Zk (Zb v_turns rfl ?_))))
 obtain ⟨x,⟨bK,aP,av,rfl,aJ⟩,hp⟩:=bdk hp fun _=>ZcI.ok (h:=aO)  (U.rd0 s_turns.rd)
 refine ZaK rfl rfl av ?_
 have F:=U.call aJ rfl
 refine Zc (ZcR rfl) (Ze (zC hp rfl (fun an hp=>?_) (fun an hp=>?_)))
 ·refine Zk (Zc (Zcx (cs:=Z3.c (⟨(0:Int),(0:Int)⟩:Z9)) (by rw [ZaH]; rfl)) (Zc (Zcx (cs:=Z3.c (⟨(0:Int),(0:Int)⟩:Z9)) (by rw [ZaH]; rfl)) (zw (F.stb (cs':=Z3.c (⟨(0:Int),(0:Int)⟩:Z9)) 0 rfl rfl rfl rfl ⟨rfl,Nat.le_of_ble_eq_true rfl,rfl⟩ rfl) ?_)))
  rintro _ bk ⟨rfl,a3,bp,aI⟩
  refine zw (aI.stb (cs':=Z3.c (⟨(0:Int),(0:Int)⟩:Z9)) 1 rfl rfl rfl rfl ⟨rfl,Nat.le_of_ble_eq_true rfl,rfl⟩ rfl) ?_
  rintro _ bl ⟨rfl,a4,bq,H⟩
  refine Zb (.b false) rfl (Ze (Zav (zE (z8 (Zgb rfl (H.box 0 rfl) rfl (Zgb rfl (H.box 1 rfl) rfl (Zag rfl ZQ))) ?_))))
  cases hp
  exact ⟨rfl,(H.pk [])⟩
 ·refine Zat (Zk (Zb v_turns rfl ?_))
  obtain ⟨x1,⟨bL,aQ,aw,f,rfl,aK⟩,hp⟩:=bdk hp fun _=>Za3.ok (h:=aP)  (F.rd0 s_turns.rd)
  refine ZaK rfl rfl aw ?_
  have W:=F.call aK rfl
  refine Zb v_turns rfl ?_
  obtain ⟨x2,⟨bM,bm,ax,g,rfl,aL⟩,hp⟩:=bdk hp fun _=>ZbV.ok (h:=aQ)  (W.rd0 s_turns.rd)
  refine ZaK rfl rfl ax ?_
  have X:=W.call aL rfl
  refine Zb f rfl (Zb g rfl (Ze (ZB (Zk (Zb f rfl (Zc (Zak (X.sl 2 rfl) rfl) ?_))))))
  refine Zb (.n 0) rfl (Ze (zX (Zb7 hp (fun x3 fr k=>fr 2=.p a 0∧fr 3=.p d 0∧fr 5=f∧fr 6=g∧fr 20=f∧fr 21=.n (x1.length:Int)∧fr 22=.n x3∧Own B h k [zV a (Z3.c (⟨0,0⟩:Z9)),zV d (Z3.c (⟨0,0⟩:Z9)),eSl Z3 f x1,eSl zM g x2]) (fun | .inl _,e,fr,k=>e=(.exit 0)∧fr 2=.p a 0∧fr 3=.p d 0∧Own B h k [zV a (Z3.c (⟨0,0⟩:Z9)),zV d (Z3.c (⟨0,0⟩:Z9))] | .inr (x4,x5),e,fr,k=>e=.ret∧fr 2=.p a 0∧fr 3=.p d 0∧fr 4=.b true∧Own B h k [zV a (Z3.c x4),zV d (Z3.c x5)]) ⟨rfl,rfl,rfl,rfl,rfl,rfl,rfl,(X.pk [0,1,2,3])⟩ ?_ ?_)))
  ·rintro x3 bG bo ⟨aa,ad,ae,aS,ab,ac,I,s⟩ bD hp
   dsimp only [ZaO.s0] at hp
   refine Zk (Zc (zH I ac) (Ze (ZB (zC hp rfl (fun ao hp=>?_) (fun ao hp=>?_)))))
   ·refine Zat (ZB (zX (Zk (ckk hp fun O hp=>Zc (zi (s.sl 2 rfl) ab I O) (Zc (Zdu (s.sl 2 rfl) rfl (Zg O)) ?_)))))
    refine zw (s.alloc (cs:=Z3.c (⟨0,0⟩:Z9)) s.fr) ?_
    rintro _ bb ⟨am,rfl,bA,a5,aD⟩
    refine zw (aD.stb (cs':=Z3.c (gi x1 x3.toNat)) 4 rfl rfl rfl rfl ⟨rfl,Nat.le_of_ble_eq_true rfl,rfl⟩ rfl) ?_
    rintro _ bc ⟨rfl,a6,br,T⟩
    refine Ze (Zk (Zb _ ae (Zc (Zak (T.sl 2 rfl) rfl) (Zb (.n 0) rfl (Ze ?_)))))
    refine zX (Zb7 hp (fun x6 fr k=>fr 2=.p a 0∧fr 3=.p d 0∧fr 5=f∧fr 6=g∧fr 8=.p am 0∧fr 20=f∧fr 21=.n (x1.length:Int)∧fr 22=.n x3∧fr 26=f∧fr 27=.n (x1.length:Int)∧fr 28=.n x6∧Own B h k [zV a (Z3.c (⟨0,0⟩:Z9)),zV d (Z3.c (⟨0,0⟩:Z9)),eSl Z3 f x1,eSl zM g x2,zV am (Z3.c (gi x1 x3.toNat))]) (fun | .inl _,e,fr,k=>e=(.exit 2)∧fr 2=.p a 0∧fr 3=.p d 0∧fr 5=f∧fr 6=g∧fr 20=f∧fr 21=.n (x1.length:Int)∧fr 22=.n x3∧Own B h k [zV a (Z3.c (⟨0,0⟩:Z9)),zV d (Z3.c (⟨0,0⟩:Z9)),eSl Z3 f x1,eSl zM g x2] | .inr x7,e,fr,k=>e=.ret∧fr 2=.p a 0∧fr 3=.p d 0∧fr 4=.b true∧Own B h k [zV a (Z3.c (gi x1 x3.toNat)),zV d (Z3.c x7)]) ⟨aa,ad,ae,aS,rfl,ab,ac,I,rfl,rfl,rfl,(T.pk [0,1,2,3,4])⟩ ?_ ?_)
    ·rintro x6 bI be ⟨t,A,al,M,N,af,ah,ai,aj,ak,L,l⟩ bE hp
     dsimp only [ZaO.s1] at hp
     refine Zk (Zc (zH L ak) (Ze (ZB (zC hp rfl (fun ap hp=>?_) (fun ap hp=>?_)))))
     ·refine Zat (ZB (zX (Zk (ckk hp fun P hp=>Zc (zi (l.sl 2 rfl) aj L P) (Zc (Zdu (l.sl 2 rfl) rfl (Zg P)) ?_)))))
      refine zw (l.alloc (cs:=Z3.c (⟨0,0⟩:Z9)) l.fr) ?_
      rintro _ bf ⟨bJ,rfl,bB,a7,aE⟩
      refine zw (aE.stb (cs':=Z3.c (gi x1 x6.toNat)) 5 rfl rfl rfl rfl ⟨rfl,Nat.le_of_ble_eq_true rfl,rfl⟩ rfl) ?_
      rintro _ aN ⟨rfl,a8,bs,v⟩
      refine Ze (Zk (Zb _ M (Zc (Zbu (v.box 4 rfl) N rfl) (Zc (Zbu (v.box 5 rfl) rfl rfl) ?_))))
      obtain ⟨x8,⟨bN,Y,ay,rfl,aM⟩,hp⟩:=bdk hp fun _=>Zdi.ok (h:=aN)  (v.sl 3 rfl)
      refine ZaK rfl rfl ay ?_
      have m:=v.call aM rfl
      refine Zc (Zb0 rfl rfl) (Ze (zC hp rfl (fun aq hp=>?_) (fun aq hp=>?_)))
      ·refine ZB (ZfG ?_)
       have D:=m.bump 5
       have aB:=Fresh.start Y 5
       have bC:∀ {i:Nat},h.n≤Y.n + i:=Nat.le_trans m.n (Nat.le_add_right _ _)
       refine z4 (Zbu (D.box 4 rfl) N rfl) (z4 (Zbu (D.box 5 rfl) rfl rfl) (Ze8 (D.stb (cs':=Z3.c (gi x1 x3.toNat)) 0 rfl t rfl rfl ⟨rfl,Nat.le_of_ble_eq_true rfl,rfl⟩ rfl) ?_))
       rintro _ bg bO ⟨rfl,aA,bt,aF⟩
       have aC:=aB.kept aA (by decide)
       refine Ze8 (aF.stb (cs':=Z3.c (gi x1 x6.toNat)) 1 rfl A rfl rfl ⟨rfl,Nat.le_of_ble_eq_true rfl,rfl⟩ rfl) ?_
       rintro _ bh bP ⟨rfl,az,bu,aG⟩
       have a9:=aC.kept az (by decide)
       refine Zbr (.b true) rfl (ZcA ?_)
       refine And.intro ?_ ?_
       ·intro q hq
        simp only [List.mem_cons,List.not_mem_nil,or_false] at hq
        rcases hq with rfl | rfl
        ·refine Zao ?_ ?_
         ·exact (fun h=>nomatch h)
         ·exact (fun h=>nomatch h)
        ·refine Zk4 ?_ ?_ ?_
         ·exact (fun r h1 h2=>m.apartAt (i:=5) (j:=0) rfl rfl (by decide) r (tch (Zcp h1) rfl) (tch (ZkN h2) t))
         ·exact (fun h=>nomatch h)
         ·exact (fun _ hm=>Nat.lt_irrefl _ (Nat.lt_of_lt_of_le (m.ltAt 5 rfl _ (tch (Zcp hm) rfl)) (Nat.le_add_right _ _)))
       refine Zo (Zav (Zbw (zE ?_)))
       cases hp
       exact ⟨nofun,rfl,t,A,rfl,(aG.pk [0,1])⟩
      ·refine Zc1 (Zaa (Zo (zD (ckk hp fun ar hp=>Zc (zf L rfl ar) (Zb (.n (x6 + 1)) rfl (Zh ?_))))))
       cases hp
       exact ⟨rfl,t,A,al,M,N,af,ah,ai,aj,ak,rfl,(m.pk [0,1,2,3,4])⟩
     ·refine Zbo (zK ?_)
      cases hp
      exact ⟨nofun,rfl,t,A,al,M,af,ah,ai,(l.pk [0,1,2,3])⟩
    rintro (_ | x7) hp _ bH bd R
    ·obtain ⟨rfl,J,K,aX,aY,aT,aU,aV,C⟩:=R
     refine Zaw (Zaa (Zo (zD (ckk hp fun au hp=>Zc (zf aV rfl au) (Zb (.n (x3 + 1)) rfl (Zh ?_))))))
     cases hp
     exact ⟨rfl,J,K,aX,aY,aT,aU,rfl,(C.pk [0,1,2,3])⟩
    ·obtain ⟨rfl,J,K,aW,C⟩:=R
     refine Zbw (Zbw (zE ?_))
     cases hp
     exact ⟨nofun,rfl,J,K,aW,(C.pk [0,1])⟩
   ·refine Zbo (zK ?_)
    cases hp
    exact ⟨nofun,rfl,aa,ad,(s.pk [0,1])⟩
  rintro (_ | ⟨x4,x5⟩) hp _ bF bn Q
  ·obtain ⟨rfl,w,y,o⟩:=Q
   refine Zaw (Zo (Zk (Zc (Zcx (cs:=Z3.c (⟨(0:Int),(0:Int)⟩:Z9)) (by rw [ZaH]; rfl)) (Zc (Zcx (cs:=Z3.c (⟨(0:Int),(0:Int)⟩:Z9)) (by rw [ZaH]; rfl)) (zw (o.stb (cs':=Z3.c (⟨(0:Int),(0:Int)⟩:Z9)) 0 rfl w rfl rfl ⟨rfl,Nat.le_of_ble_eq_true rfl,rfl⟩ rfl) ?_)))))
   rintro _ bi ⟨rfl,a0,bv,aH⟩
   refine zw (aH.stb (cs':=Z3.c (⟨(0:Int),(0:Int)⟩:Z9)) 1 rfl y rfl rfl ⟨rfl,Nat.le_of_ble_eq_true rfl,rfl⟩ rfl) ?_
   rintro _ bj ⟨rfl,a1,bw,E⟩
   refine Zb (.b false) rfl (Ze (Zav (z8 (Zgb w (E.box 0 rfl) rfl (Zgb y (E.box 1 rfl) rfl (Zag rfl ZQ))) ?_)))
   cases hp
   exact ⟨rfl,(E.pk [])⟩
  ·obtain ⟨rfl,w,y,aR,o⟩:=Q
   refine Zbw (zE (z8 (Zgb w (o.box 0 rfl) rfl (Zgb y (o.box 1 rfl) rfl (Zag aR ZQ))) ?_))
   cases hp
   exact ⟨rfl,(o.pk [])⟩

theorem Zb5.ok {h:Hp} {cells:List Za} {v_cells:V} (s_cells:Sl Zd h v_cells cells) {r:Int × Int × Int × Bool} (hp:Zb5 cells=some r) :
  ∃ u k',Is G 228 [v_cells] h u k'∧V.tu [.n r.1,.n r.2.1,.n r.2.2.1,.b r.2.2.2]=u∧Own (fun r=>r < h.n) h k' []:=by
 refine WC.is (ZaP Zfr ?_)
 unfold Zb5 at hp
 let B:Nat→Prop:=(fun r=>r < h.n)
 have hO:Own B h h []:=Own.start0 h
 refine Zk (Zb (.n 0) rfl (Zb (.n 0) rfl (Zb (.n 0) rfl (Zb (.b false) rfl (Ze (ZB ?_))))))
 refine zD (Zb v_cells rfl ?_)
 obtain ⟨⟨x,x1⟩,⟨ba,aP,aj,D,d,rfl,aA⟩,hp⟩:=bdk hp fun _=>Zaz.ok (h:=h)  (hO.rd0 s_cells.rd)
 refine ZaK rfl rfl aj ?_
 have F:=hO.call aA rfl
 refine Zb (.tu [D,.n x1]) rfl (Zc (ZbF rfl rfl) (Zc (ZbF rfl rfl) (Zb D rfl (Zb (.n x1) rfl (Ze (ZB (ZB ?_)))))))
 refine zD (Zb D rfl (Zc (ZgP (n:=(x).length) (F.sl 0 rfl) (F.allLen 1 rfl:(d).length=(x).length) rfl) (Zb (.n 0) rfl (Ze (zX (Zb7 hp (fun x2 fr k=>fr 0=v_cells∧fr 20=D∧fr 21=.n (x.length:Int)∧fr 22=.n x2∧Own B h k [eSl eV D d,Zce Z0 d x]) (fun | .inl _,e,fr,k=>e=(.exit 0)∧Own B h k [] | .inr (x3,x4,x5),e,fr,k=>e=.ret∧fr 2=.n x3∧fr 3=.n x4∧fr 4=.n x5∧fr 5=.b true∧Own B h k []) ⟨rfl,rfl,rfl,rfl,(F.pk [0,1])⟩ ?_ ?_))))))
 ·rintro x2 a9 W ⟨E,aa,ab,J,p⟩ a7 hp
  dsimp only [Zb5.s0] at hp
  refine Zk (Zc (zH J ab) (Ze (ZB (zC hp rfl (fun ae hp=>?_) (fun ae hp=>?_)))))
  ·refine Zat (ZB (zX (Zk (ckk hp fun f hp=>Zc (zi (p.sl 0 rfl) aa J (by rw [(p.allLen 1 rfl:(d).length=(x).length)]; exact f)) (Zc (zS (p.sl 0 rfl) rfl (by rw [(p.allLen 1 rfl:(d).length=(x).length)]; exact Zg f) rfl) ?_)))))
   refine Zb ((gi d x2.toNat)) rfl (Ze (Zk (Zb _ E (Zb ((gi d x2.toNat)) rfl ?_))))
   obtain ⟨x6,⟨bb,aD,ak,be,rfl,aB⟩,hp⟩:=bdk hp fun _=>ZbA.ok (h:=W)  (p.rd0 s_cells.rd) (p.inn 1 rfl (Zg f):Sl Z0 W (gi d x2.toNat) (gi x x2.toNat))
   refine ZaK rfl rfl ak ?_
   have S:=p.call aB rfl
   obtain ⟨⟨x7,x8,x9⟩,⟨bc,aV,al,rfl,aC⟩,hp⟩:=bdk hp fun _=>ZaO.ok (h:=aD)  (S.sl 2 rfl)
   refine ZaK rfl rfl al ?_
   have T:=S.call aC rfl
   refine Zb (.tu [.ag (Z3.c x7),.ag (Z3.c x8),.b x9]) rfl (Zc (ZbF rfl rfl) (Zc (ZbF rfl rfl) (Zc (ZbF rfl rfl) (zw (T.alloc (cs:=Z3.c (⟨0,0⟩:Z9)) T.fr) ?_))))
   rintro _ aW ⟨ac,rfl,a3,aJ,U⟩
   refine zw (U.alloc (cs:=Z3.c (⟨0,0⟩:Z9)) U.fr) ?_
   rintro _ aX ⟨aI,rfl,a4,aK,ay⟩
   refine zw (ay.stb (cs':=Z3.c x7) 3 rfl rfl rfl rfl ⟨rfl,Nat.le_of_ble_eq_true rfl,rfl⟩ rfl) ?_
   rintro _ aY ⟨rfl,aL,aZ,az⟩
   refine zw (az.stb (cs':=Z3.c x8) 4 rfl rfl rfl rfl ⟨rfl,Nat.le_of_ble_eq_true rfl,rfl⟩ rfl) ?_
   rintro _ y ⟨rfl,aM,a0,a⟩
   refine Zb (.b x9) rfl (Ze (ZB (Zk (Zb (.b x9) rfl (Zc (ZcR rfl) (Zh ?_))))))
   refine Zo (zC hp rfl (fun af hp=>?_) (fun af hp=>?_))
   ·refine Zbo (zK (Zaw (Zo (zD (ckk hp fun ah hp=>Zc (zf J rfl ah) (Zb (.n (x2 + 1)) rfl (Zh ?_)))))))
    cases hp
    exact ⟨rfl,E,aa,ab,rfl,(a.pk [0,1])⟩
   ·refine Zat (ZB (ZfG ?_))
    have v:=a.bump 14
    have P:=Fresh.start y 14
    have Y:∀ {i:Nat},h.n≤y.n + i:=Nat.le_trans a.n (Nat.le_add_right _ _)
    refine Zbr ((gi d x2.toNat)) rfl (z4 (zR (r:=ac) (o:=0) rfl rfl) (z4 (zn (v.box 3 rfl) rfl rfl) (ckk hp fun L hp=>z4 (zi (v.inn 1 rfl (Zg f):Sl Z0 (y.bump 14) (gi d x2.toNat) (gi x x2.toNat)) rfl rfl L) (z4 (Zdu (v.inn 1 rfl (Zg f):Sl Z0 (y.bump 14) (gi d x2.toNat) (gi x x2.toNat)) rfl (Zg L)) (Zbr ((gi d x2.toNat)) rfl (z4 (zR (r:=aI) (o:=0) rfl rfl) (z4 (zn (v.box 4 rfl) rfl rfl) ?_)))))))
    refine ckk hp fun M hp=>z4 (zi (v.inn 1 rfl (Zg f):Sl Z0 (y.bump 14) (gi d x2.toNat) (gi x x2.toNat)) rfl rfl M) (z4 (Zdu (v.inn 1 rfl (Zg f):Sl Z0 (y.bump 14) (gi d x2.toNat) (gi x x2.toNat)) rfl (Zg M)) (Ze8 (v.alloc (cs:=Z0.c (⟨0,0⟩:ZF)) ⟨P.m 10 (by decide) (by decide),Y⟩) ?_))
    rintro _ aQ bf ⟨K,rfl,X,an,av⟩
    have Q:=P.kept an (by decide)
    refine Ze8 (av.alloc (cs:=Z0.c (⟨0,0⟩:ZF)) ⟨Q.m 11 (by decide) (by decide),Y⟩) ?_
    rintro _ aR bg ⟨ad,rfl,a5,ao,aw⟩
    have ar:=Q.kept ao (by decide)
    refine Ze8 (aw.stb (cs':=Z0.c (gi (gi x x2.toNat) (x7.At:Int).toNat)) 5 rfl rfl rfl rfl ⟨rfl,Nat.le_of_ble_eq_true rfl,rfl⟩ rfl) ?_
    rintro _ aS bh ⟨rfl,ap,a1,ax⟩
    have au:=ar.kept ap (by decide)
    refine Ze8 (ax.stb (cs':=Z0.c (gi (gi x x2.toNat) (x8.At:Int).toNat)) 6 rfl rfl rfl rfl ⟨rfl,Nat.le_of_ble_eq_true rfl,rfl⟩ rfl) ?_
    rintro _ I bi ⟨rfl,aq,a2,g⟩
    have aN:=au.kept aq (by decide)
    refine ZcA ?_
    refine And.intro ?_ ?_
    ·intro q hq
     simp only [List.mem_cons,List.not_mem_nil,or_false] at hq
     rcases hq with rfl | rfl | rfl | rfl | rfl | rfl | rfl | rfl | rfl | rfl | rfl | rfl | rfl | rfl | rfl
     ·refine Zao ?_ ?_
      ·exact (fun h=>nomatch h)
      ·exact (fun h=>nomatch h)
     ·refine Zao ?_ ?_
      ·exact (fun h=>nomatch h)
      ·exact (fun h=>nomatch h)
     ·refine Zao ?_ ?_
      ·exact (fun h=>nomatch h)
      ·exact (fun h=>nomatch h)
     ·refine Zao ?_ ?_
      ·exact (fun h=>nomatch h)
      ·exact (fun h=>nomatch h)
     ·refine Zao ?_ ?_
      ·exact (fun h=>nomatch h)
      ·exact (fun _ hm=>Nat.lt_irrefl _ (Nat.lt_of_lt_of_le (a.ltAt 3 rfl _ (tch (Zcp hm) rfl)) (Nat.le_add_right _ _)))
     ·refine Zao ?_ ?_
      ·exact (fun h=>nomatch h)
      ·exact (fun _ hm=>Nat.lt_irrefl _ (Nat.lt_of_lt_of_le (a.ltAt 1 rfl _ (Zgg (j:=x2.toNat) (by have q:(d).length=(x).length:=a.allLen 1 rfl; have:=f; omega) (Zc7 (tch (Zcp hm) rfl)))) (Nat.le_add_right _ _)))
     ·refine Zao ?_ ?_
      ·exact (fun h=>nomatch h)
      ·exact (fun _ hm=>Nat.lt_irrefl _ (Nat.lt_of_lt_of_le (a.ltAt 4 rfl _ (tch (Zcp hm) rfl)) (Nat.le_add_right _ _)))
     ·refine Zao ?_ ?_
      ·exact (fun h=>nomatch h)
      ·exact (fun _ hm=>Nat.lt_irrefl _ (Nat.lt_of_lt_of_le (a.ltAt 1 rfl _ (Zgg (j:=x2.toNat) (by have q:(d).length=(x).length:=a.allLen 1 rfl; have:=f; omega) (Zc7 (tch (Zcp hm) rfl)))) (Nat.le_add_right _ _)))
     ·refine Zao ?_ ?_
      ·exact (fun h=>nomatch h)
      ·exact (fun _ hm=>Nat.lt_irrefl _ (Nat.lt_of_lt_of_le (a.ltAt 3 rfl _ (tch (Zcp hm) rfl)) (Nat.le_add_right _ _)))
     ·refine Zao ?_ ?_
      ·exact (fun h=>nomatch h)
      ·exact (fun _ hm=>Nat.lt_irrefl _ (Nat.lt_of_lt_of_le (a.ltAt 1 rfl _ (Zgg (j:=x2.toNat) (by have q:(d).length=(x).length:=a.allLen 1 rfl; have:=f; omega) (Zc7 (tch (Zcp hm) rfl)))) (Nat.le_add_right _ _)))
     ·refine Zao ?_ ?_
      ·exact (fun h=>nomatch h)
      ·exact (fun _ hm=>Nat.lt_irrefl _ (Nat.lt_of_lt_of_le (a.ltAt 4 rfl _ (tch (Zcp hm) rfl)) (Nat.le_add_right _ _)))
     ·refine Zao ?_ ?_
      ·exact (fun h=>nomatch h)
      ·exact (fun _ hm=>Nat.lt_irrefl _ (Nat.lt_of_lt_of_le (a.ltAt 1 rfl _ (Zgg (j:=x2.toNat) (by have q:(d).length=(x).length:=a.allLen 1 rfl; have:=f; omega) (Zc7 (tch (Zcp hm) rfl)))) (Nat.le_add_right _ _)))
     ·refine Zao ?_ ?_
      ·exact (fun _=>List.not_mem_nil)
      ·exact (fun _=>List.not_mem_nil)
     ·refine Zk4 ?_ ?_ ?_
      ·exact (fun r h1 h2=>by have h3:=(a.ltAt 4 rfl _ (tch (Zcp h1) rfl)); have h4:=(ZkC X (tch (ZkN h2) rfl)); omega)
      ·exact (fun h=>nomatch h)
      ·exact (fun _ hm=>Nat.lt_irrefl _ (Nat.lt_of_lt_of_le (a.ltAt 4 rfl _ (tch (Zcp hm) rfl)) (Nat.le_add_right _ _)))
     ·refine Zk4 ?_ ?_ ?_
      ·exact (fun r h1 h2=>by have h3:=(a.ltAt 1 rfl _ (Zgg (j:=x2.toNat) (by have q:(d).length=(x).length:=a.allLen 1 rfl; have:=f; omega) (Zc7 (tch (Zcp h1) rfl)))); have h4:=(ZkC X (tch (ZkN h2) rfl)); omega)
      ·exact (fun h=>nomatch h)
      ·exact (fun _ hm=>Nat.lt_irrefl _ (Nat.lt_of_lt_of_le (a.ltAt 1 rfl _ (Zgg (j:=x2.toNat) (by have q:(d).length=(x).length:=a.allLen 1 rfl; have:=f; omega) (Zc7 (tch (Zcp hm) rfl)))) (Nat.le_add_right _ _)))
    refine Zo (ZB (ZfG ?_))
    have l:=g.bump 28
    have t:=Fresh.start I 28
    have a6:∀ {i:Nat},h.n≤I.n + i:=Nat.le_trans g.n (Nat.le_add_right _ _)
    refine Zbr _ E (z4 (zR (r:=K) (o:=0) rfl rfl) (z4 (zn (l.box 5 rfl) rfl rfl) (z4 (zR (r:=K) (o:=0) rfl rfl) (z4 (zn (l.box 5 rfl) rfl rfl) (ckk hp fun A hp=>z4 (zi (l.rd0 s_cells.rd) rfl rfl A) (z4 (Zbt (l.rd0 s_cells.rd) (Zg A) rfl rfl) (ckk hp fun N hp=>?_)))))))
    refine z4 (Zbj (l.rd0 s_cells.rd) (Zg A) rfl rfl N rfl) (z4 (zS (l.rd0 s_cells.rd) rfl (Zg A) (zI N)) (z4 (zR (r:=K) (o:=0) rfl rfl) (z4 (zn (l.box 5 rfl) rfl rfl) (z4 (zR (r:=ac) (o:=0) rfl rfl) (z4 (zn (l.box 3 rfl) rfl rfl) (ckk hp fun ai hp=>z4 (Zly rfl ai) ?_))))))
    obtain ⟨x10,⟨bd,aT,am,rfl,s⟩,hp⟩:=bdk hp fun _=>Za2.ok (h:=(I.bump 28))  
    refine Zjv rfl rfl am ?_
    have aO:=t.call s
    have w:=l.call s rfl
    refine Zbr _ E (z4 (zR (r:=ad) (o:=0) rfl rfl) (z4 (zn (w.box 6 rfl) rfl rfl) (z4 (zR (r:=ad) (o:=0) rfl rfl) (z4 (zn (w.box 6 rfl) rfl rfl) (ckk hp fun C hp=>z4 (zi (w.rd0 s_cells.rd) rfl rfl C) (z4 (Zbt (w.rd0 s_cells.rd) (Zg C) rfl rfl) (ckk hp fun O hp=>?_)))))))
    refine z4 (Zbj (w.rd0 s_cells.rd) (Zg C) rfl rfl O rfl) (z4 (zS (w.rd0 s_cells.rd) rfl (Zg C) (zI O)) (Zbr (.n (((gi cells ((gi (gi x x2.toNat) (x7.At:Int).toNat).Cell:Int).toNat).Next).get ((gi (gi x x2.toNat) (x7.At:Int).toNat).Dir))) rfl (Zbr (.n x10) rfl (Zbr (.n (((gi cells ((gi (gi x x2.toNat) (x8.At:Int).toNat).Cell:Int).toNat).Next).get ((gi (gi x x2.toNat) (x8.At:Int).toNat).Dir))) rfl (Zbr (.b true) rfl (ZcA ?_))))))
    refine And.intro ?_ ?_
    ·intro q hq
     simp only [List.mem_cons,List.not_mem_nil,or_false] at hq
     rcases hq with rfl | rfl | rfl | rfl | rfl | rfl | rfl | rfl | rfl | rfl | rfl | rfl | rfl | rfl | rfl | rfl | rfl | rfl | rfl | rfl | rfl | rfl | rfl | rfl | rfl | rfl | rfl | rfl | rfl | rfl
     ·refine Zao ?_ ?_
      ·exact (fun h=>nomatch h)
      ·exact (fun h=>nomatch h)
     ·refine Zao ?_ ?_
      ·exact (fun h=>nomatch h)
      ·exact (fun h=>nomatch h)
     ·refine Zao ?_ ?_
      ·exact (fun h=>nomatch h)
      ·exact (fun h=>nomatch h)
     ·refine Zao ?_ ?_
      ·exact (fun h=>nomatch h)
      ·exact (fun h=>nomatch h)
     ·refine Zao ?_ ?_
      ·exact (fun h=>nomatch h)
      ·exact (fun h=>nomatch h)
     ·refine Zao ?_ ?_
      ·exact (fun h=>nomatch h)
      ·exact (fun h=>nomatch h)
     ·refine Zao ?_ ?_
      ·exact (fun h=>nomatch h)
      ·exact (fun h=>nomatch h)
     ·refine Zao ?_ ?_
      ·exact (fun h=>nomatch h)
      ·exact (fun h=>nomatch h)
     ·refine Zj0 rfl rfl ?_
      ·exact (fun r hm hc=>hc (s.base r (Nat.lt_of_lt_of_le (g.ltAt 5 rfl _ (tch (Zcp hm) rfl)) (Nat.le_trans (Nat.le_add_right _ _) t.n))))
     ·refine Zj0 rfl rfl ?_
      ·exact (fun r hm hc=>hc (s.base r (Nat.lt_of_lt_of_le (g.ltAt 5 rfl _ (tch (Zcp hm) rfl)) (Nat.le_trans (Nat.le_add_right _ _) t.n))))
     ·refine Zj0 rfl rfl ?_
      ·exact (fun r hm hc=>hc (s.base r (Nat.lt_of_lt_of_le (Nat.lt_of_lt_of_le (g.lo _ (Rd.B s_cells.rd g.lo (Zg A) _ (Zc7 (tch (Zcp hm) rfl)))) g.n) (Nat.le_trans (Nat.le_add_right _ _) t.n))))
     ·refine Zao ?_ ?_
      ·exact (fun h=>nomatch h)
      ·exact (fun h=>nomatch h)
     ·refine Zao ?_ ?_
      ·exact (fun h=>nomatch h)
      ·exact (fun h=>nomatch h)
     ·refine Zao ?_ ?_
      ·exact (fun h=>nomatch h)
      ·exact (fun h=>nomatch h)
     ·refine Zao ?_ ?_
      ·exact (fun h=>nomatch h)
      ·exact (fun h=>nomatch h)
     ·refine Zao ?_ ?_
      ·exact (fun h=>nomatch h)
      ·exact (fun h=>nomatch h)
     ·refine ZlA rfl ?_
      ·exact (fun r hm hc=>hc (s.base r (Nat.lt_of_lt_of_le (g.ltAt 6 rfl _ (tch (Zcp hm) rfl)) (Nat.le_trans (Nat.le_add_right _ _) t.n))))
     ·refine Zao ?_ ?_
      ·exact (fun h=>nomatch h)
      ·exact (fun h=>nomatch h)
     ·refine Zao ?_ ?_
      ·exact (fun h=>nomatch h)
      ·exact (fun h=>nomatch h)
     ·refine Zao ?_ ?_
      ·exact (fun h=>nomatch h)
      ·exact (fun h=>nomatch h)
     ·refine Zao ?_ ?_
      ·exact (fun h=>nomatch h)
      ·exact (fun h=>nomatch h)
     ·refine Zao ?_ ?_
      ·exact (fun h=>nomatch h)
      ·exact (fun h=>nomatch h)
     ·refine ZlA rfl ?_
      ·exact (fun r hm hc=>hc (s.base r (Nat.lt_of_lt_of_le (g.ltAt 6 rfl _ (tch (Zcp hm) rfl)) (Nat.le_trans (Nat.le_add_right _ _) t.n))))
     ·refine Zao ?_ ?_
      ·exact (fun h=>nomatch h)
      ·exact (fun h=>nomatch h)
     ·refine Zao ?_ ?_
      ·exact (fun h=>nomatch h)
      ·exact (fun h=>nomatch h)
     ·refine Zao ?_ ?_
      ·exact (fun h=>nomatch h)
      ·exact (fun h=>nomatch h)
     ·refine Zao ?_ ?_
      ·exact (fun h=>nomatch h)
      ·exact (fun h=>nomatch h)
     ·refine Zao ?_ ?_
      ·exact (fun h=>nomatch h)
      ·exact (fun h=>nomatch h)
     ·refine Zao ?_ ?_
      ·exact (fun h=>nomatch h)
      ·exact (fun h=>nomatch h)
     ·refine ZlA rfl ?_
      ·exact (fun r hm hc=>hc (s.base r (Nat.lt_of_lt_of_le (Nat.lt_of_lt_of_le (g.lo _ (Rd.B s_cells.rd g.lo (Zg C) _ (Zc7 (tch (Zcp hm) rfl)))) g.n) (Nat.le_trans (Nat.le_add_right _ _) t.n))))
    refine Zo (Zav (Zbw (zE ?_)))
    cases hp
    exact ⟨nofun,rfl,rfl,rfl,rfl,rfl,(w.pk [])⟩
  ·refine Zbo (zK ?_)
   cases hp
   exact ⟨nofun,rfl,(p.pk [])⟩
 rintro (_ | ⟨x3,x4,x5⟩) hp _ a8 aU R
 ·obtain ⟨rfl,H⟩:=R
  refine Zaw (Zo (Zk (Zb (.n 0) rfl (Zb (.n 0) rfl (Zb (.n 0) rfl (Zb (.b false) rfl (Zh ?_)))))))
  refine Zo (Zav (z8 (Zag rfl (Zag rfl (Zag rfl (Zag rfl ZQ)))) ?_))
  cases hp
  exact ⟨rfl,(H.pk [])⟩
 ·obtain ⟨rfl,aE,aF,aG,aH,H⟩:=R
  refine Zbw (zE (z8 (Zag aE (Zag aF (Zag aG (Zag aH ZQ)))) ?_))
  cases hp
  exact ⟨rfl,(H.pk [])⟩

theorem Zcd.ok {h:Hp} {d:Int}   {r:Bool} (hp:Zcd d=some r) :
  ∃ u k',Is G 229 [.n d] h u k'∧V.b r=u∧Own (fun r=>r < h.n) h k' []:=by
 refine WC.is (ZaP ZdA ?_)
 unfold Zcd at hp
 let B:Nat→Prop:=(fun r=>r < h.n)
 have hO:Own B h h []:=Own.start0 h
 refine Zk (Zb (.b false) rfl (Ze (Zk (Zb (.n d) rfl (Zc (Zb0 rfl rfl) ?_)))))
 refine Zb (.b (decide (d=0))) rfl (Zai 3 (fun f k=>h=k∧f 8=.b ((decide (d=0)) || (decide (d=2)))) ?_ ?_)
 ·rcases bc (decide (d=0)) with a | a
  ·refine Zl rfl a (Zl rfl a (Zc (Zcs (w:=(decide (d=0)) || (decide (d=2))) rfl a rfl) (Zh ?_)))
   exact ⟨rfl,rfl⟩
  ·refine Zu rfl a (Zb (.n d) rfl (Zu rfl a (Zc (Zb0 rfl rfl) (Zc (Zct rfl a rfl) (Zh ?_)))))
   exact ⟨rfl,rfl⟩
 rintro e _ ⟨rfl,c⟩
 refine Zb _ c (Ze (Zav (z8 (Zag rfl ZQ) ?_)))
 cases hp
 exact ⟨rfl,(hO.pk [])⟩

theorem ZcC.ok {h:Hp} {g:ZaY} {r_g:Nat} {v_g_cells:V} {w_g:Bool} (b_g:h.m r_g=some (.cells w_g [v_g_cells])) (s_g_cells:Sl Zd h v_g_cells g.cells) {r:Int} (hp:ZcC g=some r) :
  ∃ u k',Is G 55 [.p r_g 0] h u k'∧V.n r=u∧Own (fun r=>r < h.n) h k' []:=by
 refine WC.is (ZaP ZeV ?_)
 unfold ZcC at hp
 let B:Nat→Prop:=(fun r=>r < h.n)
 have hO:Own B h h []:=Own.start0 h
 refine Zk (Zb (.n 0) rfl (Ze (ZB (Zk (Zb (.p r_g 0) rfl ?_)))))
 refine Zc (Zlx rfl rfl) (Ze (ZkS rfl rfl (Zat (Zk (Zb (.p r_g 0) rfl ?_)))))
 refine Zc (ZfQ rfl) (Zc (zR (r:=r_g) (o:=0) rfl rfl) (Zc (zn (hO.rdB0 (RdB.of b_g)).choose_spec rfl rfl) (Zc (Zak (hO.rd0 s_g_cells.rd) rfl) (Zb (.n (g.cells.length:Int)) rfl (Ze (Zav (z8 (Zag rfl ZQ) ?_)))))))
 cases hp
 exact ⟨rfl,(hO.pk [])⟩

theorem Zck.ok {h:Hp} {g:ZaY} {v:Int} {d:Int} {r_g:Nat} {v_g_cells:V} {w_g:Bool} (b_g:h.m r_g=some (.cells w_g [v_g_cells])) (s_g_cells:Sl Zd h v_g_cells g.cells) {r:Bool} (hp:Zck g v d=some r) :
  ∃ u k',Is G 75 [.p r_g 0,.n v,.n d] h u k'∧V.b r=u∧Own (fun r=>r < h.n) h k' []:=by
 refine WC.is (ZaP Zfo ?_)
 unfold Zck at hp
 let B:Nat→Prop:=(fun r=>r < h.n)
 have hO:Own B h h []:=Own.start0 h
 refine Zk (Zb (.b false) rfl (Ze (Zk (Zb (.n v) rfl (Zc (ZcZ rfl rfl) ?_)))))
 refine Zb (.b (decide (0≤v))) rfl ?_
 obtain ⟨t,D,hp⟩:=ZaZ hp
 refine Zai 5 (fun f k=>Own B h k []∧f 14=.b t∧f 2=.n d) ?_ ?_
 ·clear hp; rcases Zbn D with ⟨a,hp⟩ | ⟨a,hp⟩
  ·refine Zu rfl a (Zb (.n v) rfl (Zu rfl a (Zb (.p r_g 0) rfl (Zu rfl a ?_))))
   obtain ⟨x,⟨M,J,i,rfl,A⟩,hp⟩:=bdk hp fun _=>ZcC.ok (h:=h)  (hO.rdB0 (RdB.of b_g)).choose_spec (hO.rd0 s_g_cells.rd)
   refine ZaK rfl rfl i ?_
   have s:=hO.call A rfl
   refine Zu rfl a (Zc (zH rfl rfl) (Zc (ZaS (v:=.b t) rfl a (Eq.trans (b:=V.b (decide (v < x))) rfl (congrArg V.b (Option.some.inj hp)))) (Zh ?_)))
   exact ⟨s.pick [] rfl (by decide),rfl,rfl⟩
  ·refine Zl rfl a (Zl rfl a (Zl rfl a (Zl rfl a (Zc (ZaL (v:=.b t) rfl a (Eq.trans (b:=V.b false) rfl (congrArg V.b (Option.some.inj hp)))) (Zh ?_)))))
   exact ⟨hO.pick [] rfl (by decide),rfl,rfl⟩
 rintro H F ⟨e,l,o⟩
 refine Zb _ l ?_
 obtain ⟨t1,E,hp⟩:=ZaZ hp
 refine Zai 3 (fun f k=>Own B h k []∧f 18=.b t1) ?_ ?_
 ·clear hp; rcases Zbn E with ⟨c,hp⟩ | ⟨c,hp⟩
  ·refine Zu rfl c (Zb _ o (Zu rfl c ?_))
   obtain ⟨x1,⟨N,K,j,rfl,C⟩,hp⟩:=bdk hp fun _=>Zbi.ok (h:=F)  
   refine ZaK rfl rfl j ?_
   have w:=e.call C rfl
   refine Zc (ZaS (v:=.b t1) rfl c (Eq.trans (b:=V.b x1) rfl (congrArg V.b (Option.some.inj hp)))) (Zh ?_)
   exact ⟨w.pick [] rfl (by decide),rfl⟩
  ·refine Zl rfl c (Zl rfl c (Zc (ZaL (v:=.b t1) rfl c (Eq.trans (b:=V.b false) rfl (congrArg V.b (Option.some.inj hp)))) (Zh ?_)))
   exact ⟨e.pick [] rfl (by decide),rfl⟩
 rintro I L ⟨y,q⟩
 refine Zb _ q (Ze (Zav (z8 (Zag rfl ZQ) ?_)))
 cases hp
 exact ⟨rfl,(y.pk [])⟩

theorem Zc0.ok {h:Hp} {g:ZaY} {v:Int} {d:Int} {w:Int} {owner:Int} {r_g:Nat} {v_g_cells:V} (H:Own (Bm h [zV r_g [v_g_cells],eSl Zd v_g_cells g.cells]) h h [zV r_g [v_g_cells],eSl Zd v_g_cells g.cells]) {r:ZaY} (hp:Zc0 g v d w owner=some r) :
  ∃ u k',Is G 76 [.p r_g 0,.n v,.n d,.n w,.n owner] h u k'∧∃ I,V.tu []=u∧Own (Bm h [zV r_g [v_g_cells],eSl Zd v_g_cells g.cells]) h k' [zV r_g [I],eSl Zd I r.cells]:=by
 refine WC.is (ZaP ZeW ?_)
 unfold Zc0 at hp
 let B:Nat→Prop:=(Bm h [zV r_g [v_g_cells],eSl Zd v_g_cells g.cells])
 have hO:Own B h h [zV r_g [v_g_cells],eSl Zd v_g_cells g.cells]:=H
 refine Zk (Zb (.n d) rfl ?_)
 obtain ⟨x,⟨af,F,J,rfl,T⟩,hp⟩:=bdk hp fun _=>Za2.ok (h:=h)  
 refine ZaK rfl rfl J ?_
 have D:=hO.call T rfl
 refine Zb (.n x) rfl (Ze (ZB (ZfG ?_)))
 have c:=D.bump 22
 have O:=Fresh.start F 22
 have ad:∀ {i:Nat},h.n≤F.n + i:=Nat.le_trans D.n (Nat.le_add_right _ _)
 refine Zbr (.p r_g 0) rfl (z4 (ZfQ rfl) (z4 (zR (r:=r_g) (o:=0) rfl rfl) (z4 (zn (c.box 0 rfl) rfl rfl) (Zbr (.n v) rfl (Zbr (.n d) rfl (Zbr (.p r_g 0) rfl (z4 (ZfQ rfl) (z4 (zR (r:=r_g) (o:=0) rfl rfl) ?_))))))))
 refine z4 (zn (c.box 0 rfl) rfl rfl) (Zbr (.n v) rfl (Zbr (.n d) rfl (Zbr (.n w) rfl (Zbr (.n owner) rfl (ckk hp fun j hp=>z4 (zi (c.sl 1 rfl) rfl rfl j) (z4 (Zbt (c.sl 1 rfl) (Zg j) rfl rfl) (ckk hp fun a hp=>?_)))))))
 refine z4 (Zbj (c.sl 1 rfl) (Zg j) rfl rfl a rfl) (Ze8 (c.ste (y:=({ gi g.cells v.toNat with Next:=((gi g.cells v.toNat).Next).set d w })) 1 rfl rfl (Zg j) rfl rfl ⟨rfl,(by have:=a; exact (show 0 + d.toNat * 1 + 1≤8 by omega)),rfl⟩ (Zcc a)) ?_)
 rintro _ A ag ⟨rfl,K,Y,s⟩
 have P:=O.kept K (by decide)
 refine ckk hp fun k hp=>z4 (zi (s.sl 1 rfl:Sl Zd A v_g_cells (g.cells.set v.toNat ({ gi g.cells v.toNat with Next:=((gi g.cells v.toNat).Next).set d w }))) rfl rfl k) (z4 (Zbt (s.sl 1 rfl:Sl Zd A v_g_cells (g.cells.set v.toNat ({ gi g.cells v.toNat with Next:=((gi g.cells v.toNat).Next).set d w }))) (Zg k) rfl rfl) (z4 (Zbj (s.sl 1 rfl:Sl Zd A v_g_cells (g.cells.set v.toNat ({ gi g.cells v.toNat with Next:=((gi g.cells v.toNat).Next).set d w }))) (Zg k) rfl rfl a rfl) (Ze8 (s.ste (y:=({ gi (g.cells.set v.toNat ({ gi g.cells v.toNat with Next:=((gi g.cells v.toNat).Next).set d w })) v.toNat with Owner:=((gi (g.cells.set v.toNat ({ gi g.cells v.toNat with Next:=((gi g.cells v.toNat).Next).set d w })) v.toNat).Owner).set d owner })) 1 rfl rfl (Zg k) rfl rfl ⟨rfl,(by have:=a; exact (show 4 + d.toNat * 1 + 1≤8 by omega)),rfl⟩ (Zcn a)) ?_)))
 rintro _ f ah ⟨rfl,L,aa,E⟩
 have U:=P.kept L (by decide)
 refine ZcA ?_
 refine And.intro ?_ ?_
 ·intro q hq
  simp only [List.mem_cons,List.not_mem_nil,or_false] at hq
  rcases hq with rfl
  ·refine Zao ?_ ?_
   ·exact (fun h=>nomatch h)
   ·exact (fun h=>nomatch h)
 refine Zo (ZfG ?_)
 have e:=E.bump 22
 have Q:=Fresh.start f 22
 have ae:∀ {i:Nat},h.n≤f.n + i:=Nat.le_trans E.n (Nat.le_add_right _ _)
 refine Zbr (.p r_g 0) rfl (z4 (ZfQ rfl) (z4 (zR (r:=r_g) (o:=0) rfl rfl) (z4 (zn (e.box 0 rfl) rfl rfl) (Zbr (.n w) rfl (Zbr (.n x) rfl (Zbr (.p r_g 0) rfl (z4 (ZfQ rfl) (z4 (zR (r:=r_g) (o:=0) rfl rfl) ?_))))))))
 refine z4 (zn (e.box 0 rfl) rfl rfl) (Zbr (.n w) rfl (Zbr (.n x) rfl (Zbr (.n v) rfl (Zbr (.n owner) rfl (ckk hp fun l hp=>z4 (zi (e.sl 1 rfl:Sl Zd (f.bump 22) v_g_cells ((g.cells.set v.toNat ({ gi g.cells v.toNat with Next:=((gi g.cells v.toNat).Next).set d w })).set v.toNat ({ gi (g.cells.set v.toNat ({ gi g.cells v.toNat with Next:=((gi g.cells v.toNat).Next).set d w })) v.toNat with Owner:=((gi (g.cells.set v.toNat ({ gi g.cells v.toNat with Next:=((gi g.cells v.toNat).Next).set d w })) v.toNat).Owner).set d owner }))) rfl rfl l) (z4 (Zbt (e.sl 1 rfl:Sl Zd (f.bump 22) v_g_cells ((g.cells.set v.toNat ({ gi g.cells v.toNat with Next:=((gi g.cells v.toNat).Next).set d w })).set v.toNat ({ gi (g.cells.set v.toNat ({ gi g.cells v.toNat with Next:=((gi g.cells v.toNat).Next).set d w })) v.toNat with Owner:=((gi (g.cells.set v.toNat ({ gi g.cells v.toNat with Next:=((gi g.cells v.toNat).Next).set d w })) v.toNat).Owner).set d owner }))) (Zg l) rfl rfl) (ckk hp fun b hp=>?_)))))))
 refine z4 (Zbj (e.sl 1 rfl:Sl Zd (f.bump 22) v_g_cells ((g.cells.set v.toNat ({ gi g.cells v.toNat with Next:=((gi g.cells v.toNat).Next).set d w })).set v.toNat ({ gi (g.cells.set v.toNat ({ gi g.cells v.toNat with Next:=((gi g.cells v.toNat).Next).set d w })) v.toNat with Owner:=((gi (g.cells.set v.toNat ({ gi g.cells v.toNat with Next:=((gi g.cells v.toNat).Next).set d w })) v.toNat).Owner).set d owner }))) (Zg l) rfl rfl b rfl) (Ze8 (e.ste (y:=({ gi ((g.cells.set v.toNat ({ gi g.cells v.toNat with Next:=((gi g.cells v.toNat).Next).set d w })).set v.toNat ({ gi (g.cells.set v.toNat ({ gi g.cells v.toNat with Next:=((gi g.cells v.toNat).Next).set d w })) v.toNat with Owner:=((gi (g.cells.set v.toNat ({ gi g.cells v.toNat with Next:=((gi g.cells v.toNat).Next).set d w })) v.toNat).Owner).set d owner })) w.toNat with Next:=((gi ((g.cells.set v.toNat ({ gi g.cells v.toNat with Next:=((gi g.cells v.toNat).Next).set d w })).set v.toNat ({ gi (g.cells.set v.toNat ({ gi g.cells v.toNat with Next:=((gi g.cells v.toNat).Next).set d w })) v.toNat with Owner:=((gi (g.cells.set v.toNat ({ gi g.cells v.toNat with Next:=((gi g.cells v.toNat).Next).set d w })) v.toNat).Owner).set d owner })) w.toNat).Next).set x v })) 1 rfl rfl (Zg l) rfl rfl ⟨rfl,(by have:=b; exact (show 0 + x.toNat * 1 + 1≤8 by omega)),rfl⟩ (Zcc b)) ?_)
 rintro _ C ai ⟨rfl,M,ab,t⟩
 have R:=Q.kept M (by decide)
 refine ckk hp fun m hp=>z4 (zi (t.sl 1 rfl:Sl Zd C v_g_cells (((g.cells.set v.toNat ({ gi g.cells v.toNat with Next:=((gi g.cells v.toNat).Next).set d w })).set v.toNat ({ gi (g.cells.set v.toNat ({ gi g.cells v.toNat with Next:=((gi g.cells v.toNat).Next).set d w })) v.toNat with Owner:=((gi (g.cells.set v.toNat ({ gi g.cells v.toNat with Next:=((gi g.cells v.toNat).Next).set d w })) v.toNat).Owner).set d owner })).set w.toNat ({ gi ((g.cells.set v.toNat ({ gi g.cells v.toNat with Next:=((gi g.cells v.toNat).Next).set d w })).set v.toNat ({ gi (g.cells.set v.toNat ({ gi g.cells v.toNat with Next:=((gi g.cells v.toNat).Next).set d w })) v.toNat with Owner:=((gi (g.cells.set v.toNat ({ gi g.cells v.toNat with Next:=((gi g.cells v.toNat).Next).set d w })) v.toNat).Owner).set d owner })) w.toNat with Next:=((gi ((g.cells.set v.toNat ({ gi g.cells v.toNat with Next:=((gi g.cells v.toNat).Next).set d w })).set v.toNat ({ gi (g.cells.set v.toNat ({ gi g.cells v.toNat with Next:=((gi g.cells v.toNat).Next).set d w })) v.toNat with Owner:=((gi (g.cells.set v.toNat ({ gi g.cells v.toNat with Next:=((gi g.cells v.toNat).Next).set d w })) v.toNat).Owner).set d owner })) w.toNat).Next).set x v }))) rfl rfl m) (z4 (Zbt (t.sl 1 rfl:Sl Zd C v_g_cells (((g.cells.set v.toNat ({ gi g.cells v.toNat with Next:=((gi g.cells v.toNat).Next).set d w })).set v.toNat ({ gi (g.cells.set v.toNat ({ gi g.cells v.toNat with Next:=((gi g.cells v.toNat).Next).set d w })) v.toNat with Owner:=((gi (g.cells.set v.toNat ({ gi g.cells v.toNat with Next:=((gi g.cells v.toNat).Next).set d w })) v.toNat).Owner).set d owner })).set w.toNat ({ gi ((g.cells.set v.toNat ({ gi g.cells v.toNat with Next:=((gi g.cells v.toNat).Next).set d w })).set v.toNat ({ gi (g.cells.set v.toNat ({ gi g.cells v.toNat with Next:=((gi g.cells v.toNat).Next).set d w })) v.toNat with Owner:=((gi (g.cells.set v.toNat ({ gi g.cells v.toNat with Next:=((gi g.cells v.toNat).Next).set d w })) v.toNat).Owner).set d owner })) w.toNat with Next:=((gi ((g.cells.set v.toNat ({ gi g.cells v.toNat with Next:=((gi g.cells v.toNat).Next).set d w })).set v.toNat ({ gi (g.cells.set v.toNat ({ gi g.cells v.toNat with Next:=((gi g.cells v.toNat).Next).set d w })) v.toNat with Owner:=((gi (g.cells.set v.toNat ({ gi g.cells v.toNat with Next:=((gi g.cells v.toNat).Next).set d w })) v.toNat).Owner).set d owner })) w.toNat).Next).set x v }))) (Zg m) rfl rfl) (z4 (Zbj (t.sl 1 rfl:Sl Zd C v_g_cells (((g.cells.set v.toNat ({ gi g.cells v.toNat with Next:=((gi g.cells v.toNat).Next).set d w })).set v.toNat ({ gi (g.cells.set v.toNat ({ gi g.cells v.toNat with Next:=((gi g.cells v.toNat).Next).set d w })) v.toNat with Owner:=((gi (g.cells.set v.toNat ({ gi g.cells v.toNat with Next:=((gi g.cells v.toNat).Next).set d w })) v.toNat).Owner).set d owner })).set w.toNat ({ gi ((g.cells.set v.toNat ({ gi g.cells v.toNat with Next:=((gi g.cells v.toNat).Next).set d w })).set v.toNat ({ gi (g.cells.set v.toNat ({ gi g.cells v.toNat with Next:=((gi g.cells v.toNat).Next).set d w })) v.toNat with Owner:=((gi (g.cells.set v.toNat ({ gi g.cells v.toNat with Next:=((gi g.cells v.toNat).Next).set d w })) v.toNat).Owner).set d owner })) w.toNat with Next:=((gi ((g.cells.set v.toNat ({ gi g.cells v.toNat with Next:=((gi g.cells v.toNat).Next).set d w })).set v.toNat ({ gi (g.cells.set v.toNat ({ gi g.cells v.toNat with Next:=((gi g.cells v.toNat).Next).set d w })) v.toNat with Owner:=((gi (g.cells.set v.toNat ({ gi g.cells v.toNat with Next:=((gi g.cells v.toNat).Next).set d w })) v.toNat).Owner).set d owner })) w.toNat).Next).set x v }))) (Zg m) rfl rfl b rfl) (Ze8 (t.ste (y:=({ gi (((g.cells.set v.toNat ({ gi g.cells v.toNat with Next:=((gi g.cells v.toNat).Next).set d w })).set v.toNat ({ gi (g.cells.set v.toNat ({ gi g.cells v.toNat with Next:=((gi g.cells v.toNat).Next).set d w })) v.toNat with Owner:=((gi (g.cells.set v.toNat ({ gi g.cells v.toNat with Next:=((gi g.cells v.toNat).Next).set d w })) v.toNat).Owner).set d owner })).set w.toNat ({ gi ((g.cells.set v.toNat ({ gi g.cells v.toNat with Next:=((gi g.cells v.toNat).Next).set d w })).set v.toNat ({ gi (g.cells.set v.toNat ({ gi g.cells v.toNat with Next:=((gi g.cells v.toNat).Next).set d w })) v.toNat with Owner:=((gi (g.cells.set v.toNat ({ gi g.cells v.toNat with Next:=((gi g.cells v.toNat).Next).set d w })) v.toNat).Owner).set d owner })) w.toNat with Next:=((gi ((g.cells.set v.toNat ({ gi g.cells v.toNat with Next:=((gi g.cells v.toNat).Next).set d w })).set v.toNat ({ gi (g.cells.set v.toNat ({ gi g.cells v.toNat with Next:=((gi g.cells v.toNat).Next).set d w })) v.toNat with Owner:=((gi (g.cells.set v.toNat ({ gi g.cells v.toNat with Next:=((gi g.cells v.toNat).Next).set d w })) v.toNat).Owner).set d owner })) w.toNat).Next).set x v })) w.toNat with Owner:=((gi (((g.cells.set v.toNat ({ gi g.cells v.toNat with Next:=((gi g.cells v.toNat).Next).set d w })).set v.toNat ({ gi (g.cells.set v.toNat ({ gi g.cells v.toNat with Next:=((gi g.cells v.toNat).Next).set d w })) v.toNat with Owner:=((gi (g.cells.set v.toNat ({ gi g.cells v.toNat with Next:=((gi g.cells v.toNat).Next).set d w })) v.toNat).Owner).set d owner })).set w.toNat ({ gi ((g.cells.set v.toNat ({ gi g.cells v.toNat with Next:=((gi g.cells v.toNat).Next).set d w })).set v.toNat ({ gi (g.cells.set v.toNat ({ gi g.cells v.toNat with Next:=((gi g.cells v.toNat).Next).set d w })) v.toNat with Owner:=((gi (g.cells.set v.toNat ({ gi g.cells v.toNat with Next:=((gi g.cells v.toNat).Next).set d w })) v.toNat).Owner).set d owner })) w.toNat with Next:=((gi ((g.cells.set v.toNat ({ gi g.cells v.toNat with Next:=((gi g.cells v.toNat).Next).set d w })).set v.toNat ({ gi (g.cells.set v.toNat ({ gi g.cells v.toNat with Next:=((gi g.cells v.toNat).Next).set d w })) v.toNat with Owner:=((gi (g.cells.set v.toNat ({ gi g.cells v.toNat with Next:=((gi g.cells v.toNat).Next).set d w })) v.toNat).Owner).set d owner })) w.toNat).Next).set x v })) w.toNat).Owner).set x owner })) 1 rfl rfl (Zg m) rfl rfl ⟨rfl,(by have:=b; exact (show 4 + x.toNat * 1 + 1≤8 by omega)),rfl⟩ (Zcn b)) ?_)))
 rintro _ X aj ⟨rfl,N,ac,S⟩
 have W:=R.kept N (by decide)
 refine ZcA ?_
 refine And.intro ?_ ?_
 ·intro q hq
  simp only [List.mem_cons,List.not_mem_nil,or_false] at hq
  rcases hq with rfl
  ·refine Zao ?_ ?_
   ·exact (fun h=>nomatch h)
   ·exact (fun h=>nomatch h)
 refine Zpj ZQ ?_
 cases hp
 exact ⟨v_g_cells,rfl,(S.pk [0,1])⟩

theorem Zcr.ok {h:Hp} {g:ZaY} {v:Int} {d:Int} {w:Int} {owner:Int} {r_g:Nat} {v_g_cells:V} (H:Own (Bm h [zV r_g [v_g_cells],eSl Zd v_g_cells g.cells]) h h [zV r_g [v_g_cells],eSl Zd v_g_cells g.cells]) {r:Int × ZaY} (hp:Zcr g v d w owner=some r) :
  ∃ u k',Is G 52 [.p r_g 0,.n v,.n d,.n w,.n owner] h u k'∧∃ ae,V.n r.1=u∧Own (Bm h [zV r_g [v_g_cells],eSl Zd v_g_cells g.cells]) h k' [zV r_g [ae],eSl Zd ae r.2.cells]:=by
 refine WC.is (ZaP ZeE ?_)
 unfold Zcr at hp
 let B:Nat→Prop:=(Bm h [zV r_g [v_g_cells],eSl Zd v_g_cells g.cells])
 have hO:Own B h h [zV r_g [v_g_cells],eSl Zd v_g_cells g.cells]:=H
 refine Zk (Zb (.n 0) rfl (Ze (ZB (zX (Zk ?_)))))
 refine Zb (.p r_g 0) rfl (Zc (Zlx rfl rfl) (Zb (.b false) rfl (Ze (ZkS rfl rfl (Zk (Zb (.p r_g 0) rfl ?_))))))
 refine Zb (.n v) rfl (Zb (.n d) rfl ?_)
 obtain ⟨x,⟨aO,aw,ah,rfl,aq⟩,hp⟩:=bdk hp fun _=>Zck.ok (h:=h)  (hO.box 0 rfl) (hO.sl 1 rfl)
 refine ZaK rfl rfl ah ?_
 have I:=hO.call aq rfl
 refine Zc (ZcR rfl) (Zb (.b (!x)) rfl ?_)
 obtain ⟨t,av,hp⟩:=ZaZ hp
 refine Zai 6 (fun f k=>Own B h k [zV r_g [v_g_cells],eSl Zd v_g_cells g.cells]∧f 26=.b t∧f 0=.p r_g 0∧f 1=.n v∧f 2=.n d∧f 3=.n w∧f 4=.n owner) ?_ ?_
 ·clear hp; rcases Zbn av with ⟨c,hp⟩ | ⟨c,hp⟩
  ·refine Zl rfl c (Zl rfl c (Zl rfl c (Zl rfl c (Zl rfl c (Zc (ZaS (v:=.b t) rfl c (Eq.trans (b:=V.b true) rfl (congrArg V.b (Option.some.inj hp)))) (Zh ?_))))))
   exact ⟨I.pick [0,1] rfl (by decide),rfl,rfl,rfl,rfl,rfl,rfl⟩
  ·refine Zu rfl c (Zb (.p r_g 0) rfl (Zu rfl c (Zb (.n w) rfl (Zu rfl c (Zb (.n d) rfl (Zu rfl c ?_))))))
   obtain ⟨x1,⟨aP,aJ,ai,rfl,ar⟩,hp⟩:=bdk hp fun _=>Zck.ok (h:=aw)  (I.box 0 rfl) (I.sl 1 rfl)
   refine ZaK rfl rfl ai ?_
   have ao:=I.call ar rfl
   refine Zu rfl c (Zc (ZcR rfl) (Zc (ZaL (v:=.b t) rfl c (Eq.trans (b:=V.b (!x1)) rfl (congrArg V.b (Option.some.inj hp)))) (Zh ?_)))
   exact ⟨ao.pick [0,1] rfl (by decide),rfl,rfl,rfl,rfl,rfl,rfl⟩
 rintro aG A ⟨J,al,U,K,W,L,X⟩
 refine Zb _ al (Zai 4 (fun f k=>A=k∧f 31=.b (t || (decide (v=w)))∧f 0=.p r_g 0∧f 1=.n v∧f 2=.n d∧f 3=.n w∧f 4=.n owner) ?_ ?_)
 ·rcases bc t with j | j
  ·refine Zl rfl j (Zl rfl j (Zl rfl j (Zc (Zcs (w:=t || (decide (v=w))) rfl j rfl) (Zh ?_))))
   exact ⟨rfl,rfl,U,K,W,L,X⟩
  ·refine Zu rfl j (Zb _ K (Zu rfl j (Zb _ L (Zu rfl j (Zc (Zb0 rfl rfl) (Zc (Zct rfl j rfl) (Zh ?_)))))))
   exact ⟨rfl,rfl,U,K,W,L,X⟩
 rintro aH _ ⟨rfl,am,Y,aa,ab,ac,M⟩
 refine Zb _ am (Zai 3 (fun f k=>A=k∧f 35=.b ((t || (decide (v=w))) || (decide (owner < (-2))))∧f 0=.p r_g 0∧f 1=.n v∧f 2=.n d∧f 3=.n w∧f 4=.n owner) ?_ ?_)
 ·rcases bc (t || (decide (v=w))) with s | s
  ·refine Zl rfl s (Zl rfl s (Zc (Zcs (w:=(t || (decide (v=w))) || (decide (owner < (-2)))) rfl s rfl) (Zh ?_)))
   exact ⟨rfl,rfl,Y,aa,ab,ac,M⟩
  ·refine Zu rfl s (Zb _ M (Zu rfl s (Zc (zH rfl rfl) (Zc (Zct rfl s rfl) (Zh ?_)))))
   exact ⟨rfl,rfl,Y,aa,ab,ac,M⟩
 rintro aI _ ⟨rfl,an,E,N,F,O,ad⟩
 refine Zb _ an (Ze (zC hp rfl (fun af hp=>?_) (fun af hp=>?_)))
 ·refine Zk (Zb (.n 2) rfl (Ze (Zav (Zbw (zE (z8 (Zag rfl ZQ) ?_))))))
  cases hp
  exact ⟨v_g_cells,rfl,(J.pk [0,1])⟩
 ·refine ZB (Zg4 hp (fun x2 e fr k=>e=.normal∧fr 0=.p r_g 0∧fr 1=.n v∧fr 2=.n d∧fr 3=.n w∧fr 4=.n owner∧fr 36=.b x2∧Own B h k [zV r_g [v_g_cells],eSl Zd v_g_cells g.cells]) (fun _ hp=>?_) ?_)
  ·refine ZfG ?_
   have l:=J.bump 26
   have T:=Fresh.start A 26
   have aM:∀ {i:Nat},h.n≤A.n + i:=Nat.le_trans J.n (Nat.le_add_right _ _)
   refine Zbr _ E (z4 (ZfQ rfl) (z4 (zR (r:=r_g) (o:=0) rfl rfl) (z4 (zn (l.box 0 rfl) rfl rfl) (Zbr _ N (Zbr _ F (ckk hp fun C hp=>z4 (zi (l.sl 1 rfl) rfl rfl C) (z4 (Zbt (l.sl 1 rfl) (Zg C) rfl rfl) ?_)))))))
   refine ckk hp fun R hp=>z4 (Zbj (l.sl 1 rfl) (Zg C) rfl rfl R rfl) (z4 (zS (l.sl 1 rfl) rfl (Zg C) (zI R)) (z4 (Zc2 rfl rfl) (Zbr (.b (!(decide (((gi g.cells v.toNat).Next).get d=(-1))))) rfl ?_)))
   refine ifk hp (fun a hp=>?_) (fun a hp=>?_)
   ·refine ZaQ rfl a (ZaQ rfl a (ZaQ rfl a (ZaQ rfl a (ZaQ rfl a (ZaQ rfl a (ZaQ rfl a (ZaQ rfl a (ZaQ rfl a ?_))))))))
    refine ZaQ rfl a (ZaQ rfl a (ZaQ rfl a (z4 (ZaS (v:=.b true) rfl a rfl) (Zbr (.b true) rfl (ZcA ?_)))))
    refine And.intro ?_ ?_
    ·intro q hq
     simp only [List.mem_cons,List.not_mem_nil,or_false] at hq
     rcases hq with rfl
     ·exact Zk3
    cases hp
    exact ⟨rfl,E,N,F,O,ad,rfl,(l.pk [0,1])⟩
   ·refine Zc9 rfl a (Zbr _ E (Zc9 rfl a (z4 (ZfQ rfl) (Zc9 rfl a (z4 (zR (r:=r_g) (o:=0) rfl rfl) (Zc9 rfl a (z4 (zn (l.box 0 rfl) rfl rfl) (Zc9 rfl a ?_))))))))
    refine Zbr _ O (Zc9 rfl a (Zbr _ F (Zc9 rfl a ?_)))
    obtain ⟨x3,⟨aQ,aK,aj,rfl,Q⟩,hp⟩:=bdk hp fun _=>Za2.ok (h:=(A.bump 26))  
    refine Zjv rfl rfl aj ?_
    have aF:=T.call Q
    have y:=l.call Q rfl
    refine Zc9 rfl a (ckk hp fun D hp=>z4 (zi (y.sl 1 rfl) rfl rfl D) (Zc9 rfl a (z4 (Zbt (y.sl 1 rfl) (Zg D) rfl rfl) (Zc9 rfl a (ckk hp fun S hp=>z4 (Zbj (y.sl 1 rfl) (Zg D) rfl rfl S rfl) (Zc9 rfl a ?_))))))
    refine z4 (zS (y.sl 1 rfl) rfl (Zg D) (zI S)) (Zc9 rfl a (z4 (Zc2 rfl rfl) (z4 (ZaL (v:=.b (!(decide (((gi g.cells w.toNat).Next).get x3=(-1))))) rfl a rfl) (Zbr (.b (!(decide (((gi g.cells w.toNat).Next).get x3=(-1))))) rfl (ZcA ?_)))))
    refine And.intro ?_ ?_
    ·intro q hq
     simp only [List.mem_cons,List.not_mem_nil,or_false] at hq
     rcases hq with rfl
     ·refine Zj0 rfl rfl ?_
      ·exact (fun r hm hc=>hc (Q.base r (Nat.lt_of_lt_of_le (J.ltAt 0 rfl _ (tch (Zcp hm) rfl)) (Nat.le_trans (Nat.le_add_right _ _) T.n))))
    cases hp
    exact ⟨rfl,E,N,F,O,ad,rfl,(y.pk [0,1])⟩
  rintro x2 hp _ aN ax ⟨rfl,ay,az,aA,aB,aD,aC,P⟩
  refine Zo (zC hp aC (fun ag hp=>?_) (fun ag hp=>?_))
  ·refine Zk (Zb (.n 9) rfl (Ze (Zav (Zbw (zE (z8 (Zag rfl ZQ) ?_))))))
   cases hp
   exact ⟨v_g_cells,rfl,(P.pk [0,1])⟩
  ·refine Zc1 (Zaa (Zo (Zk (Zb _ ay (Zb _ az (Zb _ aA (Zb _ aB ?_)))))))
   refine Zb _ aD ?_
   obtain ⟨m,⟨aR,aL,ak,aE,rfl,au⟩,hp⟩:=bdk hp fun _=>Zc0.ok (h:=ax) (g:=g) (v:=v) (d:=d) (w:=w) (owner:=owner) (P.toM [0,1] rfl (by decide)) 
   refine ZaK rfl rfl ak ?_
   have ap:=(P.callM [0,1] [] rfl rfl (by decide) au rfl).pick [0,1] rfl (by decide)
   refine Ze (Zk (Zb (.n 0) rfl (Ze (Zav (z8 (Zag rfl ZQ) ?_)))))
   cases hp
   exact ⟨aE,rfl,(ap.pk [0,1])⟩

theorem ZaD.ok {h:Hp} {cells:List Za} {picks:List Bool} {v_cells:V} {v_picks:V} (s_cells:Sl Zd h v_cells cells) (s_picks:Sl e_bool h v_picks picks) {r:(List Za) × Int × Int} (hp:ZaD cells picks=some r) :
  ∃ u k',Is G 212 [v_cells,v_picks] h u k'∧∃ S,V.tu [S,.n r.2.1,.n r.2.2]=u∧Own (fun r=>r < h.n) h k' [eSl Zd S r.1]:=by
 refine WC.is (ZaP Zfq ?_)
 unfold ZaD at hp
 let B:Nat→Prop:=(fun r=>r < h.n)
 have hO:Own B h h []:=Own.start0 h
 refine Zk (Zb (.sn) rfl (Zb (.n 0) rfl (Zb (.n 0) rfl (Ze (ZB (ZB ?_))))))
 refine zD (Zb v_cells rfl ?_)
 obtain ⟨x,⟨a0,aC,ab,rfl,ar⟩,hp⟩:=bdk hp fun _=>ZcJ.ok (h:=h)  (hO.rd0 s_cells.rd)
 refine ZaK rfl rfl ab ?_
 have C:=hO.call ar rfl
 refine Zb (.n x) rfl (Ze (Zk (Zb (.n x) rfl (Zc (Zc2 rfl rfl) (Ze (zC hp rfl (fun U hp=>?_) (fun U hp=>?_)))))))
 ·refine Zk (Zb (.n x) rfl (Zb (.sn) rfl (Zb (.n 0) rfl (Zb (.n x) rfl (Ze (Zav ?_))))))
  refine zE ?_
  have am:=C.nil Zd
  refine z8 (Zag rfl (Zag rfl (Zag rfl ZQ))) ?_
  cases hp
  exact ⟨V.sn,rfl,(am.pk [0])⟩
 ·refine Zat (Zk (Zb v_cells rfl ?_))
  obtain ⟨⟨x1,x2⟩,⟨a1,aD,ac,c,F,rfl,au⟩,hp⟩:=bdk hp fun _=>Zed.ok (h:=aC)  (C.rd0 s_cells.rd)
  refine ZaK rfl rfl ac ?_
  have an:=C.call au rfl
  refine Zb (.tu [(if (x1).isSome=true then V.p c 0 else V.pn),.n x2]) rfl (Zc (ZbF rfl rfl) (Zc (ZbF rfl rfl) (Zb ((if (x1).isSome=true then V.p c 0 else V.pn)) rfl (Zb (.n x2) rfl (Ze (Zk ?_))))))
  refine Zb (.n 0) rfl (Ze (zX ?_))
  obtain ⟨g,o,hp⟩:=ZaZ hp
  replace o:x1=some g:=o
  have ao:Own B h aD [zV c [F],eSl Zd F g.cells]:=by have hq:=an; rw [o] at hq; exact hq
  refine Zb7 hp (fun | (g1,n),fr,k=>∃ l,fr 1=v_picks∧fr 8=.p c 0∧fr 10=.n n∧Own B h k [zV c [l],eSl Zd l g1]) (fun | (x3,x4,x5),e,fr,k=>e=.ret∧∃ y,fr 4=y∧fr 5=.n x4∧fr 6=.n x5∧Own B h k [eSl Zd y x3]) ⟨F,rfl,(unw o),rfl,(ao.pk [0,1])⟩ ?_ ?_
  ·rintro ⟨g1,n⟩ aY aE ⟨l,q,s,j,D⟩ aW hp
   dsimp only [ZaD.s0] at hp
   refine ZB (zX (Zk (Zb _ s ?_)))
   obtain ⟨x6,⟨a2,aF,ad,a8,rfl,av⟩,hp⟩:=bdk hp fun _=>ZbL.ok (h:=aE)  (D.box 0 rfl) (D.sl 1 rfl)
   refine ZaK rfl rfl ad ?_
   have Q:=D.call av rfl
   obtain ⟨⟨x7,x8,x9,x10⟩,⟨a3,E,ae,rfl,aw⟩,hp⟩:=bdk hp fun _=>Zb5.ok (h:=aF)  (Q.sl 2 rfl)
   refine ZaK rfl rfl ae ?_
   have i:=Q.call aw rfl
   refine Zb (.tu [.n x7,.n x8,.n x9,.b x10]) rfl (Zc (ZbF rfl rfl) (Zc (ZbF rfl rfl) (Zc (ZbF rfl rfl) (Zc (ZbF rfl rfl) (Zb (.n x7) rfl (Zb (.n x8) rfl (Zb (.n x9) rfl (Zb (.b x10) rfl ?_))))))))
   refine Ze (ZB (Zk (Zb (.b x10) rfl (Zc (ZcR rfl) (Ze (zC hp rfl (fun W hp=>?_) (fun W hp=>?_)))))))
   ·refine Zk (Zb _ s ?_)
    obtain ⟨x11,⟨a4,aV,af,T,rfl,ax⟩,hp⟩:=bdk hp fun _=>ZbL.ok (h:=E)  (i.box 0 rfl) (i.sl 1 rfl)
    refine ZaK rfl rfl af ?_
    have aq:=i.call ax rfl
    refine Zb _ j (Zb T rfl (Zb (.n n) rfl (Zb (.n 0) rfl (Ze (Zav (zE (Zbw ?_)))))))
    refine zE ?_
    cases hp
    exact ⟨nofun,rfl,T,rfl,rfl,rfl,(aq.pk [3])⟩
   ·refine Zat (Zk (Zb _ j (Zb _ q (Zc (Zak (i.rd0 s_picks.rd) rfl) (Zc (zH rfl rfl) (Zb (.b (decide (n < (picks.length:Int)))) rfl ?_))))))
    obtain ⟨t,aB,hp⟩:=ZaZ hp
    refine Zai 5 (fun f k=>E=k∧f 51=.b t∧f 1=v_picks∧f 10=.n n∧f 11=.n x7∧f 12=.n x8∧f 13=.n x9∧f 8=.p c 0) ?_ ?_
    ·clear hp; rcases Zbn aB with ⟨a,hp⟩ | ⟨a,hp⟩
     ·refine Zu rfl a (Zb _ q (Zu rfl a (Zb _ j (Zu rfl a (ckk hp fun H hp=>Zc (zi (i.rd0 s_picks.rd) rfl rfl H) (Zu rfl a (Zc (zS (i.rd0 s_picks.rd) rfl (Zg H) rfl) ?_)))))))
      refine Zc (ZaS (v:=.b t) rfl a (Eq.trans (b:=V.b (gi picks n.toNat)) rfl (congrArg V.b (Option.some.inj hp)))) (Zh ?_)
      exact ⟨rfl,rfl,q,j,rfl,rfl,rfl,s⟩
     ·refine Zl rfl a (Zl rfl a (Zl rfl a (Zl rfl a (Zc (ZaL (v:=.b t) rfl a (Eq.trans (b:=V.b false) rfl (congrArg V.b (Option.some.inj hp)))) (Zh ?_)))))
      exact ⟨rfl,rfl,q,j,rfl,rfl,rfl,s⟩
    rintro aR _ ⟨rfl,aj,I,J,K,A,L,M⟩
    refine Zb _ aj (Ze (ZB (Zk (Zb _ A ?_))))
    obtain ⟨x12,⟨a5,aG,ag,rfl,ay⟩,hp⟩:=bdk hp fun _=>Zcd.ok (h:=E)  
    refine ZaK rfl rfl ag ?_
    have N:=i.call ay rfl
    refine Zb (.b t) rfl (Zc (Zpx rfl rfl) (Ze (Zg4 hp (fun d e fr k=>e=.normal∧fr 1=v_picks∧fr 8=.p c 0∧fr 10=.n n∧fr 11=.n x7∧fr 12=.n d∧fr 13=.n x9∧Own B h k [zV c [l],eSl Zd l g1]) (fun _ hp=>?_) ?_)))
    ·refine zC hp rfl (fun X hp=>?_) (fun X hp=>?_)
     ·refine zD (Zb _ A ?_)
      obtain ⟨x13,⟨a6,aS,ah,rfl,az⟩,hp⟩:=bdk hp fun _=>Za2.ok (h:=aG)  
      refine ZaK rfl rfl ah ?_
      have ak:=N.call az rfl
      refine Zb (.n x13) rfl (Zh ?_)
      cases hp
      exact ⟨rfl,I,M,J,K,rfl,L,(ak.pk [0,1])⟩
     ·refine Zc1 ?_
      cases hp
      exact ⟨rfl,I,M,J,K,A,L,(N.pk [0,1])⟩
    rintro d hp _ aZ aH ⟨rfl,aL,R,aM,aN,aO,aP,O⟩
    refine Zo (Zk (Zb _ R (Zb _ aN (Zb _ aO (Zb _ aP ?_)))))
    obtain ⟨⟨x14,m⟩,⟨a7,aT,ai,aQ,rfl,aA⟩,hp⟩:=bdk hp fun _=>Zcr.ok (h:=aH) (g:=(⟨g1⟩:ZaY)) (v:=x7) (d:=d) (w:=x9) (owner:=(-2)) (O.toM [0,1] rfl (by decide)) 
    refine ZaK rfl rfl ai ?_
    have P:=(O.callM [0,1] [] rfl rfl (by decide) aA rfl).pick [0,1] rfl (by decide)
    refine Zb (.n x14) rfl (Ze (Zk (Zb (.n x14) rfl (Zc (Zc2 rfl rfl) (Ze (zC hp rfl (fun Y hp=>?_) (fun Y hp=>?_)))))))
    ·refine Zk (Zb (.n x14) rfl (Zb (.sn) rfl (Zb (.n 0) rfl (Zb (.n x14) rfl (Ze (Zav ?_))))))
     refine Zbw (zE ?_)
     have al:=P.nil Zd
     cases hp
     exact ⟨nofun,rfl,V.sn,rfl,rfl,rfl,(al.pk [2])⟩
    ·refine Zc1 (Zaa (Zo (zD (Zb _ aM (ckk hp fun aa hp=>Zc (zf rfl rfl aa) (Zb (.n (n + 1)) rfl (Zh ?_)))))))
     cases hp
     exact ⟨rfl,aQ,aL,R,rfl,(P.pk [0,1])⟩
  rintro ⟨x3,x4,x5⟩ hp _ aX aU ⟨rfl,y,aI,aJ,aK,ap⟩
  refine Zbw (z8 (Zag aI (Zag aJ (Zag aK ZQ))) ?_)
  cases hp
  exact ⟨y,rfl,(ap.pk [0])⟩

theorem ZbP.ok {h:Hp} {cells:List Za} {v_cells:V} (s_cells:Sl Zd h v_cells cells) {r:(List Za) × Int} (hp:ZbP cells=some r) :
  ∃ u k',Is G 214 [v_cells] h u k'∧∃ W,V.tu [W,.n r.2]=u∧Own (fun r=>r < h.n) h k' [eSl Zd W r.1]:=by
 refine WC.is (ZaP Zfp ?_)
 unfold ZbP at hp
 let B:Nat→Prop:=(fun r=>r < h.n)
 have hO:Own B h h []:=Own.start0 h
 refine Zk (Zb (.sn) rfl (Zb (.n 0) rfl (Ze (ZB (Zk ?_)))))
 refine Zb v_cells rfl ?_
 obtain ⟨x,⟨a4,aJ,ai,rfl,au⟩,hp⟩:=bdk hp fun _=>Zah.ok (h:=h)  (hO.rd0 s_cells.rd)
 refine ZaK rfl rfl ai ?_
 have A:=hO.call au rfl
 refine Zb (.n x) rfl (Ze (Zk (Zb (.n x) rfl (Zc (Zc2 rfl rfl) (Ze (zC hp rfl (fun Y hp=>?_) (fun Y hp=>?_)))))))
 ·refine Zk (Zb (.n x) rfl (Zb (.sn) rfl (Zb (.n x) rfl (Ze (Zav (zE ?_))))))
  have an:=A.nil Zd
  refine z8 (Zag rfl (Zag rfl ZQ)) ?_
  cases hp
  exact ⟨V.sn,rfl,(an.pk [0])⟩
 ·refine Zat (Zk (Zb (.sn) rfl (Ze (ZB (ZB ?_)))))
  refine zD (Zb v_cells rfl (Zc (Zak (A.rd0 s_cells.rd) rfl) (Zb (.n 0) rfl (Ze (zX ?_)))))
  have ap:=A.nil Zd
  refine Zb7 hp (fun | (l,x1),fr,k=>∃ i,fr 5=i∧fr 14=v_cells∧fr 15=.n (cells.length:Int)∧fr 16=.n x1∧Own B h k [eSl Zd i l]) (fun l1 e fr k=>e=(.exit 0)∧∃ s,fr 5=s∧Own B h k [eSl Zd s l1]) ⟨V.sn,rfl,rfl,rfl,rfl,(ap.pk [0])⟩ ?_ ?_
  ·rintro ⟨l,x1⟩ a0 aN ⟨i,U,S,T,F,j⟩ aX hp
   dsimp only [ZbP.s0] at hp
   refine Zk (Zc (zH F T) (Ze (ZB (zC hp rfl (fun aa hp=>?_) (fun aa hp=>?_)))))
   ·refine Zat (ZB (zX (Zk (ckk hp fun L hp=>Zc (zi (j.rd0 s_cells.rd) S F L) (Zc (Zdu (j.rd0 s_cells.rd) rfl (Zg L)) ?_)))))
    refine zw (j.alloc (cs:=Zd.c (⟨⟨0,0,0,0⟩,⟨0,0,0,0⟩⟩:Za)) j.fr) ?_
    rintro _ aO ⟨g,rfl,aW,aC,aq⟩
    refine zw (aq.stb (cs':=Zd.c (gi cells x1.toNat)) 1 rfl rfl rfl rfl ⟨rfl,Nat.le_of_ble_eq_true rfl,rfl⟩ rfl) ?_
    rintro _ aP ⟨rfl,aD,aT,ar⟩
    refine Ze (ZB (Zk (Zb (.n 0) rfl (Ze (zX (Zb7 hp (fun | (c,x2),fr,k=>fr 5=i∧fr 7=.p g 0∧fr 14=v_cells∧fr 15=.n (cells.length:Int)∧fr 16=.n x1∧fr 20=.n x2∧Own B h k [eSl Zd i l,zV g (Zd.c c)]) (fun c1 e fr k=>e=(.exit 2)∧fr 5=i∧fr 7=.p g 0∧fr 14=v_cells∧fr 15=.n (cells.length:Int)∧fr 16=.n x1∧Own B h k [eSl Zd i l,zV g (Zd.c c1)]) ⟨U,rfl,S,T,F,rfl,(ar.pk [0,1])⟩ ?_ ?_))))))
    ·rintro ⟨c,x2⟩ a2 av ⟨K,q,H,I,J,y,m⟩ aY hp
     dsimp only [ZbP.s1] at hp
     refine Zk (Zc (zH y rfl) (Ze (ZB (zC hp rfl (fun ab hp=>?_) (fun ab hp=>?_)))))
     ·refine Zat (ZB (zX (Zk (Zb _ y (Zb (.n x2) rfl (Zh ?_))))))
      refine Zo (Zk (Zb (.n x2) rfl (Zc (zR (r:=g) (o:=0) q rfl) (ckk hp fun d hp=>Zc (Zez (o:=0) (o':=(0 + x2.toNat * 1)) rfl rfl d rfl) (Zc (zn (m.box 1 rfl) rfl (zI d)) (Zc (ZcZ rfl rfl) ?_))))))
      refine Zb (.b (decide (0≤(c.Next.get x2)))) rfl (Zai 6 (fun f k=>av=k∧f 34=.b ((decide (0≤(c.Next.get x2))) && (decide (c.Owner.get x2=(-2))))∧f 14=v_cells∧f 15=.n (cells.length:Int)∧f 16=.n x1∧f 20=.n x2∧f 5=i∧f 7=.p g 0∧f 8=.n x2) ?_ ?_)
      ·rcases bc (decide (0≤(c.Next.get x2))) with a | a
       ·refine Zu rfl a (Zb (.n x2) rfl (Zu rfl a (Zc (zR (r:=g) (o:=0) q rfl) (Zu rfl a (Zc (Zez (o:=4) (o':=(4 + x2.toNat * 1)) rfl rfl d rfl) (Zu rfl a (Zc (zn (m.box 1 rfl) rfl (Zcm d)) (Zu rfl a ?_))))))))
        refine Zc (Zb0 rfl rfl) (Zc (ZcY rfl a rfl) (Zh ?_))
        exact ⟨rfl,rfl,H,I,J,y,K,q,rfl⟩
       ·refine Zl rfl a (Zl rfl a (Zl rfl a (Zl rfl a (Zl rfl a (Zc (ZcX (w:=(decide (0≤(c.Next.get x2))) && (decide (c.Owner.get x2=(-2)))) rfl a rfl) (Zh ?_))))))
        exact ⟨rfl,rfl,H,I,J,y,K,q,rfl⟩
      rintro aI _ ⟨rfl,aj,M,N,O,P,Q,t,R⟩
      refine Ze (zC hp aj (fun ac hp=>?_) (fun ac hp=>?_))
      ·refine zD (Zb _ R (Zb _ R (Zc (zR (r:=g) (o:=0) t rfl) (Zc (Zez (o:=0) (o':=(0 + x2.toNat * 1)) rfl rfl d rfl) (zw (m.stb (cs':=Zd.c ({ c with Next:=c.Next.set x2 (-1) })) 1 rfl rfl rfl rfl ⟨rfl,(by have:=d; exact (show 0 + x2.toNat * 1 + 1≤8 by omega)),rfl⟩ (Zcc d)) ?_)))))
       rintro _ aR ⟨rfl,aE,aU,ak⟩
       refine Zc (zR (r:=g) (o:=0) t rfl) (Zc (Zez (o:=4) (o':=(4 + x2.toNat * 1)) rfl rfl d rfl) (zw (ak.stb (cs':=Zd.c ({ { c with Next:=c.Next.set x2 (-1) } with Owner:=(({ c with Next:=c.Next.set x2 (-1) }).Owner).set x2 0 })) 1 rfl rfl rfl rfl ⟨rfl,(by have:=d; exact (show 4 + x2.toNat * 1 + 1≤8 by omega)),rfl⟩ (Zcn d)) ?_))
       rintro _ aS ⟨rfl,aF,aV,al⟩
       refine Zh (Zaa (Zo (zD (ckk hp fun ad hp=>Zc (zf P rfl ad) (Zb (.n (x2 + 1)) rfl (Zh ?_))))))
       cases hp
       exact ⟨rfl,Q,t,M,N,O,rfl,(al.pk [0,1])⟩
      ·refine Zc1 (Zaa (Zo (zD (ckk hp fun ae hp=>Zc (zf P rfl ae) (Zb (.n (x2 + 1)) rfl (Zh ?_))))))
       cases hp
       exact ⟨rfl,Q,t,M,N,O,rfl,(m.pk [0,1])⟩
     ·refine Zbo (zK ?_)
      cases hp
      exact ⟨nofun,rfl,K,q,H,I,J,(m.pk [0,1])⟩
    rintro c1 hp _ a1 aQ ⟨rfl,aA,aB,ax,ay,az,D⟩
    refine Zaw (Zo (zD (Zb _ aA (Zc (Zbu (D.box 1 rfl) aB rfl) (zw (D.bsl (E:=Zd) (l:=[c1]) D.fr (by rw [(zo (v:=.ag (Zd.c c1)) rfl ZaH)]; rfl) rfl) ?_)))))
    rintro a5 aK ⟨a3,aG,C⟩
    refine ckk hp fun af hp=>zw (C.app (bytes:=64) 0 C.fr rfl (C.sl 2 rfl) rfl rfl (fun _=>rfl) af (by decide)) ?_
    rintro X aL ⟨aH,am⟩
    refine Zb X rfl (Zh (Zaa (Zo (zD (ckk hp fun ah hp=>Zc (zf az rfl ah) (Zb (.n (x1 + 1)) rfl (Zh ?_)))))))
    cases hp
    exact ⟨rfl,X,rfl,ax,ay,rfl,(am.pk [0])⟩
   ·refine Zbo (zK ?_)
    cases hp
    exact ⟨nofun,rfl,i,U,(j.pk [0])⟩
  rintro l1 hp _ aZ aM ⟨rfl,s,aw,ao⟩
  refine Zaw (Zo (Zk (Zb _ aw (Zb s rfl (Zb (.n 0) rfl (Ze ?_))))))
  refine Zav (z8 (Zag rfl (Zag rfl ZQ)) ?_)
  cases hp
  exact ⟨s,rfl,(ao.pk [0])⟩

theorem Za6.ok {h:Hp} {a:List Za} {b:List Za} {v_a:V} {v_b:V} (s_a:Sl Zd h v_a a) (s_b:Sl Zd h v_b b) {r:Bool} (hp:Za6 a b=some r) :
  ∃ u k',Is G 56 [v_a,v_b] h u k'∧V.b r=u∧Own (fun r=>r < h.n) h k' []:=by
 refine WC.is (ZaP Zep ?_)
 unfold Za6 at hp
 let B:Nat→Prop:=(fun r=>r < h.n)
 have hO:Own B h h []:=Own.start0 h
 refine Zk (Zb (.b false) rfl (Ze (ZB (Zk (Zb v_a rfl ?_)))))
 refine Zc (Zak (hO.rd0 s_a.rd) rfl) (Zb v_b rfl (Zc (Zak (hO.rd0 s_b.rd) rfl) (Zc (Zc2 rfl rfl) (Ze (zC hp rfl (fun s hp=>?_) (fun s hp=>?_))))))
 ·refine Zk (Zb (.b false) rfl (Ze (Zav (zE (z8 (Zag rfl ZQ) ?_)))))
  cases hp
  exact ⟨rfl,(hO.pk [])⟩
 ·refine Zat (ZB (Zk (Zb (.n 0) rfl (Ze (zX (Zb7 hp (fun i fr k=>fr 0=v_a∧fr 1=v_b∧fr 5=.n i∧Own B h k []) (fun | .inl _,e,fr,k=>e=(.exit 0)∧Own B h k [] | .inr _,e,fr,k=>e=.ret∧fr 4=.b false∧Own B h k []) ⟨rfl,rfl,rfl,(hO.pk [])⟩ ?_ ?_))))))
  ·rintro i E A ⟨l,q,f,j⟩ C hp
   dsimp only [Za6.s0] at hp
   refine ZB (Zk (Zb _ f (Zb _ l (Zc (Zak (j.rd0 s_a.rd) rfl) (Zc (zH rfl rfl) (Ze (zC hp rfl (fun t hp=>?_) (fun t hp=>?_))))))))
   ·refine Zat (ZB (zX (ZB (Zhw ?_))))
    have d:=j.bump 9
    refine ZaV _ l (ZaV _ f (ckk hp fun m hp=>zt rfl (zi (d.rd0 s_a.rd) rfl rfl m) (zt rfl (Zdu (d.rd0 s_a.rd) rfl (Zg m)) (ZaV _ q (ZaV _ f (ckk hp fun o hp=>zt rfl (zi (d.rd0 s_b.rd) rfl rfl o) ?_))))))
    refine zt rfl (Zdu (d.rd0 s_b.rd) rfl (Zg o)) (zt rfl (Zp1 (as:=Zd.c (gi a i.toNat)) (bs:=Zd.c (gi b i.toNat)) rfl rfl (Mu.Zd.same _ _)) (Zba (Zo (zC hp rfl (fun v hp=>?_) (fun v hp=>?_)))))
    ·refine Zk (Zb (.b false) rfl (Ze (Zav (Zbw (zE ?_)))))
     cases hp
     exact ⟨nofun,rfl,rfl,(d.pk [])⟩
    ·refine Zc1 (Zaa (Zo (zD (Zb _ f (ckk hp fun w hp=>Zc (zf rfl rfl w) (Zb (.n (i + 1)) rfl (Zh ?_)))))))
     cases hp
     exact ⟨rfl,l,q,rfl,(d.pk [])⟩
   ·refine Zbo (zK ?_)
    cases hp
    exact ⟨nofun,rfl,(j.pk [])⟩
  rintro (_ | _) hp _ D y p
  ·obtain ⟨rfl,g⟩:=p
   refine Zaw (Zo (Zk (Zb (.b true) rfl (Ze (Zav (z8 (Zag rfl ZQ) ?_))))))
   cases hp
   exact ⟨rfl,(g.pk [])⟩
  ·obtain ⟨rfl,x,g⟩:=p
   refine Zbw (zE (z8 (Zag x ZQ) ?_))
   cases hp
   exact ⟨rfl,(g.pk [])⟩

theorem Zbm.ok {h:Hp}    {r:Bool} (hp:Zbm =some r) :
  ∃ u k',Is G 190 [] h u k'∧V.b r=u∧Own (fun r=>r < h.n) h k' []:=by
 refine WC.is (ZaP ZdL ?_)
 unfold Zbm at hp
 let B:Nat→Prop:=(fun r=>r < h.n)
 have hO:Own B h h []:=Own.start0 h
 refine Zk (Zb (.b false) rfl (Ze (Zk ?_)))
 obtain ⟨x,⟨aB,I,K,ar,rfl,af⟩,hp⟩:=bdk hp fun _=>Zbx.ok (h:=h)  
 refine ZaK rfl ZhV K ?_
 have D:=hO.call af rfl
 obtain ⟨⟨x1,x2,x3⟩,⟨aC,an,L,l,rfl,ag⟩,hp⟩:=bdk hp fun _=>ZaD.ok (h:=I)  (D.sl 0 rfl) (Sl.nil:Sl e_bool I .sn ([]:List Bool))
 refine ZaK rfl rfl L ?_
 have E:=D.call ag rfl
 refine Zb (.tu [l,.n x2,.n x3]) rfl (Zc (ZbF rfl rfl) (Zc (ZbF rfl rfl) (Zc (ZbF rfl rfl) (Zb l rfl (Zb (.n x2) rfl (Zb (.n x3) rfl (Ze ?_)))))))
 refine Zk (Zb l rfl ?_)
 obtain ⟨⟨x4,x5⟩,⟨aD,ao,M,i,rfl,ah⟩,hp⟩:=bdk hp fun _=>ZbP.ok (h:=an)  (E.sl 1 rfl)
 refine ZaK rfl rfl M ?_
 have ac:=E.call ah rfl
 refine Zb (.tu [i,.n x5]) rfl (Zc (ZbF rfl rfl) (Zc (ZbF rfl rfl) (Zb i rfl (Zb (.n x5) rfl (Ze (Zk ?_))))))
 obtain ⟨x6,⟨aE,J,N,au,rfl,ai⟩,hp⟩:=bdk hp fun _=>zh.ok (h:=ao)  
 refine ZaK rfl rfl N ?_
 have F:=ac.call ai rfl
 obtain ⟨⟨x7,x8,x9⟩,⟨aF,j,O,o,rfl,aj⟩,hp⟩:=bdk hp fun _=>ZaD.ok (h:=J)  (F.sl 3 rfl) (Sl.nil:Sl e_bool J .sn ([]:List Bool))
 refine ZaK rfl rfl O ?_
 have H:=F.call aj rfl
 refine Zb (.tu [o,.n x8,.n x9]) rfl (Zc (ZbF rfl rfl) (Zc (ZbF rfl rfl) (Zc (ZbF rfl rfl) (Zb o rfl (Zb (.n x8) rfl (Zb (.n x9) rfl (Ze ?_)))))))
 refine Zk (Zb (.n x3) rfl (Zc (Zb0 rfl rfl) (Zb (.b (decide (x3=0))) rfl (Zai 3 (fun f k=>j=k∧f 31=.b ((decide (x3=0)) && (decide (0 < x2)))∧f 2=.n x2∧f 4=i∧f 5=.n x5∧f 8=.n x9) ?_ ?_))))
 ·rcases bc (decide (x3=0)) with c | c
  ·refine Zu rfl c (Zb (.n x2) rfl (Zu rfl c (Zc (ZdC rfl rfl) (Zc (ZcY rfl c rfl) (Zh ?_)))))
   exact ⟨rfl,rfl,rfl,rfl,rfl,rfl⟩
  ·refine Zl rfl c (Zl rfl c (Zc (ZcX (w:=(decide (x3=0)) && (decide (0 < x2))) rfl c rfl) (Zh ?_)))
   exact ⟨rfl,rfl,rfl,rfl,rfl,rfl⟩
 rintro av _ ⟨rfl,S,R,p,q,s⟩
 refine Zb _ S (Zai 3 (fun f k=>j=k∧f 35=.b (((decide (x3=0)) && (decide (0 < x2))) && (decide (x2 < 3)))∧f 4=i∧f 5=.n x5∧f 8=.n x9) ?_ ?_)
 ·rcases bc ((decide (x3=0)) && (decide (0 < x2))) with d | d
  ·refine Zu rfl d (Zb _ R (Zu rfl d (Zc (zH rfl rfl) (Zc (ZcY rfl d rfl) (Zh ?_)))))
   exact ⟨rfl,rfl,p,q,s⟩
  ·refine Zl rfl d (Zl rfl d (Zc (ZcX (w:=((decide (x3=0)) && (decide (0 < x2))) && (decide (x2 < 3))) rfl d rfl) (Zh ?_)))
   exact ⟨rfl,rfl,p,q,s⟩
 rintro aw _ ⟨rfl,T,y,U,A⟩
 refine Zb _ T (Zai 3 (fun f k=>j=k∧f 39=.b ((((decide (x3=0)) && (decide (0 < x2))) && (decide (x2 < 3))) && (decide (x5=0)))∧f 4=i∧f 8=.n x9) ?_ ?_)
 ·rcases bc (((decide (x3=0)) && (decide (0 < x2))) && (decide (x2 < 3))) with e | e
  ·refine Zu rfl e (Zb _ U (Zu rfl e (Zc (Zb0 rfl rfl) (Zc (ZcY rfl e rfl) (Zh ?_)))))
   exact ⟨rfl,rfl,y,A⟩
  ·refine Zl rfl e (Zl rfl e (Zc (ZcX (w:=(((decide (x3=0)) && (decide (0 < x2))) && (decide (x2 < 3))) && (decide (x5=0))) rfl e rfl) (Zh ?_)))
   exact ⟨rfl,rfl,y,A⟩
 rintro ax _ ⟨rfl,W,X,C⟩
 refine Zb _ W ?_
 obtain ⟨t,am,hp⟩:=ZaZ hp
 refine Zai 4 (fun f k=>Own B h k [eSl Zd ar x,eSl Zd l x1,eSl Zd i x4,eSl Zd au x6,eSl Zd o x7]∧f 44=.b t∧f 8=.n x9) ?_ ?_
 ·clear hp; rcases Zbn am with ⟨a,hp⟩ | ⟨a,hp⟩
  ·refine Zu rfl a (Zb _ X (Zu rfl a ?_))
   obtain ⟨x10,⟨aG,ap,P,aI,rfl,ak⟩,hp⟩:=bdk hp fun _=>Zbx.ok (h:=j)  
   refine ZaK rfl ZhV P ?_
   have m:=H.call ak rfl
   refine Zu rfl a ?_
   obtain ⟨x11,⟨aH,aA,Q,rfl,al⟩,hp⟩:=bdk hp fun _=>Za6.ok (h:=ap)  (m.sl 2 rfl) (m.sl 5 rfl)
   refine ZaK rfl rfl Q ?_
   have ad:=m.call al rfl
   refine Zc (ZaS (v:=.b t) rfl a (Eq.trans (b:=V.b x11) rfl (congrArg V.b (Option.some.inj hp)))) (Zh ?_)
   exact ⟨ad.pick [0,1,2,3,4] rfl (by decide),rfl,C⟩
  ·refine Zl rfl a (Zl rfl a (Zl rfl a (Zc (ZaL (v:=.b t) rfl a (Eq.trans (b:=V.b false) rfl (congrArg V.b (Option.some.inj hp)))) (Zh ?_))))
   exact ⟨H.pick [0,1,2,3,4] rfl (by decide),rfl,C⟩
 rintro ay aq ⟨ae,Y,aa⟩
 refine Zb _ Y (Zai 3 (fun f k=>aq=k∧f 48=.b (t && (decide (x9=13)))) ?_ ?_)
 ·rcases bc t with g | g
  ·refine Zu rfl g (Zb _ aa (Zu rfl g (Zc (Zb0 rfl rfl) (Zc (ZcY rfl g rfl) (Zh ?_)))))
   exact ⟨rfl,rfl⟩
  ·refine Zl rfl g (Zl rfl g (Zc (ZcX (w:=t && (decide (x9=13))) rfl g rfl) (Zh ?_)))
   exact ⟨rfl,rfl⟩
 rintro az _ ⟨rfl,ab⟩
 refine Zb _ ab (Ze (Zav (z8 (Zag rfl ZQ) ?_)))
 cases hp
 exact ⟨rfl,(ae.pk [])⟩

theorem zG.ok {h:Hp} {l:List Za} {v_l:V} (s_l:Sl Zd h v_l l) {r:Int} (hp:zG l=some r) :
  ∃ u k',Is G 34 [v_l] h u k'∧V.n r=u∧Own (fun r=>r < h.n) h k' []:=by
 refine WC.is (ZaP ZdO ?_)
 unfold zG at hp
 let B:Nat→Prop:=(fun r=>r < h.n)
 have hO:Own B h h []:=Own.start0 h
 refine Zk (Zb (.n 0) rfl (Ze (ZB (Zk (Zb v_l rfl ?_)))))
 refine Zc (Zak (hO.rd0 s_l.rd) rfl) (Zc (ZdC rfl rfl) (Ze (zC hp rfl (fun aa hp=>?_) (fun aa hp=>?_))))
 ·refine Zk (Zb (.n 6) rfl (Ze (Zav (zE (z8 (Zag rfl ZQ) ?_)))))
  cases hp
  exact ⟨rfl,(hO.pk [])⟩
 ·refine Zat (ZB (Zk (Zb (.n 0) rfl (Ze (zX (Zb7 hp (fun v fr k=>fr 0=v_l∧fr 3=.n v∧Own B h k []) (fun | .inl _,e,fr,k=>e=(.exit 0)∧Own B h k [] | .inr x,e,fr,k=>e=.ret∧fr 2=.n x∧Own B h k []) ⟨rfl,rfl,(hO.pk [])⟩ ?_ ?_))))))
  ·rintro v aI aD ⟨X,Y,K⟩ aF hp
   dsimp only [zG.s0] at hp
   refine ZB (Zk (Zb _ Y (Zb _ X (Zc (Zak (K.rd0 s_l.rd) rfl) (Zc (zH rfl rfl) (Ze (zC hp rfl (fun ac hp=>?_) (fun ac hp=>?_))))))))
   ·refine Zat (ZB (zX (Zk (Zb (.n 0) rfl (Ze ?_)))))
    refine zX (Zb7 hp (fun d fr k=>fr 0=v_l∧fr 3=.n v∧fr 4=.n d∧Own B h k []) (fun | .inl _,e,fr,k=>e=(.exit 2)∧fr 0=v_l∧fr 3=.n v∧Own B h k [] | .inr x1,e,fr,k=>e=.ret∧fr 2=.n x1∧Own B h k []) ⟨X,Y,rfl,(K.pk [])⟩ ?_ ?_)
    ·rintro d aK D ⟨p,q,s,c⟩ aG hp
     dsimp only [zG.s1] at hp
     refine ZB (Zk (Zb _ s (Zc (zH rfl rfl) (Ze (zC hp rfl (fun ad hp=>?_) (fun ad hp=>?_))))))
     ·refine Zat (ZB (zX (Zk (Zb _ p (Zb _ q (Zb _ s ?_))))))
      refine ckk hp fun j hp=>Zc (zi (c.rd0 s_l.rd) rfl rfl j) (Zc (Zbt (c.rd0 s_l.rd) (Zg j) rfl rfl) (ckk hp fun t hp=>Zc (Zbj (c.rd0 s_l.rd) (Zg j) rfl rfl t rfl) (Zc (zS (c.rd0 s_l.rd) rfl (Zg j) (zI t)) (Zb (.n (((gi l v.toNat).Next).get d)) rfl (Ze ?_)))))
      refine Zk (Zb _ p (Zb _ q (Zb _ s (Zc (zi (c.rd0 s_l.rd) rfl rfl j) (Zc (Zbt (c.rd0 s_l.rd) (Zg j) rfl rfl) (Zc (Zbj (c.rd0 s_l.rd) (Zg j) rfl rfl t rfl) (Zc (zS (c.rd0 s_l.rd) rfl (Zg j) (Zcm t)) ?_)))))))
      refine Zb (.n (((gi l v.toNat).Owner).get d)) rfl (Ze (ZB (Zk (Zb (.n (((gi l v.toNat).Next).get d)) rfl (Zc (Zb0 rfl rfl) (Zh ?_))))))
      refine Zo (zC hp rfl (fun ae hp=>?_) (fun ae hp=>?_))
      ·refine ZB (Zk (Zb (.n (((gi l v.toNat).Owner).get d)) rfl (Zc (Zc2 rfl rfl) (Ze (zC hp rfl (fun af hp=>?_) (fun af hp=>?_))))))
       ·refine Zk (Zb (.n 9) rfl (Ze (Zav (zE (zE (Zbw ?_))))))
        refine zE ?_
        cases hp
        exact ⟨nofun,rfl,rfl,(c.pk [])⟩
       ·refine Zat (Zbo (zK (Zaw (Zo (zD (Zb _ s (ckk hp fun ah hp=>?_)))))))
        refine Zc (zf rfl rfl ah) (Zb (.n (d + 1)) rfl (Zh ?_))
        cases hp
        exact ⟨rfl,p,q,rfl,(c.pk [])⟩
      ·refine Zat (ZB (Zk (Zb (.n (((gi l v.toNat).Next).get d)) rfl (Zc (zH rfl rfl) (Zb (.b (decide ((((gi l v.toNat).Next).get d) < 0))) rfl (Zai 5 (fun f k=>D=k∧f 45=.b ((decide ((((gi l v.toNat).Next).get d) < 0)) || (decide ((l.length:Int)≤(((gi l v.toNat).Next).get d))))∧f 0=v_l∧f 3=.n v∧f 4=.n d∧f 5=.n (((gi l v.toNat).Next).get d)∧f 6=.n (((gi l v.toNat).Owner).get d)) ?_ ?_))))))
       ·rcases bc (decide ((((gi l v.toNat).Next).get d) < 0)) with g | g
        ·refine Zl rfl g (Zl rfl g (Zl rfl g (Zl rfl g (Zc (Zcs (w:=(decide ((((gi l v.toNat).Next).get d) < 0)) || (decide ((l.length:Int)≤(((gi l v.toNat).Next).get d)))) rfl g rfl) (Zh ?_)))))
         exact ⟨rfl,rfl,p,q,s,rfl,rfl⟩
        ·refine Zu rfl g (Zb (.n (((gi l v.toNat).Next).get d)) rfl (Zu rfl g (Zb _ p (Zu rfl g (Zc (Zak (c.rd0 s_l.rd) rfl) (Zu rfl g (Zc (ZcZ rfl rfl) (Zc (Zct rfl g rfl) ?_))))))))
         refine Zh ?_
         exact ⟨rfl,rfl,p,q,s,rfl,rfl⟩
       rintro ay _ ⟨rfl,ak,N,E,O,F,P⟩
       refine Zb _ ak (Zai 4 (fun f k=>D=k∧f 50=.b (((decide ((((gi l v.toNat).Next).get d) < 0)) || (decide ((l.length:Int)≤(((gi l v.toNat).Next).get d)))) || (decide (((gi l v.toNat).Next).get d=v)))∧f 0=v_l∧f 3=.n v∧f 4=.n d∧f 5=.n (((gi l v.toNat).Next).get d)∧f 6=.n (((gi l v.toNat).Owner).get d)) ?_ ?_)
       ·rcases bc ((decide ((((gi l v.toNat).Next).get d) < 0)) || (decide ((l.length:Int)≤(((gi l v.toNat).Next).get d)))) with i | i
        ·refine Zl rfl i (Zl rfl i (Zl rfl i (Zc (Zcs (w:=((decide ((((gi l v.toNat).Next).get d) < 0)) || (decide ((l.length:Int)≤(((gi l v.toNat).Next).get d)))) || (decide (((gi l v.toNat).Next).get d=v))) rfl i rfl) (Zh ?_))))
         exact ⟨rfl,rfl,N,E,O,F,P⟩
        ·refine Zu rfl i (Zb _ F (Zu rfl i (Zb _ E (Zu rfl i (Zc (Zb0 rfl rfl) (Zc (Zct rfl i rfl) (Zh ?_)))))))
         exact ⟨rfl,rfl,N,E,O,F,P⟩
       rintro az _ ⟨rfl,al,A,H,C,Q,I⟩
       refine Ze (zC hp al (fun ag hp=>?_) (fun ag hp=>?_))
       ·refine Zk (Zb (.n 3) rfl (Ze (Zav (zE (Zbw (zE ?_))))))
        cases hp
        exact ⟨nofun,rfl,rfl,(c.pk [])⟩
       ·refine Zat (Zk (Zb _ A (Zb _ Q (Zb _ C (ckk hp fun M hp=>Zc (zf rfl rfl M) ?_)))))
        refine Zc (ZcL rfl rfl (by decide)) (ckk hp fun m hp=>Zc (zi (c.rd0 s_l.rd) rfl rfl m) (Zc (Zbt (c.rd0 s_l.rd) (Zg m) rfl rfl) (ckk hp fun y hp=>Zc (Zbj (c.rd0 s_l.rd) (Zg m) rfl rfl y rfl) (Zc (zS (c.rd0 s_l.rd) rfl (Zg m) (zI y)) (Zb _ H (Zc (Zc2 rfl rfl) ?_))))))
        refine Zb (.b (!(decide (((gi l (((gi l v.toNat).Next).get d:Int).toNat).Next).get ((d + 2).tmod 4)=v)))) rfl (Zai 12 (fun f k=>D=k∧f 74=.b ((!(decide (((gi l (((gi l v.toNat).Next).get d:Int).toNat).Next).get ((d + 2).tmod 4)=v))) || (!(decide (((gi l (((gi l v.toNat).Next).get d:Int).toNat).Owner).get ((d + 2).tmod 4)=((gi l v.toNat).Owner).get d))))∧f 0=v_l∧f 3=.n v∧f 4=.n d∧f 6=.n (((gi l v.toNat).Owner).get d)) ?_ ?_)
        ·rcases bc (!(decide (((gi l (((gi l v.toNat).Next).get d:Int).toNat).Next).get ((d + 2).tmod 4)=v))) with a | a
         ·refine Zl rfl a (Zl rfl a (Zl rfl a (Zl rfl a (Zl rfl a (Zl rfl a (Zl rfl a (Zl rfl a (Zl rfl a ?_))))))))
          refine Zl rfl a (Zl rfl a (Zc (Zcs (w:=(!(decide (((gi l (((gi l v.toNat).Next).get d:Int).toNat).Next).get ((d + 2).tmod 4)=v))) || (!(decide (((gi l (((gi l v.toNat).Next).get d:Int).toNat).Owner).get ((d + 2).tmod 4)=((gi l v.toNat).Owner).get d)))) rfl a rfl) (Zh ?_)))
          exact ⟨rfl,rfl,A,H,C,I⟩
         ·refine Zu rfl a (Zb _ A (Zu rfl a (Zb _ Q (Zu rfl a (Zb _ C (Zu rfl a (Zc (zf rfl rfl M) (Zu rfl a ?_))))))))
          refine Zc (ZcL rfl rfl (by decide)) (Zu rfl a (Zc (zi (c.rd0 s_l.rd) rfl rfl m) (Zu rfl a (Zc (Zbt (c.rd0 s_l.rd) (Zg m) rfl rfl) (Zu rfl a (Zc (Zbj (c.rd0 s_l.rd) (Zg m) rfl rfl y rfl) (Zu rfl a (Zc (zS (c.rd0 s_l.rd) rfl (Zg m) (Zcm y)) ?_))))))))
          refine Zu rfl a (Zb _ I (Zu rfl a (Zc (Zc2 rfl rfl) (Zc (Zct rfl a rfl) (Zh ?_)))))
          exact ⟨rfl,rfl,A,H,C,I⟩
        rintro aA _ ⟨rfl,an,R,S,T,am⟩
        refine Zb _ an (Zai 3 (fun f k=>D=k∧f 78=.b (((!(decide (((gi l (((gi l v.toNat).Next).get d:Int).toNat).Next).get ((d + 2).tmod 4)=v))) || (!(decide (((gi l (((gi l v.toNat).Next).get d:Int).toNat).Owner).get ((d + 2).tmod 4)=((gi l v.toNat).Owner).get d)))) || (decide ((((gi l v.toNat).Owner).get d) < (-2))))∧f 0=v_l∧f 3=.n v∧f 4=.n d) ?_ ?_)
        ·rcases bc ((!(decide (((gi l (((gi l v.toNat).Next).get d:Int).toNat).Next).get ((d + 2).tmod 4)=v))) || (!(decide (((gi l (((gi l v.toNat).Next).get d:Int).toNat).Owner).get ((d + 2).tmod 4)=((gi l v.toNat).Owner).get d)))) with o | o
         ·refine Zl rfl o (Zl rfl o (Zc (Zcs (w:=((!(decide (((gi l (((gi l v.toNat).Next).get d:Int).toNat).Next).get ((d + 2).tmod 4)=v))) || (!(decide (((gi l (((gi l v.toNat).Next).get d:Int).toNat).Owner).get ((d + 2).tmod 4)=((gi l v.toNat).Owner).get d)))) || (decide ((((gi l v.toNat).Owner).get d) < (-2)))) rfl o rfl) (Zh ?_)))
          exact ⟨rfl,rfl,R,S,T⟩
         ·refine Zu rfl o (Zb _ am (Zu rfl o (Zc (zH rfl rfl) (Zc (Zct rfl o rfl) (Zh ?_)))))
          exact ⟨rfl,rfl,R,S,T⟩
        rintro aB _ ⟨rfl,ar,ao,ap,aq⟩
        refine Ze (zC hp ar (fun ab hp=>?_) (fun ab hp=>?_))
        ·refine Zk (Zb (.n 9) rfl (Ze (Zav (Zbw (zE ?_)))))
         cases hp
         exact ⟨nofun,rfl,rfl,(c.pk [])⟩
        ·refine Zc1 (Zaa (Zo (zD (Zb _ aq (ckk hp fun ai hp=>Zc (zf rfl rfl ai) (Zb (.n (d + 1)) rfl (Zh ?_)))))))
         cases hp
         exact ⟨rfl,ao,ap,rfl,(c.pk [])⟩
     ·refine Zbo (zK ?_)
      cases hp
      exact ⟨nofun,rfl,p,q,(c.pk [])⟩
    rintro (_ | x1) hp _ aJ aE W
    ·obtain ⟨rfl,av,ax,L⟩:=W
     refine Zaw (Zaa (Zo (zD (Zb _ ax (ckk hp fun aj hp=>Zc (zf rfl rfl aj) (Zb (.n (v + 1)) rfl (Zh ?_)))))))
     cases hp
     exact ⟨rfl,av,rfl,(L.pk [])⟩
    ·obtain ⟨rfl,aw,L⟩:=W
     refine Zbw (Zbw (zE ?_))
     cases hp
     exact ⟨nofun,rfl,aw,(L.pk [])⟩
   ·refine Zbo (zK ?_)
    cases hp
    exact ⟨nofun,rfl,(K.pk [])⟩
  rintro (_ | x) hp _ aH aC U
  ·obtain ⟨rfl,J⟩:=U
   refine Zaw (Zo (Zk (Zb (.n 0) rfl (Ze (Zav (z8 (Zag rfl ZQ) ?_))))))
   cases hp
   exact ⟨rfl,(J.pk [])⟩
  ·obtain ⟨rfl,au,J⟩:=U
   refine Zbw (zE (z8 (Zag au ZQ) ?_))
   cases hp
   exact ⟨rfl,(J.pk [])⟩

end Mu
