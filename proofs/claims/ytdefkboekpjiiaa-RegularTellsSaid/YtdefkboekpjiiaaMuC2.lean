/- The code comes to what was worked out. -/
import Derived.Test.YtdefkboekpjiiaaMuDf
import Derived.Test.YtdefkboekpjiiaaMuPa
import Derived.Test.YtdefkboekpjiiaaMuC1
set_option linter.unusedVariables false
set_option linter.unnecessarySimpa false
set_option linter.unusedSimpArgs false
set_option maxHeartbeats 2000000
set_option maxRecDepth 10000
namespace Mu
open Go (IntKind BinOp UnOp)
theorem Za8.ok {h:Hp} {turns:List Int} {v_turns:V} (s_turns:Sl zT h v_turns turns) {r:(List ZA)} (hp:Za8 turns=some r) :
  ∃ u k',Is G 19 [v_turns] h u k'∧∃ H,H=u∧Own (fun r=>r < h.n) h k' [eSl Z6 H r]:=by
 refine WC.is (ZaP Zfh ?_)
 unfold Za8 at hp
 let B:Nat→Prop:=(fun r=>r < h.n)
 have hO:Own B h h []:=Own.start0 h
 refine Zi (Zb (.sn) rfl (Ze (Zi (Zb (.sn) rfl (Zg ?_)))))
 refine Zo (ZB (Zi (Zb v_turns rfl (Zc (Zae (hO.rd0 s_turns.rd) rfl) (Zb (.n 0) rfl (Ze ?_))))))
 refine Zaa ?_
 have S:=hO.nil Z6
 refine Zb7 hp (fun | (l,x),fr,k=>∃ a,fr 3=a∧fr 7=v_turns∧fr 8=.n (turns.length:Int)∧fr 9=.n x∧Own B h k [eSl Z6 a l]) (fun l1 e fr k=>e=(.exit 0)∧∃ f,fr 3=f∧Own B h k [eSl Z6 f l1]) ⟨V.sn,rfl,rfl,rfl,rfl,(S.pk [0])⟩ ?_ ?_
 ·rintro ⟨l,x⟩ ao af ⟨a,o,p,q,d,b⟩ al hp
  dsimp only [Za8.s0] at hp
  refine Zi (Zc (zF d q) (Ze (ZB (zD hp rfl (fun J hp=>?_) (fun J hp=>?_)))))
  ·refine Zas (ZB (Zaa (Zi (Zb _ d (ckk hp fun t hp=>Zc (ZZ (b.rd0 s_turns.rd) p d t) ?_)))))
   refine Zc (zN (b.rd0 s_turns.rd) rfl (Zf t) rfl) (Zb (.n x) rfl (Zb (.n (gi turns x.toNat)) rfl (Ze (ZB (Zi (Zb (.n (gi turns x.toNat)) rfl ?_))))))
   refine Zc (zF rfl rfl) (Ze (zD hp rfl (fun K hp=>?_) (fun K hp=>?_)))
   ·refine Zbq (zM (Zav (Zo (zI (ckk hp fun M hp=>Zc (zc d rfl M) (Zb (.n (x + 1)) rfl (Zg ?_)))))))
    cases hp
    exact ⟨rfl,a,o,p,q,rfl,(b.pk [0])⟩
   ·refine Zas (Zi (Zb (.n (gi turns x.toNat)) rfl (ckk hp fun N hp=>Zc (ZlF rfl N) (Zb (.n 0) rfl (Zg ?_)))))
    refine Zo (Zaa (Zb7 hp (fun | (l2,x1),fr,k=>∃ g,fr 3=g∧fr 4=.n x∧fr 7=v_turns∧fr 8=.n (turns.length:Int)∧fr 9=.n x∧fr 17=.n (-(gi turns x.toNat))∧fr 18=.n x1∧Own B h k [eSl Z6 g l2]) (fun l3 e fr k=>e=(.exit 2)∧∃ i,fr 3=i∧fr 7=v_turns∧fr 8=.n (turns.length:Int)∧fr 9=.n x∧Own B h k [eSl Z6 i l3]) ⟨a,o,rfl,p,q,d,rfl,rfl,(b.pk [0])⟩ ?_ ?_))
    ·rintro ⟨l2,x1⟩ aq ai ⟨g,y,A,C,D,F,w,s,j⟩ am hp
     dsimp only [Za8.s1] at hp
     refine Zi (Zc (zF s w) (Ze (ZB (zD hp rfl (fun L hp=>?_) (fun L hp=>?_)))))
     ·refine Zas (ZB (Zaa (Zi (Zb _ s (Zb (.n x1) rfl (Zg ?_))))))
      refine Zo (zI (Zb _ y (Zb _ A (Zb (.n x1) rfl (Zc (Zc4 (cs:=Z6.c (⟨x,x1⟩:ZA)) (by rw [(zp (v:=.n x) rfl (zp (v:=.n x1) rfl ZaN))]; rfl)) (zz (j.bsl (E:=Z6) (l:=[(⟨x,x1⟩:ZA)]) j.fr (by rw [(zp (v:=.ag (Z6.c (⟨x,x1⟩:ZA))) rfl ZaN)]; rfl) rfl) ?_))))))
      rintro au aj ⟨ar,ac,m⟩
      refine ckk hp fun O hp=>zz (m.app (bytes:=16) 0 m.fr rfl (m.sl 1 rfl) rfl rfl (fun _=>rfl) O (by decide)) ?_
      rintro I ak ⟨ad,U⟩
      refine Zb I rfl (Zg (Zaf (Zo (zI (ckk hp fun P hp=>Zc (zc s rfl P) (Zb (.n (x1 + 1)) rfl (Zg ?_)))))))
      cases hp
      exact ⟨rfl,I,rfl,A,C,D,F,w,rfl,(U.pk [0])⟩
     ·refine Zbq (zM ?_)
      cases hp
      exact ⟨nofun,rfl,g,y,C,D,F,(j.pk [0])⟩
    rintro l3 hp _ ap ah ⟨rfl,i,X,Y,aa,ab,T⟩
    refine Zav (Zaf (Zo (zI (ckk hp fun Q hp=>Zc (zc ab rfl Q) (Zb (.n (x + 1)) rfl (Zg ?_))))))
    cases hp
    exact ⟨rfl,i,X,Y,aa,rfl,(T.pk [0])⟩
  ·refine Zbq (zM ?_)
   cases hp
   exact ⟨nofun,rfl,a,o,(b.pk [0])⟩
 rintro l1 hp _ an ae ⟨rfl,f,W,R⟩
 refine Zav (Zo (Zi (Zb _ W (Zb f rfl (Ze (Zar ?_))))))
 refine z4 (zX rfl ZK) ?_
 cases hp
 exact ⟨f,rfl,(R.pk [0])⟩

theorem Zca.ok {h:Hp} {turns:List Int} {v_turns:V} (s_turns:Sl zT h v_turns turns) {r:(List Int)} (hp:Zca turns=some r) :
  ∃ u k',Is G 62 [v_turns] h u k'∧∃ q,q=u∧Own (fun r=>r < h.n) h k' [eSl zT q r]:=by
 refine WC.is (ZaP Zgc ?_)
 unfold Zca at hp
 let B:Nat→Prop:=(fun r=>r < h.n)
 have hO:Own B h h []:=Own.start0 h
 refine Zi (Zb (.sn) rfl (Ze (Zi (Zb v_turns rfl (Zc (Zae (hO.rd0 s_turns.rd) rfl) ?_)))))
 refine ckk hp fun t hp=>Zc (zc rfl rfl t) (ckk hp fun v hp=>zz (hO.mks (E:=zT) (y:=(0:Int)) (bytes:=8) (z:=((turns.length:Int) + 1)) hO.fr rfl rfl rfl v (by decide)) ?_)
 rintro b I ⟨Q,F,m⟩
 refine Zb b rfl (Ze (ZB (Zi (Zb v_turns rfl (Zc (Zae (m.rd0 s_turns.rd) rfl) (Zb (.n 0) rfl ?_))))))
 refine Ze (Zaa (Zb7 hp (fun | (l,x),fr,k=>fr 3=b∧fr 10=v_turns∧fr 11=.n (turns.length:Int)∧fr 12=.n x∧Own B h k [eSl zT b l]) (fun l1 e fr k=>e=(.exit 0)∧fr 3=b∧Own B h k [eSl zT b l1]) ⟨rfl,rfl,rfl,rfl,(m.pk [0])⟩ ?_ ?_))
 ·rintro ⟨l,x⟩ P K ⟨d,o,p,c,a⟩ N hp
  dsimp only [Zca.s0] at hp
  refine Zi (Zc (zF c p) (Ze (ZB (zD hp rfl (fun s hp=>?_) (fun s hp=>?_)))))
  ·refine Zas (ZB (Zaa (Zi (Zb _ c (ckk hp fun f hp=>Zc (ZZ (a.rd0 s_turns.rd) o c f) ?_)))))
   refine Zc (zN (a.rd0 s_turns.rd) rfl (Zf f) rfl) (Zb (.n x) rfl (Zb (.n (gi turns x.toNat)) rfl (Ze (zI (Zb _ d (Zb (.n x) rfl (ckk hp fun g hp=>?_)))))))
   refine Zc (zc rfl rfl g) (Zb _ d (Zb (.n x) rfl (ckk hp fun i hp=>Zc (ZZ (a.sl 0 rfl) rfl rfl i) (Zc (zN (a.sl 0 rfl) rfl (Zf i) rfl) (Zb (.n (gi turns x.toNat)) rfl (ckk hp fun w hp=>Zc (zc rfl rfl w) ?_))))))
   refine ckk hp fun j hp=>Zc (ZZ (a.sl 0 rfl) rfl rfl j) (zz (a.ste (y:=((gi l x.toNat) + (gi turns x.toNat))) 0 rfl rfl (Zf j) rfl rfl ⟨rfl,Nat.le_of_ble_eq_true rfl,rfl⟩ rfl) ?_)
   rintro _ L ⟨rfl,H,M,C⟩
   refine Zg (Zaf (Zo (zI (Zc (zc c rfl g) (Zb (.n (x + 1)) rfl (Zg ?_))))))
   cases hp
   exact ⟨rfl,d,o,p,rfl,(C.pk [0])⟩
  ·refine Zbq (zM ?_)
   cases hp
   exact ⟨nofun,rfl,d,(a.pk [0])⟩
 rintro l1 hp _ O J ⟨rfl,D,A⟩
 refine Zav (Zo (Zi (Zb _ D (Zb b rfl (Ze (Zar ?_))))))
 refine z4 (zX rfl ZK) ?_
 cases hp
 exact ⟨b,rfl,(A.pk [0])⟩

theorem Zdp.ok {h:Hp} {l:List Int} {a:ZA} {b:ZA} {v_l:V} (s_l:Sl zT h v_l l) {r:Int} (hp:Zdp l a b=some r) :
  ∃ u k',Is G 61 [v_l,.ag (Z6.c a),.ag (Z6.c b)] h u k'∧V.n r=u∧Own (fun r=>r < h.n) h k' []:=by
 refine WC.is (ZaP Zgz ?_)
 unfold Zdp at hp
 let B:Nat→Prop:=(fun r=>r < h.n)
 have hO:Own B h h []:=Own.start0 h
 refine Zi (zz (hO.boxd (cs:=Z6.c a) hO.fr rfl rfl) ?_)
 rintro _ R ⟨i,rfl,S,N,v⟩
 refine zz (v.boxd (cs:=Z6.c b) v.fr rfl rfl) ?_
 rintro _ x ⟨j,rfl,T,O,M⟩
 refine Zb (.n 0) rfl (Ze (ZB (ZhN ?_)))
 have d:=M.bump 18
 refine Zbk v_l rfl (z3 rfl (zG (r:=j) (o:=0) rfl rfl) (z3 rfl (ZU (d.box 1 rfl) rfl rfl) (ckk hp fun m hp=>z3 rfl (ZZ (d.rd0 s_l.rd) rfl rfl m) (z3 rfl (zN (d.rd0 s_l.rd) rfl (Zf m) rfl) (z3 rfl (zG (r:=j) (o:=0) rfl rfl) (z3 rfl (ZU (d.box 1 rfl) rfl rfl) (ckk hp fun A hp=>?_)))))))
 refine z3 rfl (ZhQ rfl rfl A) (Zbk v_l rfl (z3 rfl (zG (r:=i) (o:=0) rfl rfl) (z3 rfl (ZU (d.box 0 rfl) rfl rfl) (ckk hp fun p hp=>z3 rfl (ZZ (d.rd0 s_l.rd) rfl rfl p) (z3 rfl (zN (d.rd0 s_l.rd) rfl (Zf p) rfl) (z3 rfl (zG (r:=i) (o:=0) rfl rfl) (z3 rfl (ZU (d.box 0 rfl) rfl rfl) ?_)))))))
 refine ckk hp fun C hp=>z3 rfl (ZhQ rfl rfl C) (ckk hp fun D hp=>z3 rfl (ZhQ rfl rfl D) (Zbk (.n (((gi l (b.At:Int).toNat) - b.Part) - ((gi l (a.At:Int).toNat) - a.Part))) rfl (Zbi (Zo (ZB (ZB ?_))))))
 refine zI (Zc (zG (r:=j) (o:=0) rfl rfl) (Zc (ZU (d.box 1 rfl) rfl rfl) (Zc (zG (r:=i) (o:=0) rfl rfl) (Zc (ZU (d.box 0 rfl) rfl rfl) (Zc (zF rfl rfl) (Zb (.b (decide (b.At < a.At))) rfl (zK 13 (fun f k=>(x.bump 18)=k∧f 43=.b ((decide (b.At < a.At)) || ((decide (b.At=a.At)) && (decide (b.Part < a.Part))))∧f 0=v_l∧f 7=.n (((gi l (b.At:Int).toNat) - b.Part) - ((gi l (a.At:Int).toNat) - a.Part))) ?_ ?_)))))))
 ·rcases bc (decide (b.At < a.At)) with e | e
  ·refine Zh rfl e (Zh rfl e (Zh rfl e (Zh rfl e (Zh rfl e (Zh rfl e (ZeQ rfl (ZeQ rfl (ZeQ rfl ?_))))))))
   refine ZeQ rfl (ZeQ rfl (Zh rfl e (Zc (Zcb (w:=(decide (b.At < a.At)) || ((decide (b.At=a.At)) && (decide (b.Part < a.Part)))) rfl e rfl) (Zg ?_))))
   exact ⟨rfl,rfl,rfl,rfl⟩
  ·refine Zp rfl e (Zc (zG (r:=j) (o:=0) rfl rfl) (Zp rfl e (Zc (ZU (d.box 1 rfl) rfl rfl) (Zp rfl e (Zc (zG (r:=i) (o:=0) rfl rfl) (Zp rfl e (Zc (ZU (d.box 0 rfl) rfl rfl) (Zp rfl e ?_))))))))
   refine Zc (Zbl rfl rfl) (Zp rfl e (Zb (.b (decide (b.At=a.At))) rfl (zK 6 (fun f k=>(x.bump 18)=k∧f 42=.b ((decide (b.At=a.At)) && (decide (b.Part < a.Part)))∧f 0=v_l∧f 30=.b (decide (b.At < a.At))∧f 7=.n (((gi l (b.At:Int).toNat) - b.Part) - ((gi l (a.At:Int).toNat) - a.Part))) ?_ ?_)))
   ·rcases bc (decide (b.At=a.At)) with g | g
    ·refine Zp rfl g (Zc (zG (r:=j) (o:=0) rfl rfl) (Zp rfl g (Zc (ZU (d.box 1 rfl) rfl rfl) (Zp rfl g (Zc (zG (r:=i) (o:=0) rfl rfl) (Zp rfl g (Zc (ZU (d.box 0 rfl) rfl rfl) (Zp rfl g ?_))))))))
     refine Zc (zF rfl rfl) (Zp rfl e (Zc (ZcN rfl g rfl) (Zg ?_)))
     exact ⟨rfl,rfl,rfl,rfl,rfl⟩
    ·refine Zh rfl g (Zh rfl g (Zh rfl g (Zh rfl g (Zh rfl g (Zp rfl e (Zc (ZcM (w:=(decide (b.At=a.At)) && (decide (b.Part < a.Part))) rfl g rfl) (Zg ?_)))))))
     exact ⟨rfl,rfl,rfl,rfl,rfl⟩
   rintro P _ ⟨rfl,J,H,I,K⟩
   refine Zc (Zcc I e J) (Zg ?_)
   exact ⟨rfl,rfl,H,K⟩
 rintro Q _ ⟨rfl,L,s,t⟩
 refine Ze (zD hp L (fun y hp=>?_) (fun y hp=>?_))
 ·refine zI (Zb _ t (Zb _ s (Zb _ s (Zc (Zae (d.rd0 s_l.rd) rfl) (ckk hp fun E hp=>Zc (ZhQ rfl rfl E) (ckk hp fun q hp=>Zc (ZZ (d.rd0 s_l.rd) rfl rfl q) ?_))))))
  refine Zc (zN (d.rd0 s_l.rd) rfl (Zf q) rfl) (ckk hp fun F hp=>Zc (zc rfl rfl F) (Zb (.n ((((gi l (b.At:Int).toNat) - b.Part) - ((gi l (a.At:Int).toNat) - a.Part)) + (gi l ((l.length:Int) - 1:Int).toNat))) rfl (Ze (Zi (Zb (.n ((((gi l (b.At:Int).toNat) - b.Part) - ((gi l (a.At:Int).toNat) - a.Part)) + (gi l ((l.length:Int) - 1:Int).toNat))) rfl ?_)))))
  refine Zb (.n ((((gi l (b.At:Int).toNat) - b.Part) - ((gi l (a.At:Int).toNat) - a.Part)) + (gi l ((l.length:Int) - 1:Int).toNat))) rfl (Ze (Zar (z4 (zX rfl ZK) ?_)))
  cases hp
  exact ⟨rfl,(d.pk [])⟩
 ·refine Zas (Zi (Zb _ t (Zb (.n (((gi l (b.At:Int).toNat) - b.Part) - ((gi l (a.At:Int).toNat) - a.Part))) rfl (Ze (Zar ?_)))))
  refine z4 (zX rfl ZK) ?_
  cases hp
  exact ⟨rfl,(d.pk [])⟩

theorem ZaV.ok {h:Hp} {turns:List Int} {v_turns:V} (s_turns:Sl zT h v_turns turns) {r:ZA × ZA × Bool} (hp:ZaV turns=some r) :
  ∃ u k',Is G 24 [v_turns] h u k'∧V.tu [.ag (Z6.c r.1),.ag (Z6.c r.2.1),.b r.2.2]=u∧Own (fun r=>r < h.n) h k' []:=by
 refine WC.is (ZaP Zgb ?_)
 unfold ZaV at hp
 let B:Nat→Prop:=(fun r=>r < h.n)
 have hO:Own B h h []:=Own.start0 h
 refine Zi (zz (hO.alloc (cs:=Z6.c (⟨0,0⟩:ZA)) hO.fr) ?_)
 rintro _ ba ⟨a,rfl,bx,aZ,S⟩
 refine zz (S.alloc (cs:=Z6.c (⟨0,0⟩:ZA)) S.fr) ?_
 rintro _ aO ⟨d,rfl,bz,a2,U⟩
 refine Zb (.b false) rfl (Ze (ZB (Zi (Zb v_turns rfl ?_))))
 obtain ⟨x,⟨bK,aP,av,rfl,aJ⟩,hp⟩:=bdk hp fun _=>ZcR.ok (h:=aO)  (U.rd0 s_turns.rd)
 refine ZaI rfl rfl av ?_
 have F:=U.call aJ rfl
 refine Zc (ZcO rfl) (Ze (zD hp rfl (fun an hp=>?_) (fun an hp=>?_)))
 ·refine Zi (Zc (Zc4 (cs:=Z6.c (⟨(0:Int),(0:Int)⟩:ZA)) (by rw [ZaN]; rfl)) (Zc (Zc4 (cs:=Z6.c (⟨(0:Int),(0:Int)⟩:ZA)) (by rw [ZaN]; rfl)) (zz (F.stb (cs':=Z6.c (⟨(0:Int),(0:Int)⟩:ZA)) 0 rfl rfl rfl rfl ⟨rfl,Nat.le_of_ble_eq_true rfl,rfl⟩ rfl) ?_)))
  rintro _ bk ⟨rfl,a3,bp,aI⟩
  refine zz (aI.stb (cs':=Z6.c (⟨(0:Int),(0:Int)⟩:ZA)) 1 rfl rfl rfl rfl ⟨rfl,Nat.le_of_ble_eq_true rfl,rfl⟩ rfl) ?_
  rintro _ bl ⟨rfl,a4,bq,H⟩
  refine Zb (.b false) rfl (Ze (Zar (zE (z4 (Zgs rfl (H.box 0 rfl) rfl (Zgs rfl (H.box 1 rfl) rfl (zX rfl ZK))) ?_))))
  cases hp
  exact ⟨rfl,(H.pk [])⟩
 ·refine Zas (Zi (Zb v_turns rfl ?_))
  obtain ⟨x1,⟨bL,aQ,aw,f,rfl,aK⟩,hp⟩:=bdk hp fun _=>Za8.ok (h:=aP)  (F.rd0 s_turns.rd)
  refine ZaI rfl rfl aw ?_
  have W:=F.call aK rfl
  refine Zb v_turns rfl ?_
  obtain ⟨x2,⟨bM,bm,ax,g,rfl,aL⟩,hp⟩:=bdk hp fun _=>Zca.ok (h:=aQ)  (W.rd0 s_turns.rd)
  refine ZaI rfl rfl ax ?_
  have X:=W.call aL rfl
  refine Zb f rfl (Zb g rfl (Ze (ZB (Zi (Zb f rfl (Zc (Zae (X.sl 2 rfl) rfl) ?_))))))
  refine Zb (.n 0) rfl (Ze (Zaa (Zb7 hp (fun x3 fr k=>fr 2=.p a 0∧fr 3=.p d 0∧fr 5=f∧fr 6=g∧fr 20=f∧fr 21=.n (x1.length:Int)∧fr 22=.n x3∧Own B h k [zP a (Z6.c (⟨0,0⟩:ZA)),zP d (Z6.c (⟨0,0⟩:ZA)),eSl Z6 f x1,eSl zT g x2]) (fun | .inl _,e,fr,k=>e=(.exit 0)∧fr 2=.p a 0∧fr 3=.p d 0∧Own B h k [zP a (Z6.c (⟨0,0⟩:ZA)),zP d (Z6.c (⟨0,0⟩:ZA))] | .inr (x4,x5),e,fr,k=>e=.ret∧fr 2=.p a 0∧fr 3=.p d 0∧fr 4=.b true∧Own B h k [zP a (Z6.c x4),zP d (Z6.c x5)]) ⟨rfl,rfl,rfl,rfl,rfl,rfl,rfl,(X.pk [0,1,2,3])⟩ ?_ ?_)))
  ·rintro x3 bG bo ⟨aa,ad,ae,aS,ab,ac,I,s⟩ bD hp
   dsimp only [ZaV.s0] at hp
   refine Zi (Zc (zF I ac) (Ze (ZB (zD hp rfl (fun ao hp=>?_) (fun ao hp=>?_)))))
   ·refine Zas (ZB (Zaa (Zi (ckk hp fun O hp=>Zc (ZZ (s.sl 2 rfl) ab I O) (Zc (Zdb (s.sl 2 rfl) rfl (Zf O)) ?_)))))
    refine zz (s.alloc (cs:=Z6.c (⟨0,0⟩:ZA)) s.fr) ?_
    rintro _ bb ⟨am,rfl,bA,a5,aD⟩
    refine zz (aD.stb (cs':=Z6.c (gi x1 x3.toNat)) 4 rfl rfl rfl rfl ⟨rfl,Nat.le_of_ble_eq_true rfl,rfl⟩ rfl) ?_
    rintro _ bc ⟨rfl,a6,br,T⟩
    refine Ze (Zi (Zb _ ae (Zc (Zae (T.sl 2 rfl) rfl) (Zb (.n 0) rfl (Ze ?_)))))
    refine Zaa (Zb7 hp (fun x6 fr k=>fr 2=.p a 0∧fr 3=.p d 0∧fr 5=f∧fr 6=g∧fr 8=.p am 0∧fr 20=f∧fr 21=.n (x1.length:Int)∧fr 22=.n x3∧fr 26=f∧fr 27=.n (x1.length:Int)∧fr 28=.n x6∧Own B h k [zP a (Z6.c (⟨0,0⟩:ZA)),zP d (Z6.c (⟨0,0⟩:ZA)),eSl Z6 f x1,eSl zT g x2,zP am (Z6.c (gi x1 x3.toNat))]) (fun | .inl _,e,fr,k=>e=(.exit 2)∧fr 2=.p a 0∧fr 3=.p d 0∧fr 5=f∧fr 6=g∧fr 20=f∧fr 21=.n (x1.length:Int)∧fr 22=.n x3∧Own B h k [zP a (Z6.c (⟨0,0⟩:ZA)),zP d (Z6.c (⟨0,0⟩:ZA)),eSl Z6 f x1,eSl zT g x2] | .inr x7,e,fr,k=>e=.ret∧fr 2=.p a 0∧fr 3=.p d 0∧fr 4=.b true∧Own B h k [zP a (Z6.c (gi x1 x3.toNat)),zP d (Z6.c x7)]) ⟨aa,ad,ae,aS,rfl,ab,ac,I,rfl,rfl,rfl,(T.pk [0,1,2,3,4])⟩ ?_ ?_)
    ·rintro x6 bI be ⟨t,A,al,M,N,af,ah,ai,aj,ak,L,l⟩ bE hp
     dsimp only [ZaV.s1] at hp
     refine Zi (Zc (zF L ak) (Ze (ZB (zD hp rfl (fun ap hp=>?_) (fun ap hp=>?_)))))
     ·refine Zas (ZB (Zaa (Zi (ckk hp fun P hp=>Zc (ZZ (l.sl 2 rfl) aj L P) (Zc (Zdb (l.sl 2 rfl) rfl (Zf P)) ?_)))))
      refine zz (l.alloc (cs:=Z6.c (⟨0,0⟩:ZA)) l.fr) ?_
      rintro _ bf ⟨bJ,rfl,bB,a7,aE⟩
      refine zz (aE.stb (cs':=Z6.c (gi x1 x6.toNat)) 5 rfl rfl rfl rfl ⟨rfl,Nat.le_of_ble_eq_true rfl,rfl⟩ rfl) ?_
      rintro _ aN ⟨rfl,a8,bs,v⟩
      refine Ze (Zi (Zb _ M (Zc (Zbz (v.box 4 rfl) N rfl) (Zc (Zbz (v.box 5 rfl) rfl rfl) ?_))))
      obtain ⟨x8,⟨bN,Y,ay,rfl,aM⟩,hp⟩:=bdk hp fun _=>Zdp.ok (h:=aN)  (v.sl 3 rfl)
      refine ZaI rfl rfl ay ?_
      have m:=v.call aM rfl
      refine Zc (Zbl rfl rfl) (Ze (zD hp rfl (fun aq hp=>?_) (fun aq hp=>?_)))
      ·refine ZB (ZeH ?_)
       have D:=m.bump 5
       have aB:=Fresh.start Y 5
       have bC:∀ {i:Nat},h.n≤Y.n + i:=Nat.le_trans m.n (Nat.le_add_right _ _)
       refine ZT (Zbz (D.box 4 rfl) N rfl) (ZT (Zbz (D.box 5 rfl) rfl rfl) (Zd1 (D.stb (cs':=Z6.c (gi x1 x3.toNat)) 0 rfl t rfl rfl ⟨rfl,Nat.le_of_ble_eq_true rfl,rfl⟩ rfl) ?_))
       rintro _ bg bO ⟨rfl,aA,bt,aF⟩
       have aC:=aB.kept aA (by decide)
       refine Zd1 (aF.stb (cs':=Z6.c (gi x1 x6.toNat)) 1 rfl A rfl rfl ⟨rfl,Nat.le_of_ble_eq_true rfl,rfl⟩ rfl) ?_
       rintro _ bh bP ⟨rfl,az,bu,aG⟩
       have a9:=aC.kept az (by decide)
       refine ZaU (.b true) rfl (Zcv ?_)
       refine And.intro ?_ ?_
       ·intro q hq
        simp only [List.mem_cons,List.not_mem_nil,or_false] at hq
        rcases hq with rfl | rfl
        ·refine z9 ?_ ?_
         ·exact (fun h=>nomatch h)
         ·exact (fun h=>nomatch h)
        ·refine ZkL ?_ ?_ ?_
         ·exact (fun r h1 h2=>m.apartAt (i:=5) (j:=0) rfl rfl (by decide) r (tch (ZbN h1) rfl) (tch (Zlf h2) t))
         ·exact (fun h=>nomatch h)
         ·exact (fun _ hm=>Nat.lt_irrefl _ (Nat.lt_of_lt_of_le (m.ltAt 5 rfl _ (tch (ZbN hm) rfl)) (Nat.le_add_right _ _)))
       refine Zo (Zar (Zbv (zE ?_)))
       cases hp
       exact ⟨nofun,rfl,t,A,rfl,(aG.pk [0,1])⟩
      ·refine Zc2 (Zaf (Zo (zI (ckk hp fun ar hp=>Zc (zc L rfl ar) (Zb (.n (x6 + 1)) rfl (Zg ?_))))))
       cases hp
       exact ⟨rfl,t,A,al,M,N,af,ah,ai,aj,ak,rfl,(m.pk [0,1,2,3,4])⟩
     ·refine Zbq (zM ?_)
      cases hp
      exact ⟨nofun,rfl,t,A,al,M,af,ah,ai,(l.pk [0,1,2,3])⟩
    rintro (_ | x7) hp _ bH bd R
    ·obtain ⟨rfl,J,K,aX,aY,aT,aU,aV,C⟩:=R
     refine Zav (Zaf (Zo (zI (ckk hp fun au hp=>Zc (zc aV rfl au) (Zb (.n (x3 + 1)) rfl (Zg ?_))))))
     cases hp
     exact ⟨rfl,J,K,aX,aY,aT,aU,rfl,(C.pk [0,1,2,3])⟩
    ·obtain ⟨rfl,J,K,aW,C⟩:=R
     refine Zbv (Zbv (zE ?_))
     cases hp
     exact ⟨nofun,rfl,J,K,aW,(C.pk [0,1])⟩
   ·refine Zbq (zM ?_)
    cases hp
    exact ⟨nofun,rfl,aa,ad,(s.pk [0,1])⟩
  rintro (_ | ⟨x4,x5⟩) hp _ bF bn Q
  ·obtain ⟨rfl,w,y,o⟩:=Q
   refine Zav (Zo (Zi (Zc (Zc4 (cs:=Z6.c (⟨(0:Int),(0:Int)⟩:ZA)) (by rw [ZaN]; rfl)) (Zc (Zc4 (cs:=Z6.c (⟨(0:Int),(0:Int)⟩:ZA)) (by rw [ZaN]; rfl)) (zz (o.stb (cs':=Z6.c (⟨(0:Int),(0:Int)⟩:ZA)) 0 rfl w rfl rfl ⟨rfl,Nat.le_of_ble_eq_true rfl,rfl⟩ rfl) ?_)))))
   rintro _ bi ⟨rfl,a0,bv,aH⟩
   refine zz (aH.stb (cs':=Z6.c (⟨(0:Int),(0:Int)⟩:ZA)) 1 rfl y rfl rfl ⟨rfl,Nat.le_of_ble_eq_true rfl,rfl⟩ rfl) ?_
   rintro _ bj ⟨rfl,a1,bw,E⟩
   refine Zb (.b false) rfl (Ze (Zar (z4 (Zgs w (E.box 0 rfl) rfl (Zgs y (E.box 1 rfl) rfl (zX rfl ZK))) ?_)))
   cases hp
   exact ⟨rfl,(E.pk [])⟩
  ·obtain ⟨rfl,w,y,aR,o⟩:=Q
   refine Zbv (zE (z4 (Zgs w (o.box 0 rfl) rfl (Zgs y (o.box 1 rfl) rfl (zX aR ZK))) ?_))
   cases hp
   exact ⟨rfl,(o.pk [])⟩

theorem Zb9.ok {h:Hp} {cells:List Za} {v_cells:V} (s_cells:Sl Zd h v_cells cells) {r:Int × Int × Int × Bool} (hp:Zb9 cells=some r) :
  ∃ u k',Is G 228 [v_cells] h u k'∧V.tu [.n r.1,.n r.2.1,.n r.2.2.1,.b r.2.2.2]=u∧Own (fun r=>r < h.n) h k' []:=by
 refine WC.is (ZaP Zf1 ?_)
 unfold Zb9 at hp
 let B:Nat→Prop:=(fun r=>r < h.n)
 have hO:Own B h h []:=Own.start0 h
 refine Zi (Zb (.n 0) rfl (Zb (.n 0) rfl (Zb (.n 0) rfl (Zb (.b false) rfl (Ze (ZB ?_))))))
 refine zI (Zb v_cells rfl ?_)
 obtain ⟨⟨x,x1⟩,⟨ba,aP,aj,D,d,rfl,aA⟩,hp⟩:=bdk hp fun _=>Za2.ok (h:=h)  (hO.rd0 s_cells.rd)
 refine ZaI rfl rfl aj ?_
 have F:=hO.call aA rfl
 refine Zb (.tu [D,.n x1]) rfl (Zc (Zbr rfl rfl) (Zc (Zbr rfl rfl) (Zb D rfl (Zb (.n x1) rfl (Ze (ZB (ZB ?_)))))))
 refine zI (Zb D rfl (Zc (Zg4 (n:=(x).length) (F.sl 0 rfl) (F.allLen 1 rfl:(d).length=(x).length) rfl) (Zb (.n 0) rfl (Ze (Zaa (Zb7 hp (fun x2 fr k=>fr 0=v_cells∧fr 20=D∧fr 21=.n (x.length:Int)∧fr 22=.n x2∧Own B h k [eSl eV D d,ZbW Z2 d x]) (fun | .inl _,e,fr,k=>e=(.exit 0)∧Own B h k [] | .inr (x3,x4,x5),e,fr,k=>e=.ret∧fr 2=.n x3∧fr 3=.n x4∧fr 4=.n x5∧fr 5=.b true∧Own B h k []) ⟨rfl,rfl,rfl,rfl,(F.pk [0,1])⟩ ?_ ?_))))))
 ·rintro x2 a9 W ⟨E,aa,ab,J,p⟩ a7 hp
  dsimp only [Zb9.s0] at hp
  refine Zi (Zc (zF J ab) (Ze (ZB (zD hp rfl (fun ae hp=>?_) (fun ae hp=>?_)))))
  ·refine Zas (ZB (Zaa (Zi (ckk hp fun f hp=>Zc (ZZ (p.sl 0 rfl) aa J (by rw [(p.allLen 1 rfl:(d).length=(x).length)]; exact f)) (Zc (zN (p.sl 0 rfl) rfl (by rw [(p.allLen 1 rfl:(d).length=(x).length)]; exact Zf f) rfl) ?_)))))
   refine Zb ((gi d x2.toNat)) rfl (Ze (Zi (Zb _ E (Zb ((gi d x2.toNat)) rfl ?_))))
   obtain ⟨x6,⟨bb,aD,ak,be,rfl,aB⟩,hp⟩:=bdk hp fun _=>ZbE.ok (h:=W)  (p.rd0 s_cells.rd) (p.inn 1 rfl (Zf f):Sl Z2 W (gi d x2.toNat) (gi x x2.toNat))
   refine ZaI rfl rfl ak ?_
   have S:=p.call aB rfl
   obtain ⟨⟨x7,x8,x9⟩,⟨bc,aV,al,rfl,aC⟩,hp⟩:=bdk hp fun _=>ZaV.ok (h:=aD)  (S.sl 2 rfl)
   refine ZaI rfl rfl al ?_
   have T:=S.call aC rfl
   refine Zb (.tu [.ag (Z6.c x7),.ag (Z6.c x8),.b x9]) rfl (Zc (Zbr rfl rfl) (Zc (Zbr rfl rfl) (Zc (Zbr rfl rfl) (zz (T.alloc (cs:=Z6.c (⟨0,0⟩:ZA)) T.fr) ?_))))
   rintro _ aW ⟨ac,rfl,a3,aJ,U⟩
   refine zz (U.alloc (cs:=Z6.c (⟨0,0⟩:ZA)) U.fr) ?_
   rintro _ aX ⟨aI,rfl,a4,aK,ay⟩
   refine zz (ay.stb (cs':=Z6.c x7) 3 rfl rfl rfl rfl ⟨rfl,Nat.le_of_ble_eq_true rfl,rfl⟩ rfl) ?_
   rintro _ aY ⟨rfl,aL,aZ,az⟩
   refine zz (az.stb (cs':=Z6.c x8) 4 rfl rfl rfl rfl ⟨rfl,Nat.le_of_ble_eq_true rfl,rfl⟩ rfl) ?_
   rintro _ y ⟨rfl,aM,a0,a⟩
   refine Zb (.b x9) rfl (Ze (ZB (Zi (Zb (.b x9) rfl (Zc (ZcO rfl) (Zg ?_))))))
   refine Zo (zD hp rfl (fun af hp=>?_) (fun af hp=>?_))
   ·refine Zbq (zM (Zav (Zo (zI (ckk hp fun ah hp=>Zc (zc J rfl ah) (Zb (.n (x2 + 1)) rfl (Zg ?_)))))))
    cases hp
    exact ⟨rfl,E,aa,ab,rfl,(a.pk [0,1])⟩
   ·refine Zas (ZB (ZeH ?_))
    have v:=a.bump 14
    have P:=Fresh.start y 14
    have Y:∀ {i:Nat},h.n≤y.n + i:=Nat.le_trans a.n (Nat.le_add_right _ _)
    refine ZaU ((gi d x2.toNat)) rfl (ZT (zG (r:=ac) (o:=0) rfl rfl) (ZT (ZU (v.box 3 rfl) rfl rfl) (ckk hp fun L hp=>ZT (ZZ (v.inn 1 rfl (Zf f):Sl Z2 (y.bump 14) (gi d x2.toNat) (gi x x2.toNat)) rfl rfl L) (ZT (Zdb (v.inn 1 rfl (Zf f):Sl Z2 (y.bump 14) (gi d x2.toNat) (gi x x2.toNat)) rfl (Zf L)) (ZaU ((gi d x2.toNat)) rfl (ZT (zG (r:=aI) (o:=0) rfl rfl) (ZT (ZU (v.box 4 rfl) rfl rfl) ?_)))))))
    refine ckk hp fun M hp=>ZT (ZZ (v.inn 1 rfl (Zf f):Sl Z2 (y.bump 14) (gi d x2.toNat) (gi x x2.toNat)) rfl rfl M) (ZT (Zdb (v.inn 1 rfl (Zf f):Sl Z2 (y.bump 14) (gi d x2.toNat) (gi x x2.toNat)) rfl (Zf M)) (Zd1 (v.alloc (cs:=Z2.c (⟨0,0⟩:ZF)) ⟨P.m 10 (by decide) (by decide),Y⟩) ?_))
    rintro _ aQ bf ⟨K,rfl,X,an,av⟩
    have Q:=P.kept an (by decide)
    refine Zd1 (av.alloc (cs:=Z2.c (⟨0,0⟩:ZF)) ⟨Q.m 11 (by decide) (by decide),Y⟩) ?_
    rintro _ aR bg ⟨ad,rfl,a5,ao,aw⟩
    have ar:=Q.kept ao (by decide)
    refine Zd1 (aw.stb (cs':=Z2.c (gi (gi x x2.toNat) (x7.At:Int).toNat)) 5 rfl rfl rfl rfl ⟨rfl,Nat.le_of_ble_eq_true rfl,rfl⟩ rfl) ?_
    rintro _ aS bh ⟨rfl,ap,a1,ax⟩
    have au:=ar.kept ap (by decide)
    refine Zd1 (ax.stb (cs':=Z2.c (gi (gi x x2.toNat) (x8.At:Int).toNat)) 6 rfl rfl rfl rfl ⟨rfl,Nat.le_of_ble_eq_true rfl,rfl⟩ rfl) ?_
    rintro _ I bi ⟨rfl,aq,a2,g⟩
    have aN:=au.kept aq (by decide)
    refine Zcv ?_
    refine And.intro ?_ ?_
    ·intro q hq
     simp only [List.mem_cons,List.not_mem_nil,or_false] at hq
     rcases hq with rfl | rfl | rfl | rfl | rfl | rfl | rfl | rfl | rfl | rfl | rfl | rfl | rfl | rfl | rfl
     ·refine z9 ?_ ?_
      ·exact (fun h=>nomatch h)
      ·exact (fun h=>nomatch h)
     ·refine z9 ?_ ?_
      ·exact (fun h=>nomatch h)
      ·exact (fun h=>nomatch h)
     ·refine z9 ?_ ?_
      ·exact (fun h=>nomatch h)
      ·exact (fun h=>nomatch h)
     ·refine z9 ?_ ?_
      ·exact (fun h=>nomatch h)
      ·exact (fun h=>nomatch h)
     ·refine z9 ?_ ?_
      ·exact (fun h=>nomatch h)
      ·exact (fun _ hm=>Nat.lt_irrefl _ (Nat.lt_of_lt_of_le (a.ltAt 3 rfl _ (tch (ZbN hm) rfl)) (Nat.le_add_right _ _)))
     ·refine z9 ?_ ?_
      ·exact (fun h=>nomatch h)
      ·exact (fun _ hm=>Nat.lt_irrefl _ (Nat.lt_of_lt_of_le (a.ltAt 1 rfl _ (Zep (j:=x2.toNat) (by have q:(d).length=(x).length:=a.allLen 1 rfl; have:=f; omega) (ZbU (tch (ZbN hm) rfl)))) (Nat.le_add_right _ _)))
     ·refine z9 ?_ ?_
      ·exact (fun h=>nomatch h)
      ·exact (fun _ hm=>Nat.lt_irrefl _ (Nat.lt_of_lt_of_le (a.ltAt 4 rfl _ (tch (ZbN hm) rfl)) (Nat.le_add_right _ _)))
     ·refine z9 ?_ ?_
      ·exact (fun h=>nomatch h)
      ·exact (fun _ hm=>Nat.lt_irrefl _ (Nat.lt_of_lt_of_le (a.ltAt 1 rfl _ (Zep (j:=x2.toNat) (by have q:(d).length=(x).length:=a.allLen 1 rfl; have:=f; omega) (ZbU (tch (ZbN hm) rfl)))) (Nat.le_add_right _ _)))
     ·refine z9 ?_ ?_
      ·exact (fun h=>nomatch h)
      ·exact (fun _ hm=>Nat.lt_irrefl _ (Nat.lt_of_lt_of_le (a.ltAt 3 rfl _ (tch (ZbN hm) rfl)) (Nat.le_add_right _ _)))
     ·refine z9 ?_ ?_
      ·exact (fun h=>nomatch h)
      ·exact (fun _ hm=>Nat.lt_irrefl _ (Nat.lt_of_lt_of_le (a.ltAt 1 rfl _ (Zep (j:=x2.toNat) (by have q:(d).length=(x).length:=a.allLen 1 rfl; have:=f; omega) (ZbU (tch (ZbN hm) rfl)))) (Nat.le_add_right _ _)))
     ·refine z9 ?_ ?_
      ·exact (fun h=>nomatch h)
      ·exact (fun _ hm=>Nat.lt_irrefl _ (Nat.lt_of_lt_of_le (a.ltAt 4 rfl _ (tch (ZbN hm) rfl)) (Nat.le_add_right _ _)))
     ·refine z9 ?_ ?_
      ·exact (fun h=>nomatch h)
      ·exact (fun _ hm=>Nat.lt_irrefl _ (Nat.lt_of_lt_of_le (a.ltAt 1 rfl _ (Zep (j:=x2.toNat) (by have q:(d).length=(x).length:=a.allLen 1 rfl; have:=f; omega) (ZbU (tch (ZbN hm) rfl)))) (Nat.le_add_right _ _)))
     ·refine z9 ?_ ?_
      ·exact (fun _=>List.not_mem_nil)
      ·exact (fun _=>List.not_mem_nil)
     ·refine ZkL ?_ ?_ ?_
      ·exact (fun r h1 h2=>by have h3:=(a.ltAt 4 rfl _ (tch (ZbN h1) rfl)); have h4:=(ZkU X (tch (Zlf h2) rfl)); omega)
      ·exact (fun h=>nomatch h)
      ·exact (fun _ hm=>Nat.lt_irrefl _ (Nat.lt_of_lt_of_le (a.ltAt 4 rfl _ (tch (ZbN hm) rfl)) (Nat.le_add_right _ _)))
     ·refine ZkL ?_ ?_ ?_
      ·exact (fun r h1 h2=>by have h3:=(a.ltAt 1 rfl _ (Zep (j:=x2.toNat) (by have q:(d).length=(x).length:=a.allLen 1 rfl; have:=f; omega) (ZbU (tch (ZbN h1) rfl)))); have h4:=(ZkU X (tch (Zlf h2) rfl)); omega)
      ·exact (fun h=>nomatch h)
      ·exact (fun _ hm=>Nat.lt_irrefl _ (Nat.lt_of_lt_of_le (a.ltAt 1 rfl _ (Zep (j:=x2.toNat) (by have q:(d).length=(x).length:=a.allLen 1 rfl; have:=f; omega) (ZbU (tch (ZbN hm) rfl)))) (Nat.le_add_right _ _)))
    refine Zo (ZB (ZeH ?_))
    have l:=g.bump 28
    have t:=Fresh.start I 28
    have a6:∀ {i:Nat},h.n≤I.n + i:=Nat.le_trans g.n (Nat.le_add_right _ _)
    refine ZaU _ E (ZT (zG (r:=K) (o:=0) rfl rfl) (ZT (ZU (l.box 5 rfl) rfl rfl) (ZT (zG (r:=K) (o:=0) rfl rfl) (ZT (ZU (l.box 5 rfl) rfl rfl) (ckk hp fun A hp=>ZT (ZZ (l.rd0 s_cells.rd) rfl rfl A) (ZT (Zbo (l.rd0 s_cells.rd) (Zf A) rfl rfl) (ckk hp fun N hp=>?_)))))))
    refine ZT (ZaZ (l.rd0 s_cells.rd) (Zf A) rfl rfl N rfl) (ZT (zN (l.rd0 s_cells.rd) rfl (Zf A) (zx N)) (ZT (zG (r:=K) (o:=0) rfl rfl) (ZT (ZU (l.box 5 rfl) rfl rfl) (ZT (zG (r:=ac) (o:=0) rfl rfl) (ZT (ZU (l.box 3 rfl) rfl rfl) (ckk hp fun ai hp=>ZT (ZlF rfl ai) ?_))))))
    obtain ⟨x10,⟨bd,aT,am,rfl,s⟩,hp⟩:=bdk hp fun _=>Za6.ok (h:=(I.bump 28))  
    refine Zi0 rfl rfl am ?_
    have aO:=t.call s
    have w:=l.call s rfl
    refine ZaU _ E (ZT (zG (r:=ad) (o:=0) rfl rfl) (ZT (ZU (w.box 6 rfl) rfl rfl) (ZT (zG (r:=ad) (o:=0) rfl rfl) (ZT (ZU (w.box 6 rfl) rfl rfl) (ckk hp fun C hp=>ZT (ZZ (w.rd0 s_cells.rd) rfl rfl C) (ZT (Zbo (w.rd0 s_cells.rd) (Zf C) rfl rfl) (ckk hp fun O hp=>?_)))))))
    refine ZT (ZaZ (w.rd0 s_cells.rd) (Zf C) rfl rfl O rfl) (ZT (zN (w.rd0 s_cells.rd) rfl (Zf C) (zx O)) (ZaU (.n (((gi cells ((gi (gi x x2.toNat) (x7.At:Int).toNat).Cell:Int).toNat).Next).get ((gi (gi x x2.toNat) (x7.At:Int).toNat).Dir))) rfl (ZaU (.n x10) rfl (ZaU (.n (((gi cells ((gi (gi x x2.toNat) (x8.At:Int).toNat).Cell:Int).toNat).Next).get ((gi (gi x x2.toNat) (x8.At:Int).toNat).Dir))) rfl (ZaU (.b true) rfl (Zcv ?_))))))
    refine And.intro ?_ ?_
    ·intro q hq
     simp only [List.mem_cons,List.not_mem_nil,or_false] at hq
     rcases hq with rfl | rfl | rfl | rfl | rfl | rfl | rfl | rfl | rfl | rfl | rfl | rfl | rfl | rfl | rfl | rfl | rfl | rfl | rfl | rfl | rfl | rfl | rfl | rfl | rfl | rfl | rfl | rfl | rfl | rfl
     ·refine z9 ?_ ?_
      ·exact (fun h=>nomatch h)
      ·exact (fun h=>nomatch h)
     ·refine z9 ?_ ?_
      ·exact (fun h=>nomatch h)
      ·exact (fun h=>nomatch h)
     ·refine z9 ?_ ?_
      ·exact (fun h=>nomatch h)
      ·exact (fun h=>nomatch h)
     ·refine z9 ?_ ?_
      ·exact (fun h=>nomatch h)
      ·exact (fun h=>nomatch h)
     ·refine z9 ?_ ?_
      ·exact (fun h=>nomatch h)
      ·exact (fun h=>nomatch h)
     ·refine z9 ?_ ?_
      ·exact (fun h=>nomatch h)
      ·exact (fun h=>nomatch h)
     ·refine z9 ?_ ?_
      ·exact (fun h=>nomatch h)
      ·exact (fun h=>nomatch h)
     ·refine z9 ?_ ?_
      ·exact (fun h=>nomatch h)
      ·exact (fun h=>nomatch h)
     ·refine ZjB rfl rfl ?_
      ·exact (fun r hm hc=>hc (s.base r (Nat.lt_of_lt_of_le (g.ltAt 5 rfl _ (tch (ZbN hm) rfl)) (Nat.le_trans (Nat.le_add_right _ _) t.n))))
     ·refine ZjB rfl rfl ?_
      ·exact (fun r hm hc=>hc (s.base r (Nat.lt_of_lt_of_le (g.ltAt 5 rfl _ (tch (ZbN hm) rfl)) (Nat.le_trans (Nat.le_add_right _ _) t.n))))
     ·refine ZjB rfl rfl ?_
      ·exact (fun r hm hc=>hc (s.base r (Nat.lt_of_lt_of_le (Nat.lt_of_lt_of_le (g.lo _ (Rd.B s_cells.rd g.lo (Zf A) _ (ZbU (tch (ZbN hm) rfl)))) g.n) (Nat.le_trans (Nat.le_add_right _ _) t.n))))
     ·refine z9 ?_ ?_
      ·exact (fun h=>nomatch h)
      ·exact (fun h=>nomatch h)
     ·refine z9 ?_ ?_
      ·exact (fun h=>nomatch h)
      ·exact (fun h=>nomatch h)
     ·refine z9 ?_ ?_
      ·exact (fun h=>nomatch h)
      ·exact (fun h=>nomatch h)
     ·refine z9 ?_ ?_
      ·exact (fun h=>nomatch h)
      ·exact (fun h=>nomatch h)
     ·refine z9 ?_ ?_
      ·exact (fun h=>nomatch h)
      ·exact (fun h=>nomatch h)
     ·refine ZlR rfl ?_
      ·exact (fun r hm hc=>hc (s.base r (Nat.lt_of_lt_of_le (g.ltAt 6 rfl _ (tch (ZbN hm) rfl)) (Nat.le_trans (Nat.le_add_right _ _) t.n))))
     ·refine z9 ?_ ?_
      ·exact (fun h=>nomatch h)
      ·exact (fun h=>nomatch h)
     ·refine z9 ?_ ?_
      ·exact (fun h=>nomatch h)
      ·exact (fun h=>nomatch h)
     ·refine z9 ?_ ?_
      ·exact (fun h=>nomatch h)
      ·exact (fun h=>nomatch h)
     ·refine z9 ?_ ?_
      ·exact (fun h=>nomatch h)
      ·exact (fun h=>nomatch h)
     ·refine z9 ?_ ?_
      ·exact (fun h=>nomatch h)
      ·exact (fun h=>nomatch h)
     ·refine ZlR rfl ?_
      ·exact (fun r hm hc=>hc (s.base r (Nat.lt_of_lt_of_le (g.ltAt 6 rfl _ (tch (ZbN hm) rfl)) (Nat.le_trans (Nat.le_add_right _ _) t.n))))
     ·refine z9 ?_ ?_
      ·exact (fun h=>nomatch h)
      ·exact (fun h=>nomatch h)
     ·refine z9 ?_ ?_
      ·exact (fun h=>nomatch h)
      ·exact (fun h=>nomatch h)
     ·refine z9 ?_ ?_
      ·exact (fun h=>nomatch h)
      ·exact (fun h=>nomatch h)
     ·refine z9 ?_ ?_
      ·exact (fun h=>nomatch h)
      ·exact (fun h=>nomatch h)
     ·refine z9 ?_ ?_
      ·exact (fun h=>nomatch h)
      ·exact (fun h=>nomatch h)
     ·refine z9 ?_ ?_
      ·exact (fun h=>nomatch h)
      ·exact (fun h=>nomatch h)
     ·refine ZlR rfl ?_
      ·exact (fun r hm hc=>hc (s.base r (Nat.lt_of_lt_of_le (Nat.lt_of_lt_of_le (g.lo _ (Rd.B s_cells.rd g.lo (Zf C) _ (ZbU (tch (ZbN hm) rfl)))) g.n) (Nat.le_trans (Nat.le_add_right _ _) t.n))))
    refine Zo (Zar (Zbv (zE ?_)))
    cases hp
    exact ⟨nofun,rfl,rfl,rfl,rfl,rfl,(w.pk [])⟩
  ·refine Zbq (zM ?_)
   cases hp
   exact ⟨nofun,rfl,(p.pk [])⟩
 rintro (_ | ⟨x3,x4,x5⟩) hp _ a8 aU R
 ·obtain ⟨rfl,H⟩:=R
  refine Zav (Zo (Zi (Zb (.n 0) rfl (Zb (.n 0) rfl (Zb (.n 0) rfl (Zb (.b false) rfl (Zg ?_)))))))
  refine Zo (Zar (z4 (zX rfl (zX rfl (zX rfl (zX rfl ZK)))) ?_))
  cases hp
  exact ⟨rfl,(H.pk [])⟩
 ·obtain ⟨rfl,aE,aF,aG,aH,H⟩:=R
  refine Zbv (zE (z4 (zX aE (zX aF (zX aG (zX aH ZK)))) ?_))
  cases hp
  exact ⟨rfl,(H.pk [])⟩

theorem Zck.ok {h:Hp} {d:Int}   {r:Bool} (hp:Zck d=some r) :
  ∃ u k',Is G 229 [.n d] h u k'∧V.b r=u∧Own (fun r=>r < h.n) h k' []:=by
 refine WC.is (ZaP ZdN ?_)
 unfold Zck at hp
 let B:Nat→Prop:=(fun r=>r < h.n)
 have hO:Own B h h []:=Own.start0 h
 refine Zi (Zb (.b false) rfl (Ze (Zi (Zb (.n d) rfl (Zc (Zbl rfl rfl) ?_)))))
 refine Zb (.b (decide (d=0))) rfl (zK 3 (fun f k=>h=k∧f 8=.b ((decide (d=0)) || (decide (d=2)))) ?_ ?_)
 ·rcases bc (decide (d=0)) with a | a
  ·refine Zh rfl a (Zh rfl a (Zc (Zcb (w:=(decide (d=0)) || (decide (d=2))) rfl a rfl) (Zg ?_)))
   exact ⟨rfl,rfl⟩
  ·refine Zp rfl a (Zb (.n d) rfl (Zp rfl a (Zc (Zbl rfl rfl) (Zc (Zcc rfl a rfl) (Zg ?_)))))
   exact ⟨rfl,rfl⟩
 rintro e _ ⟨rfl,c⟩
 refine Zb _ c (Ze (Zar (z4 (zX rfl ZK) ?_)))
 cases hp
 exact ⟨rfl,(hO.pk [])⟩

theorem ZcJ.ok {h:Hp} {g:Zbe} {r_g:Nat} {v_g_cells:V} {w_g:Bool} (b_g:h.m r_g=some (.cells w_g [v_g_cells])) (s_g_cells:Sl Zd h v_g_cells g.cells) {r:Int} (hp:ZcJ g=some r) :
  ∃ u k',Is G 55 [.p r_g 0] h u k'∧V.n r=u∧Own (fun r=>r < h.n) h k' []:=by
 refine WC.is (ZaP Zff ?_)
 unfold ZcJ at hp
 let B:Nat→Prop:=(fun r=>r < h.n)
 have hO:Own B h h []:=Own.start0 h
 refine Zi (Zb (.n 0) rfl (Ze (ZB (Zi (Zb (.p r_g 0) rfl ?_)))))
 refine Zc (ZlE rfl rfl) (Ze (Zlk rfl rfl (Zas (Zi (Zb (.p r_g 0) rfl ?_)))))
 refine Zc (Zge rfl) (Zc (zG (r:=r_g) (o:=0) rfl rfl) (Zc (ZU (hO.rdB0 (RdB.of b_g)).choose_spec rfl rfl) (Zc (Zae (hO.rd0 s_g_cells.rd) rfl) (Zb (.n (g.cells.length:Int)) rfl (Ze (Zar (z4 (zX rfl ZK) ?_)))))))
 cases hp
 exact ⟨rfl,(hO.pk [])⟩

theorem Zcq.ok {h:Hp} {g:Zbe} {v:Int} {d:Int} {r_g:Nat} {v_g_cells:V} {w_g:Bool} (b_g:h.m r_g=some (.cells w_g [v_g_cells])) (s_g_cells:Sl Zd h v_g_cells g.cells) {r:Bool} (hp:Zcq g v d=some r) :
  ∃ u k',Is G 75 [.p r_g 0,.n v,.n d] h u k'∧V.b r=u∧Own (fun r=>r < h.n) h k' []:=by
 refine WC.is (ZaP Zfy ?_)
 unfold Zcq at hp
 let B:Nat→Prop:=(fun r=>r < h.n)
 have hO:Own B h h []:=Own.start0 h
 refine Zi (Zb (.b false) rfl (Ze (Zi (Zb (.n v) rfl (Zc (ZcV rfl rfl) ?_)))))
 refine Zb (.b (decide (0≤v))) rfl ?_
 obtain ⟨t,D,hp⟩:=ZaH hp
 refine zK 5 (fun f k=>Own B h k []∧f 14=.b t∧f 2=.n d) ?_ ?_
 ·clear hp; rcases ZaR D with ⟨a,hp⟩ | ⟨a,hp⟩
  ·refine Zp rfl a (Zb (.n v) rfl (Zp rfl a (Zb (.p r_g 0) rfl (Zp rfl a ?_))))
   obtain ⟨x,⟨M,J,i,rfl,A⟩,hp⟩:=bdk hp fun _=>ZcJ.ok (h:=h)  (hO.rdB0 (RdB.of b_g)).choose_spec (hO.rd0 s_g_cells.rd)
   refine ZaI rfl rfl i ?_
   have s:=hO.call A rfl
   refine Zp rfl a (Zc (zF rfl rfl) (Zc (ZaF (v:=.b t) rfl a (Eq.trans (b:=V.b (decide (v < x))) rfl (congrArg V.b (Option.some.inj hp)))) (Zg ?_)))
   exact ⟨s.pk [],rfl,rfl⟩
  ·refine Zh rfl a (Zh rfl a (Zh rfl a (Zh rfl a (Zc (Za5 (v:=.b t) rfl a (Eq.trans (b:=V.b false) rfl (congrArg V.b (Option.some.inj hp)))) (Zg ?_)))))
   exact ⟨hO.pk [],rfl,rfl⟩
 rintro H F ⟨e,l,o⟩
 refine Zb _ l ?_
 obtain ⟨t1,E,hp⟩:=ZaH hp
 refine zK 3 (fun f k=>Own B h k []∧f 18=.b t1) ?_ ?_
 ·clear hp; rcases ZaR E with ⟨c,hp⟩ | ⟨c,hp⟩
  ·refine Zp rfl c (Zb _ o (Zp rfl c ?_))
   obtain ⟨x1,⟨N,K,j,rfl,C⟩,hp⟩:=bdk hp fun _=>Zbp.ok (h:=F)  
   refine ZaI rfl rfl j ?_
   have w:=e.call C rfl
   refine Zc (ZaF (v:=.b t1) rfl c (Eq.trans (b:=V.b x1) rfl (congrArg V.b (Option.some.inj hp)))) (Zg ?_)
   exact ⟨w.pk [],rfl⟩
  ·refine Zh rfl c (Zh rfl c (Zc (Za5 (v:=.b t1) rfl c (Eq.trans (b:=V.b false) rfl (congrArg V.b (Option.some.inj hp)))) (Zg ?_)))
   exact ⟨e.pk [],rfl⟩
 rintro I L ⟨y,q⟩
 refine Zb _ q (Ze (Zar (z4 (zX rfl ZK) ?_)))
 cases hp
 exact ⟨rfl,(y.pk [])⟩

theorem Zc9.ok {h:Hp} {g:Zbe} {v:Int} {d:Int} {w:Int} {owner:Int} {r_g:Nat} {v_g_cells:V} (H:Own (Bm h [zP r_g [v_g_cells],eSl Zd v_g_cells g.cells]) h h [zP r_g [v_g_cells],eSl Zd v_g_cells g.cells]) {r:Zbe} (hp:Zc9 g v d w owner=some r) :
  ∃ u k',Is G 76 [.p r_g 0,.n v,.n d,.n w,.n owner] h u k'∧∃ I,V.tu []=u∧Own (Bm h [zP r_g [v_g_cells],eSl Zd v_g_cells g.cells]) h k' [zP r_g [I],eSl Zd I r.cells]:=by
 refine WC.is (ZaP Zfg ?_)
 unfold Zc9 at hp
 let B:Nat→Prop:=(Bm h [zP r_g [v_g_cells],eSl Zd v_g_cells g.cells])
 have hO:Own B h h [zP r_g [v_g_cells],eSl Zd v_g_cells g.cells]:=H
 refine Zi (Zb (.n d) rfl ?_)
 obtain ⟨x,⟨af,F,J,rfl,T⟩,hp⟩:=bdk hp fun _=>Za6.ok (h:=h)  
 refine ZaI rfl rfl J ?_
 have D:=hO.call T rfl
 refine Zb (.n x) rfl (Ze (ZB (ZeH ?_)))
 have c:=D.bump 22
 have O:=Fresh.start F 22
 have ad:∀ {i:Nat},h.n≤F.n + i:=Nat.le_trans D.n (Nat.le_add_right _ _)
 refine ZaU (.p r_g 0) rfl (ZT (Zge rfl) (ZT (zG (r:=r_g) (o:=0) rfl rfl) (ZT (ZU (c.box 0 rfl) rfl rfl) (ZaU (.n v) rfl (ZaU (.n d) rfl (ZaU (.p r_g 0) rfl (ZT (Zge rfl) (ZT (zG (r:=r_g) (o:=0) rfl rfl) ?_))))))))
 refine ZT (ZU (c.box 0 rfl) rfl rfl) (ZaU (.n v) rfl (ZaU (.n d) rfl (ZaU (.n w) rfl (ZaU (.n owner) rfl (ckk hp fun j hp=>ZT (ZZ (c.sl 1 rfl) rfl rfl j) (ZT (Zbo (c.sl 1 rfl) (Zf j) rfl rfl) (ckk hp fun a hp=>?_)))))))
 refine ZT (ZaZ (c.sl 1 rfl) (Zf j) rfl rfl a rfl) (Zd1 (c.ste (y:=({ gi g.cells v.toNat with Next:=((gi g.cells v.toNat).Next).set d w })) 1 rfl rfl (Zf j) rfl rfl ⟨rfl,(by have:=a; exact (show 0 + d.toNat * 1 + 1≤8 by omega)),rfl⟩ (Zcj a)) ?_)
 rintro _ A ag ⟨rfl,K,Y,s⟩
 have P:=O.kept K (by decide)
 refine ckk hp fun k hp=>ZT (ZZ (s.sl 1 rfl:Sl Zd A v_g_cells (g.cells.set v.toNat ({ gi g.cells v.toNat with Next:=((gi g.cells v.toNat).Next).set d w }))) rfl rfl k) (ZT (Zbo (s.sl 1 rfl:Sl Zd A v_g_cells (g.cells.set v.toNat ({ gi g.cells v.toNat with Next:=((gi g.cells v.toNat).Next).set d w }))) (Zf k) rfl rfl) (ZT (ZaZ (s.sl 1 rfl:Sl Zd A v_g_cells (g.cells.set v.toNat ({ gi g.cells v.toNat with Next:=((gi g.cells v.toNat).Next).set d w }))) (Zf k) rfl rfl a rfl) (Zd1 (s.ste (y:=({ gi (g.cells.set v.toNat ({ gi g.cells v.toNat with Next:=((gi g.cells v.toNat).Next).set d w })) v.toNat with Owner:=((gi (g.cells.set v.toNat ({ gi g.cells v.toNat with Next:=((gi g.cells v.toNat).Next).set d w })) v.toNat).Owner).set d owner })) 1 rfl rfl (Zf k) rfl rfl ⟨rfl,(by have:=a; exact (show 4 + d.toNat * 1 + 1≤8 by omega)),rfl⟩ (Zcu a)) ?_)))
 rintro _ f ah ⟨rfl,L,aa,E⟩
 have U:=P.kept L (by decide)
 refine Zcv ?_
 refine And.intro ?_ ?_
 ·intro q hq
  simp only [List.mem_cons,List.not_mem_nil,or_false] at hq
  rcases hq with rfl
  ·refine z9 ?_ ?_
   ·exact (fun h=>nomatch h)
   ·exact (fun h=>nomatch h)
 refine Zo (ZeH ?_)
 have e:=E.bump 22
 have Q:=Fresh.start f 22
 have ae:∀ {i:Nat},h.n≤f.n + i:=Nat.le_trans E.n (Nat.le_add_right _ _)
 refine ZaU (.p r_g 0) rfl (ZT (Zge rfl) (ZT (zG (r:=r_g) (o:=0) rfl rfl) (ZT (ZU (e.box 0 rfl) rfl rfl) (ZaU (.n w) rfl (ZaU (.n x) rfl (ZaU (.p r_g 0) rfl (ZT (Zge rfl) (ZT (zG (r:=r_g) (o:=0) rfl rfl) ?_))))))))
 refine ZT (ZU (e.box 0 rfl) rfl rfl) (ZaU (.n w) rfl (ZaU (.n x) rfl (ZaU (.n v) rfl (ZaU (.n owner) rfl (ckk hp fun l hp=>ZT (ZZ (e.sl 1 rfl:Sl Zd (f.bump 22) v_g_cells ((g.cells.set v.toNat ({ gi g.cells v.toNat with Next:=((gi g.cells v.toNat).Next).set d w })).set v.toNat ({ gi (g.cells.set v.toNat ({ gi g.cells v.toNat with Next:=((gi g.cells v.toNat).Next).set d w })) v.toNat with Owner:=((gi (g.cells.set v.toNat ({ gi g.cells v.toNat with Next:=((gi g.cells v.toNat).Next).set d w })) v.toNat).Owner).set d owner }))) rfl rfl l) (ZT (Zbo (e.sl 1 rfl:Sl Zd (f.bump 22) v_g_cells ((g.cells.set v.toNat ({ gi g.cells v.toNat with Next:=((gi g.cells v.toNat).Next).set d w })).set v.toNat ({ gi (g.cells.set v.toNat ({ gi g.cells v.toNat with Next:=((gi g.cells v.toNat).Next).set d w })) v.toNat with Owner:=((gi (g.cells.set v.toNat ({ gi g.cells v.toNat with Next:=((gi g.cells v.toNat).Next).set d w })) v.toNat).Owner).set d owner }))) (Zf l) rfl rfl) (ckk hp fun b hp=>?_)))))))
 refine ZT (ZaZ (e.sl 1 rfl:Sl Zd (f.bump 22) v_g_cells ((g.cells.set v.toNat ({ gi g.cells v.toNat with Next:=((gi g.cells v.toNat).Next).set d w })).set v.toNat ({ gi (g.cells.set v.toNat ({ gi g.cells v.toNat with Next:=((gi g.cells v.toNat).Next).set d w })) v.toNat with Owner:=((gi (g.cells.set v.toNat ({ gi g.cells v.toNat with Next:=((gi g.cells v.toNat).Next).set d w })) v.toNat).Owner).set d owner }))) (Zf l) rfl rfl b rfl) (Zd1 (e.ste (y:=({ gi ((g.cells.set v.toNat ({ gi g.cells v.toNat with Next:=((gi g.cells v.toNat).Next).set d w })).set v.toNat ({ gi (g.cells.set v.toNat ({ gi g.cells v.toNat with Next:=((gi g.cells v.toNat).Next).set d w })) v.toNat with Owner:=((gi (g.cells.set v.toNat ({ gi g.cells v.toNat with Next:=((gi g.cells v.toNat).Next).set d w })) v.toNat).Owner).set d owner })) w.toNat with Next:=((gi ((g.cells.set v.toNat ({ gi g.cells v.toNat with Next:=((gi g.cells v.toNat).Next).set d w })).set v.toNat ({ gi (g.cells.set v.toNat ({ gi g.cells v.toNat with Next:=((gi g.cells v.toNat).Next).set d w })) v.toNat with Owner:=((gi (g.cells.set v.toNat ({ gi g.cells v.toNat with Next:=((gi g.cells v.toNat).Next).set d w })) v.toNat).Owner).set d owner })) w.toNat).Next).set x v })) 1 rfl rfl (Zf l) rfl rfl ⟨rfl,(by have:=b; exact (show 0 + x.toNat * 1 + 1≤8 by omega)),rfl⟩ (Zcj b)) ?_)
 rintro _ C ai ⟨rfl,M,ab,t⟩
 have R:=Q.kept M (by decide)
 refine ckk hp fun m hp=>ZT (ZZ (t.sl 1 rfl:Sl Zd C v_g_cells (((g.cells.set v.toNat ({ gi g.cells v.toNat with Next:=((gi g.cells v.toNat).Next).set d w })).set v.toNat ({ gi (g.cells.set v.toNat ({ gi g.cells v.toNat with Next:=((gi g.cells v.toNat).Next).set d w })) v.toNat with Owner:=((gi (g.cells.set v.toNat ({ gi g.cells v.toNat with Next:=((gi g.cells v.toNat).Next).set d w })) v.toNat).Owner).set d owner })).set w.toNat ({ gi ((g.cells.set v.toNat ({ gi g.cells v.toNat with Next:=((gi g.cells v.toNat).Next).set d w })).set v.toNat ({ gi (g.cells.set v.toNat ({ gi g.cells v.toNat with Next:=((gi g.cells v.toNat).Next).set d w })) v.toNat with Owner:=((gi (g.cells.set v.toNat ({ gi g.cells v.toNat with Next:=((gi g.cells v.toNat).Next).set d w })) v.toNat).Owner).set d owner })) w.toNat with Next:=((gi ((g.cells.set v.toNat ({ gi g.cells v.toNat with Next:=((gi g.cells v.toNat).Next).set d w })).set v.toNat ({ gi (g.cells.set v.toNat ({ gi g.cells v.toNat with Next:=((gi g.cells v.toNat).Next).set d w })) v.toNat with Owner:=((gi (g.cells.set v.toNat ({ gi g.cells v.toNat with Next:=((gi g.cells v.toNat).Next).set d w })) v.toNat).Owner).set d owner })) w.toNat).Next).set x v }))) rfl rfl m) (ZT (Zbo (t.sl 1 rfl:Sl Zd C v_g_cells (((g.cells.set v.toNat ({ gi g.cells v.toNat with Next:=((gi g.cells v.toNat).Next).set d w })).set v.toNat ({ gi (g.cells.set v.toNat ({ gi g.cells v.toNat with Next:=((gi g.cells v.toNat).Next).set d w })) v.toNat with Owner:=((gi (g.cells.set v.toNat ({ gi g.cells v.toNat with Next:=((gi g.cells v.toNat).Next).set d w })) v.toNat).Owner).set d owner })).set w.toNat ({ gi ((g.cells.set v.toNat ({ gi g.cells v.toNat with Next:=((gi g.cells v.toNat).Next).set d w })).set v.toNat ({ gi (g.cells.set v.toNat ({ gi g.cells v.toNat with Next:=((gi g.cells v.toNat).Next).set d w })) v.toNat with Owner:=((gi (g.cells.set v.toNat ({ gi g.cells v.toNat with Next:=((gi g.cells v.toNat).Next).set d w })) v.toNat).Owner).set d owner })) w.toNat with Next:=((gi ((g.cells.set v.toNat ({ gi g.cells v.toNat with Next:=((gi g.cells v.toNat).Next).set d w })).set v.toNat ({ gi (g.cells.set v.toNat ({ gi g.cells v.toNat with Next:=((gi g.cells v.toNat).Next).set d w })) v.toNat with Owner:=((gi (g.cells.set v.toNat ({ gi g.cells v.toNat with Next:=((gi g.cells v.toNat).Next).set d w })) v.toNat).Owner).set d owner })) w.toNat).Next).set x v }))) (Zf m) rfl rfl) (ZT (ZaZ (t.sl 1 rfl:Sl Zd C v_g_cells (((g.cells.set v.toNat ({ gi g.cells v.toNat with Next:=((gi g.cells v.toNat).Next).set d w })).set v.toNat ({ gi (g.cells.set v.toNat ({ gi g.cells v.toNat with Next:=((gi g.cells v.toNat).Next).set d w })) v.toNat with Owner:=((gi (g.cells.set v.toNat ({ gi g.cells v.toNat with Next:=((gi g.cells v.toNat).Next).set d w })) v.toNat).Owner).set d owner })).set w.toNat ({ gi ((g.cells.set v.toNat ({ gi g.cells v.toNat with Next:=((gi g.cells v.toNat).Next).set d w })).set v.toNat ({ gi (g.cells.set v.toNat ({ gi g.cells v.toNat with Next:=((gi g.cells v.toNat).Next).set d w })) v.toNat with Owner:=((gi (g.cells.set v.toNat ({ gi g.cells v.toNat with Next:=((gi g.cells v.toNat).Next).set d w })) v.toNat).Owner).set d owner })) w.toNat with Next:=((gi ((g.cells.set v.toNat ({ gi g.cells v.toNat with Next:=((gi g.cells v.toNat).Next).set d w })).set v.toNat ({ gi (g.cells.set v.toNat ({ gi g.cells v.toNat with Next:=((gi g.cells v.toNat).Next).set d w })) v.toNat with Owner:=((gi (g.cells.set v.toNat ({ gi g.cells v.toNat with Next:=((gi g.cells v.toNat).Next).set d w })) v.toNat).Owner).set d owner })) w.toNat).Next).set x v }))) (Zf m) rfl rfl b rfl) (Zd1 (t.ste (y:=({ gi (((g.cells.set v.toNat ({ gi g.cells v.toNat with Next:=((gi g.cells v.toNat).Next).set d w })).set v.toNat ({ gi (g.cells.set v.toNat ({ gi g.cells v.toNat with Next:=((gi g.cells v.toNat).Next).set d w })) v.toNat with Owner:=((gi (g.cells.set v.toNat ({ gi g.cells v.toNat with Next:=((gi g.cells v.toNat).Next).set d w })) v.toNat).Owner).set d owner })).set w.toNat ({ gi ((g.cells.set v.toNat ({ gi g.cells v.toNat with Next:=((gi g.cells v.toNat).Next).set d w })).set v.toNat ({ gi (g.cells.set v.toNat ({ gi g.cells v.toNat with Next:=((gi g.cells v.toNat).Next).set d w })) v.toNat with Owner:=((gi (g.cells.set v.toNat ({ gi g.cells v.toNat with Next:=((gi g.cells v.toNat).Next).set d w })) v.toNat).Owner).set d owner })) w.toNat with Next:=((gi ((g.cells.set v.toNat ({ gi g.cells v.toNat with Next:=((gi g.cells v.toNat).Next).set d w })).set v.toNat ({ gi (g.cells.set v.toNat ({ gi g.cells v.toNat with Next:=((gi g.cells v.toNat).Next).set d w })) v.toNat with Owner:=((gi (g.cells.set v.toNat ({ gi g.cells v.toNat with Next:=((gi g.cells v.toNat).Next).set d w })) v.toNat).Owner).set d owner })) w.toNat).Next).set x v })) w.toNat with Owner:=((gi (((g.cells.set v.toNat ({ gi g.cells v.toNat with Next:=((gi g.cells v.toNat).Next).set d w })).set v.toNat ({ gi (g.cells.set v.toNat ({ gi g.cells v.toNat with Next:=((gi g.cells v.toNat).Next).set d w })) v.toNat with Owner:=((gi (g.cells.set v.toNat ({ gi g.cells v.toNat with Next:=((gi g.cells v.toNat).Next).set d w })) v.toNat).Owner).set d owner })).set w.toNat ({ gi ((g.cells.set v.toNat ({ gi g.cells v.toNat with Next:=((gi g.cells v.toNat).Next).set d w })).set v.toNat ({ gi (g.cells.set v.toNat ({ gi g.cells v.toNat with Next:=((gi g.cells v.toNat).Next).set d w })) v.toNat with Owner:=((gi (g.cells.set v.toNat ({ gi g.cells v.toNat with Next:=((gi g.cells v.toNat).Next).set d w })) v.toNat).Owner).set d owner })) w.toNat with Next:=((gi ((g.cells.set v.toNat ({ gi g.cells v.toNat with Next:=((gi g.cells v.toNat).Next).set d w })).set v.toNat ({ gi (g.cells.set v.toNat ({ gi g.cells v.toNat with Next:=((gi g.cells v.toNat).Next).set d w })) v.toNat with Owner:=((gi (g.cells.set v.toNat ({ gi g.cells v.toNat with Next:=((gi g.cells v.toNat).Next).set d w })) v.toNat).Owner).set d owner })) w.toNat).Next).set x v })) w.toNat).Owner).set x owner })) 1 rfl rfl (Zf m) rfl rfl ⟨rfl,(by have:=b; exact (show 4 + x.toNat * 1 + 1≤8 by omega)),rfl⟩ (Zcu b)) ?_)))
 rintro _ X aj ⟨rfl,N,ac,S⟩
 have W:=R.kept N (by decide)
 refine Zcv ?_
 refine And.intro ?_ ?_
 ·intro q hq
  simp only [List.mem_cons,List.not_mem_nil,or_false] at hq
  rcases hq with rfl
  ·refine z9 ?_ ?_
   ·exact (fun h=>nomatch h)
   ·exact (fun h=>nomatch h)
 refine Zpv ZK ?_
 cases hp
 exact ⟨v_g_cells,rfl,(S.pk [0,1])⟩

theorem Zcy.ok {h:Hp} {g:Zbe} {v:Int} {d:Int} {w:Int} {owner:Int} {r_g:Nat} {v_g_cells:V} (H:Own (Bm h [zP r_g [v_g_cells],eSl Zd v_g_cells g.cells]) h h [zP r_g [v_g_cells],eSl Zd v_g_cells g.cells]) {r:Int × Zbe} (hp:Zcy g v d w owner=some r) :
  ∃ u k',Is G 52 [.p r_g 0,.n v,.n d,.n w,.n owner] h u k'∧∃ ae,V.n r.1=u∧Own (Bm h [zP r_g [v_g_cells],eSl Zd v_g_cells g.cells]) h k' [zP r_g [ae],eSl Zd ae r.2.cells]:=by
 refine WC.is (ZaP ZeN ?_)
 unfold Zcy at hp
 let B:Nat→Prop:=(Bm h [zP r_g [v_g_cells],eSl Zd v_g_cells g.cells])
 have hO:Own B h h [zP r_g [v_g_cells],eSl Zd v_g_cells g.cells]:=H
 refine Zi (Zb (.n 0) rfl (Ze (ZB (Zaa (Zi ?_)))))
 refine Zb (.p r_g 0) rfl (Zc (ZlE rfl rfl) (Zb (.b false) rfl (Ze (Zlk rfl rfl (Zi (Zb (.p r_g 0) rfl ?_))))))
 refine Zb (.n v) rfl (Zb (.n d) rfl ?_)
 obtain ⟨x,⟨aO,aw,ah,rfl,aq⟩,hp⟩:=bdk hp fun _=>Zcq.ok (h:=h)  (hO.box 0 rfl) (hO.sl 1 rfl)
 refine ZaI rfl rfl ah ?_
 have I:=hO.call aq rfl
 refine Zc (ZcO rfl) (Zb (.b (!x)) rfl ?_)
 obtain ⟨t,av,hp⟩:=ZaH hp
 refine zK 6 (fun f k=>Own B h k [zP r_g [v_g_cells],eSl Zd v_g_cells g.cells]∧f 26=.b t∧f 0=.p r_g 0∧f 1=.n v∧f 2=.n d∧f 3=.n w∧f 4=.n owner) ?_ ?_
 ·clear hp; rcases ZaR av with ⟨c,hp⟩ | ⟨c,hp⟩
  ·refine Zh rfl c (Zh rfl c (Zh rfl c (Zh rfl c (Zh rfl c (Zc (ZaF (v:=.b t) rfl c (Eq.trans (b:=V.b true) rfl (congrArg V.b (Option.some.inj hp)))) (Zg ?_))))))
   exact ⟨I.pk [0,1],rfl,rfl,rfl,rfl,rfl,rfl⟩
  ·refine Zp rfl c (Zb (.p r_g 0) rfl (Zp rfl c (Zb (.n w) rfl (Zp rfl c (Zb (.n d) rfl (Zp rfl c ?_))))))
   obtain ⟨x1,⟨aP,aJ,ai,rfl,ar⟩,hp⟩:=bdk hp fun _=>Zcq.ok (h:=aw)  (I.box 0 rfl) (I.sl 1 rfl)
   refine ZaI rfl rfl ai ?_
   have ao:=I.call ar rfl
   refine Zp rfl c (Zc (ZcO rfl) (Zc (Za5 (v:=.b t) rfl c (Eq.trans (b:=V.b (!x1)) rfl (congrArg V.b (Option.some.inj hp)))) (Zg ?_)))
   exact ⟨ao.pk [0,1],rfl,rfl,rfl,rfl,rfl,rfl⟩
 rintro aG A ⟨J,al,U,K,W,L,X⟩
 refine Zb _ al (zK 4 (fun f k=>A=k∧f 31=.b (t || (decide (v=w)))∧f 0=.p r_g 0∧f 1=.n v∧f 2=.n d∧f 3=.n w∧f 4=.n owner) ?_ ?_)
 ·rcases bc t with j | j
  ·refine Zh rfl j (Zh rfl j (Zh rfl j (Zc (Zcb (w:=t || (decide (v=w))) rfl j rfl) (Zg ?_))))
   exact ⟨rfl,rfl,U,K,W,L,X⟩
  ·refine Zp rfl j (Zb _ K (Zp rfl j (Zb _ L (Zp rfl j (Zc (Zbl rfl rfl) (Zc (Zcc rfl j rfl) (Zg ?_)))))))
   exact ⟨rfl,rfl,U,K,W,L,X⟩
 rintro aH _ ⟨rfl,am,Y,aa,ab,ac,M⟩
 refine Zb _ am (zK 3 (fun f k=>A=k∧f 35=.b ((t || (decide (v=w))) || (decide (owner < (-2))))∧f 0=.p r_g 0∧f 1=.n v∧f 2=.n d∧f 3=.n w∧f 4=.n owner) ?_ ?_)
 ·rcases bc (t || (decide (v=w))) with s | s
  ·refine Zh rfl s (Zh rfl s (Zc (Zcb (w:=(t || (decide (v=w))) || (decide (owner < (-2)))) rfl s rfl) (Zg ?_)))
   exact ⟨rfl,rfl,Y,aa,ab,ac,M⟩
  ·refine Zp rfl s (Zb _ M (Zp rfl s (Zc (zF rfl rfl) (Zc (Zcc rfl s rfl) (Zg ?_)))))
   exact ⟨rfl,rfl,Y,aa,ab,ac,M⟩
 rintro aI _ ⟨rfl,an,E,N,F,O,ad⟩
 refine Zb _ an (Ze (zD hp rfl (fun af hp=>?_) (fun af hp=>?_)))
 ·refine Zi (Zb (.n 2) rfl (Ze (Zar (Zbv (zE (z4 (zX rfl ZK) ?_))))))
  cases hp
  exact ⟨v_g_cells,rfl,(J.pk [0,1])⟩
 ·refine ZB (Zgd hp (fun x2 e fr k=>e=.normal∧fr 0=.p r_g 0∧fr 1=.n v∧fr 2=.n d∧fr 3=.n w∧fr 4=.n owner∧fr 36=.b x2∧Own B h k [zP r_g [v_g_cells],eSl Zd v_g_cells g.cells]) (fun _ hp=>?_) ?_)
  ·refine ZeH ?_
   have l:=J.bump 26
   have T:=Fresh.start A 26
   have aM:∀ {i:Nat},h.n≤A.n + i:=Nat.le_trans J.n (Nat.le_add_right _ _)
   refine ZaU _ E (ZT (Zge rfl) (ZT (zG (r:=r_g) (o:=0) rfl rfl) (ZT (ZU (l.box 0 rfl) rfl rfl) (ZaU _ N (ZaU _ F (ckk hp fun C hp=>ZT (ZZ (l.sl 1 rfl) rfl rfl C) (ZT (Zbo (l.sl 1 rfl) (Zf C) rfl rfl) ?_)))))))
   refine ckk hp fun R hp=>ZT (ZaZ (l.sl 1 rfl) (Zf C) rfl rfl R rfl) (ZT (zN (l.sl 1 rfl) rfl (Zf C) (zx R)) (ZT (Zc5 rfl rfl) (ZaU (.b (!(decide (((gi g.cells v.toNat).Next).get d=(-1))))) rfl ?_)))
   refine ifk hp (fun a hp=>?_) (fun a hp=>?_)
   ·refine ZaW rfl a (ZaW rfl a (ZaW rfl a (ZaW rfl a (ZaW rfl a (ZaW rfl a (ZaW rfl a (ZaW rfl a (ZaW rfl a ?_))))))))
    refine ZaW rfl a (ZaW rfl a (ZaW rfl a (ZT (ZaF (v:=.b true) rfl a rfl) (ZaU (.b true) rfl (Zcv ?_)))))
    refine And.intro ?_ ?_
    ·intro q hq
     simp only [List.mem_cons,List.not_mem_nil,or_false] at hq
     rcases hq with rfl
     ·exact ZkK
    cases hp
    exact ⟨rfl,E,N,F,O,ad,rfl,(l.pk [0,1])⟩
   ·refine ZcG rfl a (ZaU _ E (ZcG rfl a (ZT (Zge rfl) (ZcG rfl a (ZT (zG (r:=r_g) (o:=0) rfl rfl) (ZcG rfl a (ZT (ZU (l.box 0 rfl) rfl rfl) (ZcG rfl a ?_))))))))
    refine ZaU _ O (ZcG rfl a (ZaU _ F (ZcG rfl a ?_)))
    obtain ⟨x3,⟨aQ,aK,aj,rfl,Q⟩,hp⟩:=bdk hp fun _=>Za6.ok (h:=(A.bump 26))  
    refine Zi0 rfl rfl aj ?_
    have aF:=T.call Q
    have y:=l.call Q rfl
    refine ZcG rfl a (ckk hp fun D hp=>ZT (ZZ (y.sl 1 rfl) rfl rfl D) (ZcG rfl a (ZT (Zbo (y.sl 1 rfl) (Zf D) rfl rfl) (ZcG rfl a (ckk hp fun S hp=>ZT (ZaZ (y.sl 1 rfl) (Zf D) rfl rfl S rfl) (ZcG rfl a ?_))))))
    refine ZT (zN (y.sl 1 rfl) rfl (Zf D) (zx S)) (ZcG rfl a (ZT (Zc5 rfl rfl) (ZT (Za5 (v:=.b (!(decide (((gi g.cells w.toNat).Next).get x3=(-1))))) rfl a rfl) (ZaU (.b (!(decide (((gi g.cells w.toNat).Next).get x3=(-1))))) rfl (Zcv ?_)))))
    refine And.intro ?_ ?_
    ·intro q hq
     simp only [List.mem_cons,List.not_mem_nil,or_false] at hq
     rcases hq with rfl
     ·refine ZjB rfl rfl ?_
      ·exact (fun r hm hc=>hc (Q.base r (Nat.lt_of_lt_of_le (J.ltAt 0 rfl _ (tch (ZbN hm) rfl)) (Nat.le_trans (Nat.le_add_right _ _) T.n))))
    cases hp
    exact ⟨rfl,E,N,F,O,ad,rfl,(y.pk [0,1])⟩
  rintro x2 hp _ aN ax ⟨rfl,ay,az,aA,aB,aD,aC,P⟩
  refine Zo (zD hp aC (fun ag hp=>?_) (fun ag hp=>?_))
  ·refine Zi (Zb (.n 9) rfl (Ze (Zar (Zbv (zE (z4 (zX rfl ZK) ?_))))))
   cases hp
   exact ⟨v_g_cells,rfl,(P.pk [0,1])⟩
  ·refine Zc2 (Zaf (Zo (Zi (Zb _ ay (Zb _ az (Zb _ aA (Zb _ aB ?_)))))))
   refine Zb _ aD ?_
   obtain ⟨m,⟨aR,aL,ak,aE,rfl,au⟩,hp⟩:=bdk hp fun _=>Zc9.ok (h:=ax) (g:=g) (v:=v) (d:=d) (w:=w) (owner:=owner) (P.toM [0,1] rfl (by decide)) 
   refine ZaI rfl rfl ak ?_
   have ap:=(P.callM [0,1] [] rfl rfl (by decide) au rfl).pick [0,1] rfl (by decide)
   refine Ze (Zi (Zb (.n 0) rfl (Ze (Zar (z4 (zX rfl ZK) ?_)))))
   cases hp
   exact ⟨aE,rfl,(ap.pk [0,1])⟩

theorem ZaK.ok {h:Hp} {cells:List Za} {picks:List Bool} {v_cells:V} {v_picks:V} (s_cells:Sl Zd h v_cells cells) (s_picks:Sl e_bool h v_picks picks) {r:(List Za) × Int × Int} (hp:ZaK cells picks=some r) :
  ∃ u k',Is G 212 [v_cells,v_picks] h u k'∧∃ S,V.tu [S,.n r.2.1,.n r.2.2]=u∧Own (fun r=>r < h.n) h k' [eSl Zd S r.1]:=by
 refine WC.is (ZaP Zf0 ?_)
 unfold ZaK at hp
 let B:Nat→Prop:=(fun r=>r < h.n)
 have hO:Own B h h []:=Own.start0 h
 refine Zi (Zb (.sn) rfl (Zb (.n 0) rfl (Zb (.n 0) rfl (Ze (ZB (ZB ?_))))))
 refine zI (Zb v_cells rfl ?_)
 obtain ⟨x,⟨a0,aC,ab,rfl,ar⟩,hp⟩:=bdk hp fun _=>ZcS.ok (h:=h)  (hO.rd0 s_cells.rd)
 refine ZaI rfl rfl ab ?_
 have C:=hO.call ar rfl
 refine Zb (.n x) rfl (Ze (Zi (Zb (.n x) rfl (Zc (Zc5 rfl rfl) (Ze (zD hp rfl (fun U hp=>?_) (fun U hp=>?_)))))))
 ·refine Zi (Zb (.n x) rfl (Zb (.sn) rfl (Zb (.n 0) rfl (Zb (.n x) rfl (Ze (Zar ?_))))))
  refine zE ?_
  have am:=C.nil Zd
  refine z4 (zX rfl (zX rfl (zX rfl ZK))) ?_
  cases hp
  exact ⟨V.sn,rfl,(am.pk [0])⟩
 ·refine Zas (Zi (Zb v_cells rfl ?_))
  obtain ⟨⟨x1,x2⟩,⟨a1,aD,ac,c,F,rfl,au⟩,hp⟩:=bdk hp fun _=>Zem.ok (h:=aC)  (C.rd0 s_cells.rd)
  refine ZaI rfl rfl ac ?_
  have an:=C.call au rfl
  refine Zb (.tu [(if (x1).isSome=true then V.p c 0 else V.pn),.n x2]) rfl (Zc (Zbr rfl rfl) (Zc (Zbr rfl rfl) (Zb ((if (x1).isSome=true then V.p c 0 else V.pn)) rfl (Zb (.n x2) rfl (Ze (Zi ?_))))))
  refine Zb (.n 0) rfl (Ze (Zaa ?_))
  obtain ⟨g,o,hp⟩:=ZaH hp
  replace o:x1=some g:=o
  have ao:Own B h aD [zP c [F],eSl Zd F g.cells]:=by have hq:=an; rw [o] at hq; exact hq
  refine Zb7 hp (fun | (g1,n),fr,k=>∃ l,fr 1=v_picks∧fr 8=.p c 0∧fr 10=.n n∧Own B h k [zP c [l],eSl Zd l g1]) (fun | (x3,x4,x5),e,fr,k=>e=.ret∧∃ y,fr 4=y∧fr 5=.n x4∧fr 6=.n x5∧Own B h k [eSl Zd y x3]) ⟨F,rfl,(unw o),rfl,(ao.pk [0,1])⟩ ?_ ?_
  ·rintro ⟨g1,n⟩ aY aE ⟨l,q,s,j,D⟩ aW hp
   dsimp only [ZaK.s0] at hp
   refine ZB (Zaa (Zi (Zb _ s ?_)))
   obtain ⟨x6,⟨a2,aF,ad,a8,rfl,av⟩,hp⟩:=bdk hp fun _=>ZbO.ok (h:=aE)  (D.box 0 rfl) (D.sl 1 rfl)
   refine ZaI rfl rfl ad ?_
   have Q:=D.call av rfl
   obtain ⟨⟨x7,x8,x9,x10⟩,⟨a3,E,ae,rfl,aw⟩,hp⟩:=bdk hp fun _=>Zb9.ok (h:=aF)  (Q.sl 2 rfl)
   refine ZaI rfl rfl ae ?_
   have i:=Q.call aw rfl
   refine Zb (.tu [.n x7,.n x8,.n x9,.b x10]) rfl (Zc (Zbr rfl rfl) (Zc (Zbr rfl rfl) (Zc (Zbr rfl rfl) (Zc (Zbr rfl rfl) (Zb (.n x7) rfl (Zb (.n x8) rfl (Zb (.n x9) rfl (Zb (.b x10) rfl ?_))))))))
   refine Ze (ZB (Zi (Zb (.b x10) rfl (Zc (ZcO rfl) (Ze (zD hp rfl (fun W hp=>?_) (fun W hp=>?_)))))))
   ·refine Zi (Zb _ s ?_)
    obtain ⟨x11,⟨a4,aV,af,T,rfl,ax⟩,hp⟩:=bdk hp fun _=>ZbO.ok (h:=E)  (i.box 0 rfl) (i.sl 1 rfl)
    refine ZaI rfl rfl af ?_
    have aq:=i.call ax rfl
    refine Zb _ j (Zb T rfl (Zb (.n n) rfl (Zb (.n 0) rfl (Ze (Zar (zE (Zbv ?_)))))))
    refine zE ?_
    cases hp
    exact ⟨nofun,rfl,T,rfl,rfl,rfl,(aq.pk [3])⟩
   ·refine Zas (Zi (Zb _ j (Zb _ q (Zc (Zae (i.rd0 s_picks.rd) rfl) (Zc (zF rfl rfl) (Zb (.b (decide (n < (picks.length:Int)))) rfl ?_))))))
    obtain ⟨t,aB,hp⟩:=ZaH hp
    refine zK 5 (fun f k=>E=k∧f 51=.b t∧f 1=v_picks∧f 10=.n n∧f 11=.n x7∧f 12=.n x8∧f 13=.n x9∧f 8=.p c 0) ?_ ?_
    ·clear hp; rcases ZaR aB with ⟨a,hp⟩ | ⟨a,hp⟩
     ·refine Zp rfl a (Zb _ q (Zp rfl a (Zb _ j (Zp rfl a (ckk hp fun H hp=>Zc (ZZ (i.rd0 s_picks.rd) rfl rfl H) (Zp rfl a (Zc (zN (i.rd0 s_picks.rd) rfl (Zf H) rfl) ?_)))))))
      refine Zc (ZaF (v:=.b t) rfl a (Eq.trans (b:=V.b (gi picks n.toNat)) rfl (congrArg V.b (Option.some.inj hp)))) (Zg ?_)
      exact ⟨rfl,rfl,q,j,rfl,rfl,rfl,s⟩
     ·refine Zh rfl a (Zh rfl a (Zh rfl a (Zh rfl a (Zc (Za5 (v:=.b t) rfl a (Eq.trans (b:=V.b false) rfl (congrArg V.b (Option.some.inj hp)))) (Zg ?_)))))
      exact ⟨rfl,rfl,q,j,rfl,rfl,rfl,s⟩
    rintro aR _ ⟨rfl,aj,I,J,K,A,L,M⟩
    refine Zb _ aj (Ze (ZB (Zi (Zb _ A ?_))))
    obtain ⟨x12,⟨a5,aG,ag,rfl,ay⟩,hp⟩:=bdk hp fun _=>Zck.ok (h:=E)  
    refine ZaI rfl rfl ag ?_
    have N:=i.call ay rfl
    refine Zb (.b t) rfl (Zc (ZlD rfl rfl) (Ze (Zgd hp (fun d e fr k=>e=.normal∧fr 1=v_picks∧fr 8=.p c 0∧fr 10=.n n∧fr 11=.n x7∧fr 12=.n d∧fr 13=.n x9∧Own B h k [zP c [l],eSl Zd l g1]) (fun _ hp=>?_) ?_)))
    ·refine zD hp rfl (fun X hp=>?_) (fun X hp=>?_)
     ·refine zI (Zb _ A ?_)
      obtain ⟨x13,⟨a6,aS,ah,rfl,az⟩,hp⟩:=bdk hp fun _=>Za6.ok (h:=aG)  
      refine ZaI rfl rfl ah ?_
      have ak:=N.call az rfl
      refine Zb (.n x13) rfl (Zg ?_)
      cases hp
      exact ⟨rfl,I,M,J,K,rfl,L,(ak.pk [0,1])⟩
     ·refine Zc2 ?_
      cases hp
      exact ⟨rfl,I,M,J,K,A,L,(N.pk [0,1])⟩
    rintro d hp _ aZ aH ⟨rfl,aL,R,aM,aN,aO,aP,O⟩
    refine Zo (Zi (Zb _ R (Zb _ aN (Zb _ aO (Zb _ aP ?_)))))
    obtain ⟨⟨x14,m⟩,⟨a7,aT,ai,aQ,rfl,aA⟩,hp⟩:=bdk hp fun _=>Zcy.ok (h:=aH) (g:=(⟨g1⟩:Zbe)) (v:=x7) (d:=d) (w:=x9) (owner:=(-2)) (O.toM [0,1] rfl (by decide)) 
    refine ZaI rfl rfl ai ?_
    have P:=(O.callM [0,1] [] rfl rfl (by decide) aA rfl).pick [0,1] rfl (by decide)
    refine Zb (.n x14) rfl (Ze (Zi (Zb (.n x14) rfl (Zc (Zc5 rfl rfl) (Ze (zD hp rfl (fun Y hp=>?_) (fun Y hp=>?_)))))))
    ·refine Zi (Zb (.n x14) rfl (Zb (.sn) rfl (Zb (.n 0) rfl (Zb (.n x14) rfl (Ze (Zar ?_))))))
     refine Zbv (zE ?_)
     have al:=P.nil Zd
     cases hp
     exact ⟨nofun,rfl,V.sn,rfl,rfl,rfl,(al.pk [2])⟩
    ·refine Zc2 (Zaf (Zo (zI (Zb _ aM (ckk hp fun aa hp=>Zc (zc rfl rfl aa) (Zb (.n (n + 1)) rfl (Zg ?_)))))))
     cases hp
     exact ⟨rfl,aQ,aL,R,rfl,(P.pk [0,1])⟩
  rintro ⟨x3,x4,x5⟩ hp _ aX aU ⟨rfl,y,aI,aJ,aK,ap⟩
  refine Zbv (z4 (zX aI (zX aJ (zX aK ZK))) ?_)
  cases hp
  exact ⟨y,rfl,(ap.pk [0])⟩

theorem Za7.ok {h:Hp} {cells:List Za} {v_cells:V} (s_cells:Sl Zd h v_cells cells) {r:(List Za) × Int} (hp:Za7 cells=some r) :
  ∃ u k',Is G 214 [v_cells] h u k'∧∃ W,V.tu [W,.n r.2]=u∧Own (fun r=>r < h.n) h k' [eSl Zd W r.1]:=by
 refine WC.is (ZaP Zfz ?_)
 unfold Za7 at hp
 let B:Nat→Prop:=(fun r=>r < h.n)
 have hO:Own B h h []:=Own.start0 h
 refine Zi (Zb (.sn) rfl (Zb (.n 0) rfl (Ze (ZB (Zi ?_)))))
 refine Zb v_cells rfl ?_
 obtain ⟨x,⟨a4,aJ,ai,rfl,au⟩,hp⟩:=bdk hp fun _=>Zam.ok (h:=h)  (hO.rd0 s_cells.rd)
 refine ZaI rfl rfl ai ?_
 have A:=hO.call au rfl
 refine Zb (.n x) rfl (Ze (Zi (Zb (.n x) rfl (Zc (Zc5 rfl rfl) (Ze (zD hp rfl (fun Y hp=>?_) (fun Y hp=>?_)))))))
 ·refine Zi (Zb (.n x) rfl (Zb (.sn) rfl (Zb (.n x) rfl (Ze (Zar (zE ?_))))))
  have an:=A.nil Zd
  refine z4 (zX rfl (zX rfl ZK)) ?_
  cases hp
  exact ⟨V.sn,rfl,(an.pk [0])⟩
 ·refine Zas (Zi (Zb (.sn) rfl (Ze (ZB (ZB ?_)))))
  refine zI (Zb v_cells rfl (Zc (Zae (A.rd0 s_cells.rd) rfl) (Zb (.n 0) rfl (Ze (Zaa ?_)))))
  have ap:=A.nil Zd
  refine Zb7 hp (fun | (l,x1),fr,k=>∃ i,fr 5=i∧fr 14=v_cells∧fr 15=.n (cells.length:Int)∧fr 16=.n x1∧Own B h k [eSl Zd i l]) (fun l1 e fr k=>e=(.exit 0)∧∃ s,fr 5=s∧Own B h k [eSl Zd s l1]) ⟨V.sn,rfl,rfl,rfl,rfl,(ap.pk [0])⟩ ?_ ?_
  ·rintro ⟨l,x1⟩ a0 aN ⟨i,U,S,T,F,j⟩ aX hp
   dsimp only [Za7.s0] at hp
   refine Zi (Zc (zF F T) (Ze (ZB (zD hp rfl (fun aa hp=>?_) (fun aa hp=>?_)))))
   ·refine Zas (ZB (Zaa (Zi (ckk hp fun L hp=>Zc (ZZ (j.rd0 s_cells.rd) S F L) (Zc (Zdb (j.rd0 s_cells.rd) rfl (Zf L)) ?_)))))
    refine zz (j.alloc (cs:=Zd.c (⟨⟨0,0,0,0⟩,⟨0,0,0,0⟩⟩:Za)) j.fr) ?_
    rintro _ aO ⟨g,rfl,aW,aC,aq⟩
    refine zz (aq.stb (cs':=Zd.c (gi cells x1.toNat)) 1 rfl rfl rfl rfl ⟨rfl,Nat.le_of_ble_eq_true rfl,rfl⟩ rfl) ?_
    rintro _ aP ⟨rfl,aD,aT,ar⟩
    refine Ze (ZB (Zi (Zb (.n 0) rfl (Ze (Zaa (Zb7 hp (fun | (c,x2),fr,k=>fr 5=i∧fr 7=.p g 0∧fr 14=v_cells∧fr 15=.n (cells.length:Int)∧fr 16=.n x1∧fr 20=.n x2∧Own B h k [eSl Zd i l,zP g (Zd.c c)]) (fun c1 e fr k=>e=(.exit 2)∧fr 5=i∧fr 7=.p g 0∧fr 14=v_cells∧fr 15=.n (cells.length:Int)∧fr 16=.n x1∧Own B h k [eSl Zd i l,zP g (Zd.c c1)]) ⟨U,rfl,S,T,F,rfl,(ar.pk [0,1])⟩ ?_ ?_))))))
    ·rintro ⟨c,x2⟩ a2 av ⟨K,q,H,I,J,y,m⟩ aY hp
     dsimp only [Za7.s1] at hp
     refine Zi (Zc (zF y rfl) (Ze (ZB (zD hp rfl (fun ab hp=>?_) (fun ab hp=>?_)))))
     ·refine Zas (ZB (Zaa (Zi (Zb _ y (Zb (.n x2) rfl (Zg ?_))))))
      refine Zo (Zi (Zb (.n x2) rfl (Zc (zG (r:=g) (o:=0) q rfl) (ckk hp fun d hp=>Zc (Ze7 (o:=0) (o':=(0 + x2.toNat * 1)) rfl rfl d rfl) (Zc (ZU (m.box 1 rfl) rfl (zx d)) (Zc (ZcV rfl rfl) ?_))))))
      refine Zb (.b (decide (0≤(c.Next.get x2)))) rfl (zK 6 (fun f k=>av=k∧f 34=.b ((decide (0≤(c.Next.get x2))) && (decide (c.Owner.get x2=(-2))))∧f 14=v_cells∧f 15=.n (cells.length:Int)∧f 16=.n x1∧f 20=.n x2∧f 5=i∧f 7=.p g 0∧f 8=.n x2) ?_ ?_)
      ·rcases bc (decide (0≤(c.Next.get x2))) with a | a
       ·refine Zp rfl a (Zb (.n x2) rfl (Zp rfl a (Zc (zG (r:=g) (o:=0) q rfl) (Zp rfl a (Zc (Ze7 (o:=4) (o':=(4 + x2.toNat * 1)) rfl rfl d rfl) (Zp rfl a (Zc (ZU (m.box 1 rfl) rfl (Zcs d)) (Zp rfl a ?_))))))))
        refine Zc (Zbl rfl rfl) (Zc (ZcN rfl a rfl) (Zg ?_))
        exact ⟨rfl,rfl,H,I,J,y,K,q,rfl⟩
       ·refine Zh rfl a (Zh rfl a (Zh rfl a (Zh rfl a (Zh rfl a (Zc (ZcM (w:=(decide (0≤(c.Next.get x2))) && (decide (c.Owner.get x2=(-2)))) rfl a rfl) (Zg ?_))))))
        exact ⟨rfl,rfl,H,I,J,y,K,q,rfl⟩
      rintro aI _ ⟨rfl,aj,M,N,O,P,Q,t,R⟩
      refine Ze (zD hp aj (fun ac hp=>?_) (fun ac hp=>?_))
      ·refine zI (Zb _ R (Zb _ R (Zc (zG (r:=g) (o:=0) t rfl) (Zc (Ze7 (o:=0) (o':=(0 + x2.toNat * 1)) rfl rfl d rfl) (zz (m.stb (cs':=Zd.c ({ c with Next:=c.Next.set x2 (-1) })) 1 rfl rfl rfl rfl ⟨rfl,(by have:=d; exact (show 0 + x2.toNat * 1 + 1≤8 by omega)),rfl⟩ (Zcj d)) ?_)))))
       rintro _ aR ⟨rfl,aE,aU,ak⟩
       refine Zc (zG (r:=g) (o:=0) t rfl) (Zc (Ze7 (o:=4) (o':=(4 + x2.toNat * 1)) rfl rfl d rfl) (zz (ak.stb (cs':=Zd.c ({ { c with Next:=c.Next.set x2 (-1) } with Owner:=(({ c with Next:=c.Next.set x2 (-1) }).Owner).set x2 0 })) 1 rfl rfl rfl rfl ⟨rfl,(by have:=d; exact (show 4 + x2.toNat * 1 + 1≤8 by omega)),rfl⟩ (Zcu d)) ?_))
       rintro _ aS ⟨rfl,aF,aV,al⟩
       refine Zg (Zaf (Zo (zI (ckk hp fun ad hp=>Zc (zc P rfl ad) (Zb (.n (x2 + 1)) rfl (Zg ?_))))))
       cases hp
       exact ⟨rfl,Q,t,M,N,O,rfl,(al.pk [0,1])⟩
      ·refine Zc2 (Zaf (Zo (zI (ckk hp fun ae hp=>Zc (zc P rfl ae) (Zb (.n (x2 + 1)) rfl (Zg ?_))))))
       cases hp
       exact ⟨rfl,Q,t,M,N,O,rfl,(m.pk [0,1])⟩
     ·refine Zbq (zM ?_)
      cases hp
      exact ⟨nofun,rfl,K,q,H,I,J,(m.pk [0,1])⟩
    rintro c1 hp _ a1 aQ ⟨rfl,aA,aB,ax,ay,az,D⟩
    refine Zav (Zo (zI (Zb _ aA (Zc (Zbz (D.box 1 rfl) aB rfl) (zz (D.bsl (E:=Zd) (l:=[c1]) D.fr (by rw [(zp (v:=.ag (Zd.c c1)) rfl ZaN)]; rfl) rfl) ?_)))))
    rintro a5 aK ⟨a3,aG,C⟩
    refine ckk hp fun af hp=>zz (C.app (bytes:=64) 0 C.fr rfl (C.sl 2 rfl) rfl rfl (fun _=>rfl) af (by decide)) ?_
    rintro X aL ⟨aH,am⟩
    refine Zb X rfl (Zg (Zaf (Zo (zI (ckk hp fun ah hp=>Zc (zc az rfl ah) (Zb (.n (x1 + 1)) rfl (Zg ?_)))))))
    cases hp
    exact ⟨rfl,X,rfl,ax,ay,rfl,(am.pk [0])⟩
   ·refine Zbq (zM ?_)
    cases hp
    exact ⟨nofun,rfl,i,U,(j.pk [0])⟩
  rintro l1 hp _ aZ aM ⟨rfl,s,aw,ao⟩
  refine Zav (Zo (Zi (Zb _ aw (Zb s rfl (Zb (.n 0) rfl (Ze ?_))))))
  refine Zar (z4 (zX rfl (zX rfl ZK)) ?_)
  cases hp
  exact ⟨s,rfl,(ao.pk [0])⟩

theorem Zan.ok {h:Hp} {a:List Za} {b:List Za} {v_a:V} {v_b:V} (s_a:Sl Zd h v_a a) (s_b:Sl Zd h v_b b) {r:Bool} (hp:Zan a b=some r) :
  ∃ u k',Is G 56 [v_a,v_b] h u k'∧V.b r=u∧Own (fun r=>r < h.n) h k' []:=by
 refine WC.is (ZaP Zez ?_)
 unfold Zan at hp
 let B:Nat→Prop:=(fun r=>r < h.n)
 have hO:Own B h h []:=Own.start0 h
 refine Zi (Zb (.b false) rfl (Ze (ZB (Zi (Zb v_a rfl ?_)))))
 refine Zc (Zae (hO.rd0 s_a.rd) rfl) (Zb v_b rfl (Zc (Zae (hO.rd0 s_b.rd) rfl) (Zc (Zc5 rfl rfl) (Ze (zD hp rfl (fun s hp=>?_) (fun s hp=>?_))))))
 ·refine Zi (Zb (.b false) rfl (Ze (Zar (zE (z4 (zX rfl ZK) ?_)))))
  cases hp
  exact ⟨rfl,(hO.pk [])⟩
 ·refine Zas (ZB (Zi (Zb (.n 0) rfl (Ze (Zaa (Zb7 hp (fun i fr k=>fr 0=v_a∧fr 1=v_b∧fr 5=.n i∧Own B h k []) (fun | .inl _,e,fr,k=>e=(.exit 0)∧Own B h k [] | .inr _,e,fr,k=>e=.ret∧fr 4=.b false∧Own B h k []) ⟨rfl,rfl,rfl,(hO.pk [])⟩ ?_ ?_))))))
  ·rintro i E A ⟨l,q,f,j⟩ C hp
   dsimp only [Zan.s0] at hp
   refine ZB (Zi (Zb _ f (Zb _ l (Zc (Zae (j.rd0 s_a.rd) rfl) (Zc (zF rfl rfl) (Ze (zD hp rfl (fun t hp=>?_) (fun t hp=>?_))))))))
   ·refine Zas (ZB (Zaa (ZB (ZhN ?_))))
    have d:=j.bump 9
    refine Zbk _ l (Zbk _ f (ckk hp fun m hp=>z3 rfl (ZZ (d.rd0 s_a.rd) rfl rfl m) (z3 rfl (Zdb (d.rd0 s_a.rd) rfl (Zf m)) (Zbk _ q (Zbk _ f (ckk hp fun o hp=>z3 rfl (ZZ (d.rd0 s_b.rd) rfl rfl o) ?_))))))
    refine z3 rfl (Zdb (d.rd0 s_b.rd) rfl (Zf o)) (z3 rfl (ZpD (as:=Zd.c (gi a i.toNat)) (bs:=Zd.c (gi b i.toNat)) rfl rfl (Mu.Zd.same _ _)) (Zbi (Zo (zD hp rfl (fun v hp=>?_) (fun v hp=>?_)))))
    ·refine Zi (Zb (.b false) rfl (Ze (Zar (Zbv (zE ?_)))))
     cases hp
     exact ⟨nofun,rfl,rfl,(d.pk [])⟩
    ·refine Zc2 (Zaf (Zo (zI (Zb _ f (ckk hp fun w hp=>Zc (zc rfl rfl w) (Zb (.n (i + 1)) rfl (Zg ?_)))))))
     cases hp
     exact ⟨rfl,l,q,rfl,(d.pk [])⟩
   ·refine Zbq (zM ?_)
    cases hp
    exact ⟨nofun,rfl,(j.pk [])⟩
  rintro (_ | _) hp _ D y p
  ·obtain ⟨rfl,g⟩:=p
   refine Zav (Zo (Zi (Zb (.b true) rfl (Ze (Zar (z4 (zX rfl ZK) ?_))))))
   cases hp
   exact ⟨rfl,(g.pk [])⟩
  ·obtain ⟨rfl,x,g⟩:=p
   refine Zbv (zE (z4 (zX x ZK) ?_))
   cases hp
   exact ⟨rfl,(g.pk [])⟩

theorem Zct.ok {h:Hp}    {r:Bool} (hp:Zct =some r) :
  ∃ u k',Is G 190 [] h u k'∧V.b r=u∧Own (fun r=>r < h.n) h k' []:=by
 refine WC.is (ZaP ZdW ?_)
 unfold Zct at hp
 let B:Nat→Prop:=(fun r=>r < h.n)
 have hO:Own B h h []:=Own.start0 h
 refine Zi (Zb (.b false) rfl (Ze (Zi ?_)))
 obtain ⟨x,⟨aB,I,K,ar,rfl,af⟩,hp⟩:=bdk hp fun _=>Zb1.ok (h:=h)  
 refine ZaI rfl Zkp K ?_
 have D:=hO.call af rfl
 obtain ⟨⟨x1,x2,x3⟩,⟨aC,an,L,l,rfl,ag⟩,hp⟩:=bdk hp fun _=>ZaK.ok (h:=I)  (D.sl 0 rfl) (Sl.nil:Sl e_bool I .sn ([]:List Bool))
 refine ZaI rfl rfl L ?_
 have E:=D.call ag rfl
 refine Zb (.tu [l,.n x2,.n x3]) rfl (Zc (Zbr rfl rfl) (Zc (Zbr rfl rfl) (Zc (Zbr rfl rfl) (Zb l rfl (Zb (.n x2) rfl (Zb (.n x3) rfl (Ze ?_)))))))
 refine Zi (Zb l rfl ?_)
 obtain ⟨⟨x4,x5⟩,⟨aD,ao,M,i,rfl,ah⟩,hp⟩:=bdk hp fun _=>Za7.ok (h:=an)  (E.sl 1 rfl)
 refine ZaI rfl rfl M ?_
 have ac:=E.call ah rfl
 refine Zb (.tu [i,.n x5]) rfl (Zc (Zbr rfl rfl) (Zc (Zbr rfl rfl) (Zb i rfl (Zb (.n x5) rfl (Ze (Zi ?_))))))
 obtain ⟨x6,⟨aE,J,N,au,rfl,ai⟩,hp⟩:=bdk hp fun _=>zk.ok (h:=ao)  
 refine ZaI rfl rfl N ?_
 have F:=ac.call ai rfl
 obtain ⟨⟨x7,x8,x9⟩,⟨aF,j,O,o,rfl,aj⟩,hp⟩:=bdk hp fun _=>ZaK.ok (h:=J)  (F.sl 3 rfl) (Sl.nil:Sl e_bool J .sn ([]:List Bool))
 refine ZaI rfl rfl O ?_
 have H:=F.call aj rfl
 refine Zb (.tu [o,.n x8,.n x9]) rfl (Zc (Zbr rfl rfl) (Zc (Zbr rfl rfl) (Zc (Zbr rfl rfl) (Zb o rfl (Zb (.n x8) rfl (Zb (.n x9) rfl (Ze ?_)))))))
 refine Zi (Zb (.n x3) rfl (Zc (Zbl rfl rfl) (Zb (.b (decide (x3=0))) rfl (zK 3 (fun f k=>j=k∧f 31=.b ((decide (x3=0)) && (decide (0 < x2)))∧f 2=.n x2∧f 4=i∧f 5=.n x5∧f 8=.n x9) ?_ ?_))))
 ·rcases bc (decide (x3=0)) with c | c
  ·refine Zp rfl c (Zb (.n x2) rfl (Zp rfl c (Zc (Zd2 rfl rfl) (Zc (ZcN rfl c rfl) (Zg ?_)))))
   exact ⟨rfl,rfl,rfl,rfl,rfl,rfl⟩
  ·refine Zh rfl c (Zh rfl c (Zc (ZcM (w:=(decide (x3=0)) && (decide (0 < x2))) rfl c rfl) (Zg ?_)))
   exact ⟨rfl,rfl,rfl,rfl,rfl,rfl⟩
 rintro av _ ⟨rfl,S,R,p,q,s⟩
 refine Zb _ S (zK 3 (fun f k=>j=k∧f 35=.b (((decide (x3=0)) && (decide (0 < x2))) && (decide (x2 < 3)))∧f 4=i∧f 5=.n x5∧f 8=.n x9) ?_ ?_)
 ·rcases bc ((decide (x3=0)) && (decide (0 < x2))) with d | d
  ·refine Zp rfl d (Zb _ R (Zp rfl d (Zc (zF rfl rfl) (Zc (ZcN rfl d rfl) (Zg ?_)))))
   exact ⟨rfl,rfl,p,q,s⟩
  ·refine Zh rfl d (Zh rfl d (Zc (ZcM (w:=((decide (x3=0)) && (decide (0 < x2))) && (decide (x2 < 3))) rfl d rfl) (Zg ?_)))
   exact ⟨rfl,rfl,p,q,s⟩
 rintro aw _ ⟨rfl,T,y,U,A⟩
 refine Zb _ T (zK 3 (fun f k=>j=k∧f 39=.b ((((decide (x3=0)) && (decide (0 < x2))) && (decide (x2 < 3))) && (decide (x5=0)))∧f 4=i∧f 8=.n x9) ?_ ?_)
 ·rcases bc (((decide (x3=0)) && (decide (0 < x2))) && (decide (x2 < 3))) with e | e
  ·refine Zp rfl e (Zb _ U (Zp rfl e (Zc (Zbl rfl rfl) (Zc (ZcN rfl e rfl) (Zg ?_)))))
   exact ⟨rfl,rfl,y,A⟩
  ·refine Zh rfl e (Zh rfl e (Zc (ZcM (w:=(((decide (x3=0)) && (decide (0 < x2))) && (decide (x2 < 3))) && (decide (x5=0))) rfl e rfl) (Zg ?_)))
   exact ⟨rfl,rfl,y,A⟩
 rintro ax _ ⟨rfl,W,X,C⟩
 refine Zb _ W ?_
 obtain ⟨t,am,hp⟩:=ZaH hp
 refine zK 4 (fun f k=>Own B h k [eSl Zd ar x,eSl Zd l x1,eSl Zd i x4,eSl Zd au x6,eSl Zd o x7]∧f 44=.b t∧f 8=.n x9) ?_ ?_
 ·clear hp; rcases ZaR am with ⟨a,hp⟩ | ⟨a,hp⟩
  ·refine Zp rfl a (Zb _ X (Zp rfl a ?_))
   obtain ⟨x10,⟨aG,ap,P,aI,rfl,ak⟩,hp⟩:=bdk hp fun _=>Zb1.ok (h:=j)  
   refine ZaI rfl Zkp P ?_
   have m:=H.call ak rfl
   refine Zp rfl a ?_
   obtain ⟨x11,⟨aH,aA,Q,rfl,al⟩,hp⟩:=bdk hp fun _=>Zan.ok (h:=ap)  (m.sl 2 rfl) (m.sl 5 rfl)
   refine ZaI rfl rfl Q ?_
   have ad:=m.call al rfl
   refine Zc (ZaF (v:=.b t) rfl a (Eq.trans (b:=V.b x11) rfl (congrArg V.b (Option.some.inj hp)))) (Zg ?_)
   exact ⟨ad.pk [0,1,2,3,4],rfl,C⟩
  ·refine Zh rfl a (Zh rfl a (Zh rfl a (Zc (Za5 (v:=.b t) rfl a (Eq.trans (b:=V.b false) rfl (congrArg V.b (Option.some.inj hp)))) (Zg ?_))))
   exact ⟨H.pk [0,1,2,3,4],rfl,C⟩
 rintro ay aq ⟨ae,Y,aa⟩
 refine Zb _ Y (zK 3 (fun f k=>aq=k∧f 48=.b (t && (decide (x9=13)))) ?_ ?_)
 ·rcases bc t with g | g
  ·refine Zp rfl g (Zb _ aa (Zp rfl g (Zc (Zbl rfl rfl) (Zc (ZcN rfl g rfl) (Zg ?_)))))
   exact ⟨rfl,rfl⟩
  ·refine Zh rfl g (Zh rfl g (Zc (ZcM (w:=t && (decide (x9=13))) rfl g rfl) (Zg ?_)))
   exact ⟨rfl,rfl⟩
 rintro az _ ⟨rfl,ab⟩
 refine Zb _ ab (Ze (Zar (z4 (zX rfl ZK) ?_)))
 cases hp
 exact ⟨rfl,(ae.pk [])⟩

theorem zA.ok {h:Hp} {l:List Za} {v_l:V} (s_l:Sl Zd h v_l l) {r:Int} (hp:zA l=some r) :
  ∃ u k',Is G 34 [v_l] h u k'∧V.n r=u∧Own (fun r=>r < h.n) h k' []:=by
 refine WC.is (ZaP ZdZ ?_)
 unfold zA at hp
 let B:Nat→Prop:=(fun r=>r < h.n)
 have hO:Own B h h []:=Own.start0 h
 refine Zi (Zb (.n 0) rfl (Ze (ZB (Zi (Zb v_l rfl ?_)))))
 refine Zc (Zae (hO.rd0 s_l.rd) rfl) (Zc (Zd2 rfl rfl) (Ze (zD hp rfl (fun aa hp=>?_) (fun aa hp=>?_))))
 ·refine Zi (Zb (.n 6) rfl (Ze (Zar (zE (z4 (zX rfl ZK) ?_)))))
  cases hp
  exact ⟨rfl,(hO.pk [])⟩
 ·refine Zas (ZB (Zi (Zb (.n 0) rfl (Ze (Zaa (Zb7 hp (fun v fr k=>fr 0=v_l∧fr 3=.n v∧Own B h k []) (fun | .inl _,e,fr,k=>e=(.exit 0)∧Own B h k [] | .inr x,e,fr,k=>e=.ret∧fr 2=.n x∧Own B h k []) ⟨rfl,rfl,(hO.pk [])⟩ ?_ ?_))))))
  ·rintro v aI aD ⟨X,Y,K⟩ aF hp
   dsimp only [zA.s0] at hp
   refine ZB (Zi (Zb _ Y (Zb _ X (Zc (Zae (K.rd0 s_l.rd) rfl) (Zc (zF rfl rfl) (Ze (zD hp rfl (fun ac hp=>?_) (fun ac hp=>?_))))))))
   ·refine Zas (ZB (Zaa (Zi (Zb (.n 0) rfl (Ze ?_)))))
    refine Zaa (Zb7 hp (fun d fr k=>fr 0=v_l∧fr 3=.n v∧fr 4=.n d∧Own B h k []) (fun | .inl _,e,fr,k=>e=(.exit 2)∧fr 0=v_l∧fr 3=.n v∧Own B h k [] | .inr x1,e,fr,k=>e=.ret∧fr 2=.n x1∧Own B h k []) ⟨X,Y,rfl,(K.pk [])⟩ ?_ ?_)
    ·rintro d aK D ⟨p,q,s,c⟩ aG hp
     dsimp only [zA.s1] at hp
     refine ZB (Zi (Zb _ s (Zc (zF rfl rfl) (Ze (zD hp rfl (fun ad hp=>?_) (fun ad hp=>?_))))))
     ·refine Zas (ZB (Zaa (Zi (Zb _ p (Zb _ q (Zb _ s ?_))))))
      refine ckk hp fun j hp=>Zc (ZZ (c.rd0 s_l.rd) rfl rfl j) (Zc (Zbo (c.rd0 s_l.rd) (Zf j) rfl rfl) (ckk hp fun t hp=>Zc (ZaZ (c.rd0 s_l.rd) (Zf j) rfl rfl t rfl) (Zc (zN (c.rd0 s_l.rd) rfl (Zf j) (zx t)) (Zb (.n (((gi l v.toNat).Next).get d)) rfl (Ze ?_)))))
      refine Zi (Zb _ p (Zb _ q (Zb _ s (Zc (ZZ (c.rd0 s_l.rd) rfl rfl j) (Zc (Zbo (c.rd0 s_l.rd) (Zf j) rfl rfl) (Zc (ZaZ (c.rd0 s_l.rd) (Zf j) rfl rfl t rfl) (Zc (zN (c.rd0 s_l.rd) rfl (Zf j) (Zcs t)) ?_)))))))
      refine Zb (.n (((gi l v.toNat).Owner).get d)) rfl (Ze (ZB (Zi (Zb (.n (((gi l v.toNat).Next).get d)) rfl (Zc (Zbl rfl rfl) (Zg ?_))))))
      refine Zo (zD hp rfl (fun ae hp=>?_) (fun ae hp=>?_))
      ·refine ZB (Zi (Zb (.n (((gi l v.toNat).Owner).get d)) rfl (Zc (Zc5 rfl rfl) (Ze (zD hp rfl (fun af hp=>?_) (fun af hp=>?_))))))
       ·refine Zi (Zb (.n 9) rfl (Ze (Zar (zE (zE (Zbv ?_))))))
        refine zE ?_
        cases hp
        exact ⟨nofun,rfl,rfl,(c.pk [])⟩
       ·refine Zas (Zbq (zM (Zav (Zo (zI (Zb _ s (ckk hp fun ah hp=>?_)))))))
        refine Zc (zc rfl rfl ah) (Zb (.n (d + 1)) rfl (Zg ?_))
        cases hp
        exact ⟨rfl,p,q,rfl,(c.pk [])⟩
      ·refine Zas (ZB (Zi (Zb (.n (((gi l v.toNat).Next).get d)) rfl (Zc (zF rfl rfl) (Zb (.b (decide ((((gi l v.toNat).Next).get d) < 0))) rfl (zK 5 (fun f k=>D=k∧f 45=.b ((decide ((((gi l v.toNat).Next).get d) < 0)) || (decide ((l.length:Int)≤(((gi l v.toNat).Next).get d))))∧f 0=v_l∧f 3=.n v∧f 4=.n d∧f 5=.n (((gi l v.toNat).Next).get d)∧f 6=.n (((gi l v.toNat).Owner).get d)) ?_ ?_))))))
       ·rcases bc (decide ((((gi l v.toNat).Next).get d) < 0)) with g | g
        ·refine Zh rfl g (Zh rfl g (Zh rfl g (Zh rfl g (Zc (Zcb (w:=(decide ((((gi l v.toNat).Next).get d) < 0)) || (decide ((l.length:Int)≤(((gi l v.toNat).Next).get d)))) rfl g rfl) (Zg ?_)))))
         exact ⟨rfl,rfl,p,q,s,rfl,rfl⟩
        ·refine Zp rfl g (Zb (.n (((gi l v.toNat).Next).get d)) rfl (Zp rfl g (Zb _ p (Zp rfl g (Zc (Zae (c.rd0 s_l.rd) rfl) (Zp rfl g (Zc (ZcV rfl rfl) (Zc (Zcc rfl g rfl) ?_))))))))
         refine Zg ?_
         exact ⟨rfl,rfl,p,q,s,rfl,rfl⟩
       rintro ay _ ⟨rfl,ak,N,E,O,F,P⟩
       refine Zb _ ak (zK 4 (fun f k=>D=k∧f 50=.b (((decide ((((gi l v.toNat).Next).get d) < 0)) || (decide ((l.length:Int)≤(((gi l v.toNat).Next).get d)))) || (decide (((gi l v.toNat).Next).get d=v)))∧f 0=v_l∧f 3=.n v∧f 4=.n d∧f 5=.n (((gi l v.toNat).Next).get d)∧f 6=.n (((gi l v.toNat).Owner).get d)) ?_ ?_)
       ·rcases bc ((decide ((((gi l v.toNat).Next).get d) < 0)) || (decide ((l.length:Int)≤(((gi l v.toNat).Next).get d)))) with i | i
        ·refine Zh rfl i (Zh rfl i (Zh rfl i (Zc (Zcb (w:=((decide ((((gi l v.toNat).Next).get d) < 0)) || (decide ((l.length:Int)≤(((gi l v.toNat).Next).get d)))) || (decide (((gi l v.toNat).Next).get d=v))) rfl i rfl) (Zg ?_))))
         exact ⟨rfl,rfl,N,E,O,F,P⟩
        ·refine Zp rfl i (Zb _ F (Zp rfl i (Zb _ E (Zp rfl i (Zc (Zbl rfl rfl) (Zc (Zcc rfl i rfl) (Zg ?_)))))))
         exact ⟨rfl,rfl,N,E,O,F,P⟩
       rintro az _ ⟨rfl,al,A,H,C,Q,I⟩
       refine Ze (zD hp al (fun ag hp=>?_) (fun ag hp=>?_))
       ·refine Zi (Zb (.n 3) rfl (Ze (Zar (zE (Zbv (zE ?_))))))
        cases hp
        exact ⟨nofun,rfl,rfl,(c.pk [])⟩
       ·refine Zas (Zi (Zb _ A (Zb _ Q (Zb _ C (ckk hp fun M hp=>Zc (zc rfl rfl M) ?_)))))
        refine Zc (Zc6 rfl rfl (by decide)) (ckk hp fun m hp=>Zc (ZZ (c.rd0 s_l.rd) rfl rfl m) (Zc (Zbo (c.rd0 s_l.rd) (Zf m) rfl rfl) (ckk hp fun y hp=>Zc (ZaZ (c.rd0 s_l.rd) (Zf m) rfl rfl y rfl) (Zc (zN (c.rd0 s_l.rd) rfl (Zf m) (zx y)) (Zb _ H (Zc (Zc5 rfl rfl) ?_))))))
        refine Zb (.b (!(decide (((gi l (((gi l v.toNat).Next).get d:Int).toNat).Next).get ((d + 2).tmod 4)=v)))) rfl (zK 12 (fun f k=>D=k∧f 74=.b ((!(decide (((gi l (((gi l v.toNat).Next).get d:Int).toNat).Next).get ((d + 2).tmod 4)=v))) || (!(decide (((gi l (((gi l v.toNat).Next).get d:Int).toNat).Owner).get ((d + 2).tmod 4)=((gi l v.toNat).Owner).get d))))∧f 0=v_l∧f 3=.n v∧f 4=.n d∧f 6=.n (((gi l v.toNat).Owner).get d)) ?_ ?_)
        ·rcases bc (!(decide (((gi l (((gi l v.toNat).Next).get d:Int).toNat).Next).get ((d + 2).tmod 4)=v))) with a | a
         ·refine Zh rfl a (Zh rfl a (Zh rfl a (Zh rfl a (Zh rfl a (Zh rfl a (Zh rfl a (Zh rfl a (Zh rfl a ?_))))))))
          refine Zh rfl a (Zh rfl a (Zc (Zcb (w:=(!(decide (((gi l (((gi l v.toNat).Next).get d:Int).toNat).Next).get ((d + 2).tmod 4)=v))) || (!(decide (((gi l (((gi l v.toNat).Next).get d:Int).toNat).Owner).get ((d + 2).tmod 4)=((gi l v.toNat).Owner).get d)))) rfl a rfl) (Zg ?_)))
          exact ⟨rfl,rfl,A,H,C,I⟩
         ·refine Zp rfl a (Zb _ A (Zp rfl a (Zb _ Q (Zp rfl a (Zb _ C (Zp rfl a (Zc (zc rfl rfl M) (Zp rfl a ?_))))))))
          refine Zc (Zc6 rfl rfl (by decide)) (Zp rfl a (Zc (ZZ (c.rd0 s_l.rd) rfl rfl m) (Zp rfl a (Zc (Zbo (c.rd0 s_l.rd) (Zf m) rfl rfl) (Zp rfl a (Zc (ZaZ (c.rd0 s_l.rd) (Zf m) rfl rfl y rfl) (Zp rfl a (Zc (zN (c.rd0 s_l.rd) rfl (Zf m) (Zcs y)) ?_))))))))
          refine Zp rfl a (Zb _ I (Zp rfl a (Zc (Zc5 rfl rfl) (Zc (Zcc rfl a rfl) (Zg ?_)))))
          exact ⟨rfl,rfl,A,H,C,I⟩
        rintro aA _ ⟨rfl,an,R,S,T,am⟩
        refine Zb _ an (zK 3 (fun f k=>D=k∧f 78=.b (((!(decide (((gi l (((gi l v.toNat).Next).get d:Int).toNat).Next).get ((d + 2).tmod 4)=v))) || (!(decide (((gi l (((gi l v.toNat).Next).get d:Int).toNat).Owner).get ((d + 2).tmod 4)=((gi l v.toNat).Owner).get d)))) || (decide ((((gi l v.toNat).Owner).get d) < (-2))))∧f 0=v_l∧f 3=.n v∧f 4=.n d) ?_ ?_)
        ·rcases bc ((!(decide (((gi l (((gi l v.toNat).Next).get d:Int).toNat).Next).get ((d + 2).tmod 4)=v))) || (!(decide (((gi l (((gi l v.toNat).Next).get d:Int).toNat).Owner).get ((d + 2).tmod 4)=((gi l v.toNat).Owner).get d)))) with o | o
         ·refine Zh rfl o (Zh rfl o (Zc (Zcb (w:=((!(decide (((gi l (((gi l v.toNat).Next).get d:Int).toNat).Next).get ((d + 2).tmod 4)=v))) || (!(decide (((gi l (((gi l v.toNat).Next).get d:Int).toNat).Owner).get ((d + 2).tmod 4)=((gi l v.toNat).Owner).get d)))) || (decide ((((gi l v.toNat).Owner).get d) < (-2)))) rfl o rfl) (Zg ?_)))
          exact ⟨rfl,rfl,R,S,T⟩
         ·refine Zp rfl o (Zb _ am (Zp rfl o (Zc (zF rfl rfl) (Zc (Zcc rfl o rfl) (Zg ?_)))))
          exact ⟨rfl,rfl,R,S,T⟩
        rintro aB _ ⟨rfl,ar,ao,ap,aq⟩
        refine Ze (zD hp ar (fun ab hp=>?_) (fun ab hp=>?_))
        ·refine Zi (Zb (.n 9) rfl (Ze (Zar (Zbv (zE ?_)))))
         cases hp
         exact ⟨nofun,rfl,rfl,(c.pk [])⟩
        ·refine Zc2 (Zaf (Zo (zI (Zb _ aq (ckk hp fun ai hp=>Zc (zc rfl rfl ai) (Zb (.n (d + 1)) rfl (Zg ?_)))))))
         cases hp
         exact ⟨rfl,ao,ap,rfl,(c.pk [])⟩
     ·refine Zbq (zM ?_)
      cases hp
      exact ⟨nofun,rfl,p,q,(c.pk [])⟩
    rintro (_ | x1) hp _ aJ aE W
    ·obtain ⟨rfl,av,ax,L⟩:=W
     refine Zav (Zaf (Zo (zI (Zb _ ax (ckk hp fun aj hp=>Zc (zc rfl rfl aj) (Zb (.n (v + 1)) rfl (Zg ?_)))))))
     cases hp
     exact ⟨rfl,av,rfl,(L.pk [])⟩
    ·obtain ⟨rfl,aw,L⟩:=W
     refine Zbv (Zbv (zE ?_))
     cases hp
     exact ⟨nofun,rfl,aw,(L.pk [])⟩
   ·refine Zbq (zM ?_)
    cases hp
    exact ⟨nofun,rfl,(K.pk [])⟩
  rintro (_ | x) hp _ aH aC U
  ·obtain ⟨rfl,J⟩:=U
   refine Zav (Zo (Zi (Zb (.n 0) rfl (Ze (Zar (z4 (zX rfl ZK) ?_))))))
   cases hp
   exact ⟨rfl,(J.pk [])⟩
  ·obtain ⟨rfl,au,J⟩:=U
   refine Zbv (zE (z4 (zX au ZK) ?_))
   cases hp
   exact ⟨rfl,(J.pk [])⟩

end Mu
