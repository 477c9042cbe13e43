/- The code comes to what was worked out. -/
import Derived.Test.YtfdidkebomeiaaaMuDf
import Derived.Test.YtfdidkebomeiaaaMuPa
import Derived.Test.YtfdidkebomeiaaaMuC3
set_option linter.unusedVariables false
set_option linter.unnecessarySimpa false
set_option linter.unusedSimpArgs false
set_option maxHeartbeats 2000000
set_option maxRecDepth 10000
namespace Mu
open Go (IntKind BinOp UnOp)
theorem ze.ok {h:Hp} {l:List Za} {v:Int} {v_l:V} (s_l:Sl Zd h v_l l) {r:(List Int)} (hp:ze l v=some r) :
  ∃ u k',Is G 36 [v_l,.n v] h u k'∧∃ an,an=u∧Own (fun r=>r < h.n) h k' [eSl zM an r]:=by
 refine WC.is (ZaP Ze4 ?_)
 unfold ze at hp
 let B:Nat→Prop:=(fun r=>r < h.n)
 have hO:Own B h h []:=Own.start0 h
 refine Zk (Zb (.sn) rfl (Ze (Zk (Zb v_l rfl (Zc (Zak (hO.rd0 s_l.rd) rfl) ?_)))))
 refine ckk hp fun av hp=>zw (hO.mks (E:=zM) (y:=(0:Int)) (bytes:=8) (z:=(l.length:Int)) hO.fr rfl rfl rfl av (by decide)) ?_
 rintro a a3 ⟨bu,aX,aF⟩
 refine Zb a rfl (Ze (ZB (Zk (Zb (.n 0) rfl (Ze ?_)))))
 refine zX (Zb7 hp (fun | (far,i),fr,k=>fr 0=v_l∧fr 1=.n v∧fr 5=a∧fr 6=.n i∧Own B h k [eSl zM a far]) (fun far1 e fr k=>e=(.exit 0)∧fr 0=v_l∧fr 1=.n v∧fr 5=a∧Own B h k [eSl zM a far1]) ⟨rfl,rfl,rfl,rfl,(aF.pk [0])⟩ ?_ ?_)
 ·rintro ⟨far,i⟩ bn a7 ⟨K,ag,L,M,p⟩ bi hp
  dsimp only [ze.s0] at hp
  refine ZB (Zk (Zb _ M (Zb _ K (Zc (Zak (p.rd0 s_l.rd) rfl) (Zc (zH rfl rfl) (Ze (zC hp rfl (fun ao hp=>?_) (fun ao hp=>?_))))))))
  ·refine Zat (ZB (zX (zD (Zb _ L (Zb _ M (ckk hp fun P hp=>Zc (zi (p.sl 0 rfl) rfl rfl P) ?_))))))
   refine zw (p.ste (y:=(-1)) 0 rfl rfl (Zg P) rfl rfl ⟨rfl,Nat.le_of_ble_eq_true rfl,rfl⟩ rfl) ?_
   rintro _ a8 ⟨rfl,aY,bf,aI⟩
   refine Zh (Zaa (Zo (zD (Zb _ M (ckk hp fun aA hp=>Zc (zf rfl rfl aA) (Zb (.n (i + 1)) rfl (Zh ?_)))))))
   cases hp
   exact ⟨rfl,K,ag,L,rfl,(aI.pk [0])⟩
  ·refine Zbo (zK ?_)
   cases hp
   exact ⟨nofun,rfl,K,ag,L,(p.pk [0])⟩
 rintro far1 hp _ bm a6 ⟨rfl,aN,aO,af,ad⟩
 refine Zaw (Zo (Zk (Zb _ af (Zb _ aO (ckk hp fun Q hp=>Zc (zi (ad.sl 0 rfl) rfl rfl Q) (zw (ad.ste (y:=0) 0 rfl rfl (Zg Q) rfl rfl ⟨rfl,Nat.le_of_ble_eq_true rfl,rfl⟩ rfl) ?_))))))
 rintro _ a9 ⟨rfl,aZ,bg,aJ⟩
 refine Ze (ZB (Zk (Zb (.n 0) rfl (Ze (zX (Zb7 hp (fun | (far2,round),fr,k=>fr 0=v_l∧fr 5=a∧fr 7=.n round∧Own B h k [eSl zM a far2]) (fun far3 e fr k=>e=(.exit 2)∧fr 5=a∧Own B h k [eSl zM a far3]) ⟨aN,af,rfl,(aJ.pk [0])⟩ ?_ ?_))))))
 ·rintro ⟨far2,round⟩ bp bb ⟨ah,ai,aj,I⟩ bj hp
  dsimp only [ze.s1] at hp
  refine ZB (Zk (Zb _ aj (Zb _ ah (Zc (Zak (I.rd0 s_l.rd) rfl) (Zc (zH rfl rfl) (Ze (zC hp rfl (fun ap hp=>?_) (fun ap hp=>?_))))))))
  ·refine Zat (ZB (zX (Zk (Zb (.n 0) rfl (Ze ?_)))))
   refine zX (Zb7 hp (fun | (far4,i1),fr,k=>fr 0=v_l∧fr 5=a∧fr 7=.n round∧fr 8=.n i1∧Own B h k [eSl zM a far4]) (fun far5 e fr k=>e=(.exit 4)∧fr 0=v_l∧fr 5=a∧fr 7=.n round∧Own B h k [eSl zM a far5]) ⟨ah,ai,aj,rfl,(I.pk [0])⟩ ?_ ?_)
   ·rintro ⟨far4,i1⟩ br be ⟨N,ak,al,am,J⟩ bk hp
    dsimp only [ze.s2] at hp
    refine ZB (Zk (Zb _ am (Zb _ N (Zc (Zak (J.rd0 s_l.rd) rfl) (Zc (zH rfl rfl) (Ze (zC hp rfl (fun aq hp=>?_) (fun aq hp=>?_))))))))
    ·refine Zat (ZB (zX (Zk (Zb (.n 0) rfl (Ze ?_)))))
     refine zX (Zb7 hp (fun | (far6,d),fr,k=>fr 0=v_l∧fr 5=a∧fr 7=.n round∧fr 8=.n i1∧fr 9=.n d∧Own B h k [eSl zM a far6]) (fun far7 e fr k=>e=(.exit 6)∧fr 0=v_l∧fr 5=a∧fr 7=.n round∧fr 8=.n i1∧Own B h k [eSl zM a far7]) ⟨N,ak,al,am,rfl,(J.pk [0])⟩ ?_ ?_)
     ·rintro ⟨far6,d⟩ bt ae ⟨q,s,x,m,A,g⟩ bl hp
      dsimp only [ze.s3] at hp
      refine ZB (Zk (Zb _ A (Zc (zH rfl rfl) (Ze (zC hp rfl (fun ar hp=>?_) (fun ar hp=>?_))))))
      ·refine Zat (ZB (zX (Zk (Zb _ q (Zb _ m (Zb _ A ?_))))))
       refine ckk hp fun o hp=>Zc (zi (g.rd0 s_l.rd) rfl rfl o) (Zc (Zbt (g.rd0 s_l.rd) (Zg o) rfl rfl) (ckk hp fun R hp=>Zc (Zbj (g.rd0 s_l.rd) (Zg o) rfl rfl R rfl) (Zc (zS (g.rd0 s_l.rd) rfl (Zg o) (zI R)) (Zb (.n (((gi l i1.toNat).Next).get d)) rfl (Ze ?_)))))
       refine Zk (Zb _ s (Zb _ m (ckk hp fun S hp=>Zc (zi (g.sl 0 rfl) rfl rfl S) (Zc (zS (g.sl 0 rfl) rfl (Zg S) rfl) (Zb _ x (Zc (Zb0 rfl rfl) ?_))))))
       refine Zb (.b (decide (gi far6 i1.toNat=round))) rfl (Zai 3 (fun f k=>ae=k∧f 58=.b ((decide (gi far6 i1.toNat=round)) && (decide (0≤(((gi l i1.toNat).Next).get d))))∧f 0=v_l∧f 10=.n (((gi l i1.toNat).Next).get d)∧f 5=a∧f 7=.n round∧f 8=.n i1∧f 9=.n d) ?_ ?_)
       ·rcases bc (decide (gi far6 i1.toNat=round)) with j | j
        ·refine Zu rfl j (Zb (.n (((gi l i1.toNat).Next).get d)) rfl (Zu rfl j (Zc (ZcZ rfl rfl) (Zc (ZcY rfl j rfl) (Zh ?_)))))
         exact ⟨rfl,rfl,q,rfl,s,x,m,A⟩
        ·refine Zl rfl j (Zl rfl j (Zc (ZcX (w:=(decide (gi far6 i1.toNat=round)) && (decide (0≤(((gi l i1.toNat).Next).get d)))) rfl j rfl) (Zh ?_)))
         exact ⟨rfl,rfl,q,rfl,s,x,m,A⟩
       rintro a1 _ ⟨rfl,aC,U,C,D,W,X,Y⟩
       refine Zb _ aC ?_
       obtain ⟨t,aM,hp⟩:=ZaZ hp
       refine Zai 7 (fun f k=>ae=k∧f 66=.b t∧f 0=v_l∧f 10=.n (((gi l i1.toNat).Next).get d)∧f 5=a∧f 7=.n round∧f 8=.n i1∧f 9=.n d) ?_ ?_
       ·clear hp; rcases Zbn aM with ⟨c,hp⟩ | ⟨c,hp⟩
        ·refine Zu rfl c (Zb _ D (Zu rfl c (Zb _ C (Zu rfl c (Zc (Zqm rfl rfl) (Zu rfl c (ckk hp fun T hp=>Zc (zi (g.sl 0 rfl) rfl rfl T) ?_)))))))
         refine Zu rfl c (Zc (zS (g.sl 0 rfl) rfl (Zg T) rfl) (Zu rfl c (Zc (zH rfl rfl) (Zc (ZaS (v:=.b t) rfl c (Eq.trans (b:=V.b (decide ((gi far6 (max (((gi l i1.toNat).Next).get d) 0:Int).toNat) < 0))) rfl (congrArg V.b (Option.some.inj hp)))) (Zh ?_)))))
         exact ⟨rfl,rfl,U,C,D,W,X,Y⟩
        ·refine Zl rfl c (Zl rfl c (Zl rfl c (Zl rfl c (Zl rfl c (Zl rfl c (Zc (ZaL (v:=.b t) rfl c (Eq.trans (b:=V.b false) rfl (congrArg V.b (Option.some.inj hp)))) (Zh ?_)))))))
         exact ⟨rfl,rfl,U,C,D,W,X,Y⟩
       rintro a2 _ ⟨rfl,aE,aa,aD,F,H,ab,ac⟩
       refine Ze (zC hp aE (fun au hp=>?_) (fun au hp=>?_))
       ·refine zD (Zb _ F (Zb _ aD (Zb _ H (ckk hp fun aB hp=>Zc (zf rfl rfl aB) (ckk hp fun O hp=>Zc (zi (g.sl 0 rfl) rfl rfl O) (zw (g.ste (y:=(round + 1)) 0 rfl rfl (Zg O) rfl rfl ⟨rfl,Nat.le_of_ble_eq_true rfl,rfl⟩ rfl) ?_))))))
        rintro _ a5 ⟨rfl,a0,bh,aH⟩
        refine Zh (Zaa (Zo (zD (Zb _ ac (ckk hp fun aw hp=>Zc (zf rfl rfl aw) (Zb (.n (d + 1)) rfl (Zh ?_)))))))
        cases hp
        exact ⟨rfl,aa,F,H,ab,rfl,(aH.pk [0])⟩
       ·refine Zc1 (Zaa (Zo (zD (Zb _ ac (ckk hp fun ax hp=>Zc (zf rfl rfl ax) (Zb (.n (d + 1)) rfl (Zh ?_)))))))
        cases hp
        exact ⟨rfl,aa,F,H,ab,rfl,(g.pk [0])⟩
      ·refine Zbo (zK ?_)
       cases hp
       exact ⟨nofun,rfl,q,s,x,m,(g.pk [0])⟩
     rintro far7 hp _ bs a4 ⟨rfl,aT,aU,aV,aW,aG⟩
     refine Zaw (Zaa (Zo (zD (Zb _ aW (ckk hp fun ay hp=>Zc (zf rfl rfl ay) (Zb (.n (i1 + 1)) rfl (Zh ?_)))))))
     cases hp
     exact ⟨rfl,aT,aU,aV,rfl,(aG.pk [0])⟩
    ·refine Zbo (zK ?_)
     cases hp
     exact ⟨nofun,rfl,N,ak,al,(J.pk [0])⟩
   rintro far5 hp _ bq bd ⟨rfl,aQ,aR,aS,aL⟩
   refine Zaw (Zaa (Zo (zD (Zb _ aS (ckk hp fun az hp=>Zc (zf rfl rfl az) (Zb (.n (round + 1)) rfl (Zh ?_)))))))
   cases hp
   exact ⟨rfl,aQ,aR,rfl,(aL.pk [0])⟩
  ·refine Zbo (zK ?_)
   cases hp
   exact ⟨nofun,rfl,ai,(I.pk [0])⟩
 rintro far3 hp _ bo ba ⟨rfl,aP,aK⟩
 refine Zaw (Zo (Zk (Zb _ aP (Zb a rfl (Ze (Zav ?_))))))
 refine z8 (Zag rfl ZQ) ?_
 cases hp
 exact ⟨a,rfl,(aK.pk [0])⟩

theorem zT.ok {h:Hp} {l:List Za} {v_l:V} (s_l:Sl Zd h v_l l) {r:(List (List Int))} (hp:zT l=some r) :
  ∃ u k',Is G 30 [v_l] h u k'∧∃ S W,S=u∧Own (fun r=>r < h.n) h k' [eSl eV S W,Zce zM W r]:=by
 refine WC.is (ZaP ZdT ?_)
 unfold zT at hp
 let B:Nat→Prop:=(fun r=>r < h.n)
 have hO:Own B h h []:=Own.start0 h
 refine Zk (Zb (.sn) rfl (Ze (Zk (Zb v_l rfl (Zc (Zak (hO.rd0 s_l.rd) rfl) ?_)))))
 refine ckk hp fun ac hp=>zw (hO.mks (E:=e_bool) (y:=false) (bytes:=1) (z:=(l.length:Int)) hO.fr rfl rfl rfl ac (by decide)) ?_
 rintro f aJ ⟨a0,aD,ak⟩
 refine Zb f rfl (Ze (Zk (Zb (.sn) rfl (Ze (ZB ?_)))))
 refine Zk (Zb (.n 0) rfl (Ze (zX ?_)))
 have ap:=ak.nil eV
 have aq:=ap.allNil zM 0
 refine Zb7 hp (fun | (in_,out,v),fr,k=>∃ b a,fr 0=v_l∧fr 3=f∧fr 4=b∧fr 5=.n v∧Own B h k [eSl e_bool f in_,eSl eV b a,Zce zM a out]) (fun out1 e fr k=>e=(.exit 0)∧∃ o C,fr 4=o∧Own B h k [eSl eV o C,Zce zM C out1]) ⟨V.sn,[],rfl,rfl,rfl,rfl,(aq.pk [0,1,2])⟩ ?_ ?_
 ·rintro ⟨in_,out,v⟩ aX aw ⟨b,a,s,H,I,m,c⟩ aU hp
  dsimp only [zT.s0] at hp
  refine ZB (Zk (Zb _ m (Zb _ s (Zc (Zak (c.rd0 s_l.rd) rfl) (Zc (zH rfl rfl) (Ze (zC hp rfl (fun X hp=>?_) (fun X hp=>?_))))))))
  ·refine Zat (ZB (zX (ZB (Zk (Zb _ H (Zb _ m ?_))))))
   refine ckk hp fun O hp=>Zc (zi (c.sl 0 rfl) rfl rfl O) (Zc (zS (c.sl 0 rfl) rfl (Zg O) rfl) (Ze (zC hp rfl (fun Y hp=>?_) (fun Y hp=>?_))))
   ·refine Zbo (zK (Zaw (Zo (zD (Zb _ m (ckk hp fun ae hp=>Zc (zf rfl rfl ae) (Zb (.n (v + 1)) rfl ?_)))))))
    refine Zh ?_
    cases hp
    exact ⟨rfl,b,a,s,H,I,rfl,(c.pk [0,1,2])⟩
   ·refine Zat (Zk (Zb _ s (Zb _ m ?_)))
    obtain ⟨x,⟨a3,aN,aj,N,rfl,av⟩,hp⟩:=bdk hp fun _=>ze.ok (h:=aw)  (c.rd0 s_l.rd)
    refine ZaK rfl rfl aj ?_
    have ar:=c.call av rfl
    refine Zb N rfl (Ze (Zk (Zb (.sn) rfl (Ze (ZB ?_)))))
    refine Zk (Zb (.n 0) rfl (Ze (zX ?_)))
    have au:=ar.nil zM
    refine Zb7 hp (fun | (in_1,p,w),fr,k=>∃ q,fr 0=v_l∧fr 3=f∧fr 4=b∧fr 5=.n v∧fr 6=N∧fr 7=q∧fr 8=.n w∧Own B h k [eSl e_bool f in_1,eSl eV b a,Zce zM a out,eSl zM N x,eSl zM q p]) (fun | (in_2,p1),e,fr,k=>e=(.exit 2)∧∃ i,fr 0=v_l∧fr 3=f∧fr 4=b∧fr 5=.n v∧fr 7=i∧Own B h k [eSl e_bool f in_2,eSl eV b a,Zce zM a out,eSl zM i p1]) ⟨V.sn,s,H,I,m,rfl,rfl,rfl,(au.pk [0,1,2,3,4])⟩ ?_ ?_
    ·rintro ⟨in_1,p,w⟩ aZ aP ⟨q,t,A,J,K,L,M,g,d⟩ aV hp
     dsimp only [zT.s1] at hp
     refine ZB (Zk (Zb _ g (Zb _ t (Zc (Zak (d.rd0 s_l.rd) rfl) (Zc (zH rfl rfl) (Ze (zC hp rfl (fun aa hp=>?_) (fun aa hp=>?_))))))))
     ·refine Zat (ZB (zX (Zk (Zb _ L (Zb _ g (ckk hp fun P hp=>?_))))))
      refine Zc (zi (d.sl 3 rfl) rfl rfl P) (Zc (zS (d.sl 3 rfl) rfl (Zg P) rfl) (Zc (ZcZ rfl rfl) (Ze (zC hp rfl (fun ab hp=>?_) (fun ab hp=>?_)))))
      ·refine Zk (Zb _ A (Zb _ g (ckk hp fun Q hp=>Zc (zi (d.sl 0 rfl) rfl rfl Q) (zw (d.ste (y:=true) 0 rfl rfl (Zg Q) rfl rfl ⟨rfl,Nat.le_of_ble_eq_true rfl,rfl⟩ rfl) ?_))))
       rintro _ aQ ⟨rfl,aE,aT,R⟩
       refine Ze (zD (Zb _ M (Zb _ g (zw (R.bsl (E:=zM) (l:=[w]) R.fr (by rw [(zo (v:=.n w) rfl ZaH)]; rfl) rfl) ?_))))
       rintro a5 aR ⟨a1,aF,D⟩
       refine ckk hp fun af hp=>zw (D.app (bytes:=8) 4 D.fr rfl (D.sl 5 rfl) rfl rfl (fun _=>rfl) af (by decide)) ?_
       rintro U aS ⟨aG,al⟩
       refine Zb U rfl (Zh (Zaa (Zo (zD (Zb _ g (ckk hp fun ag hp=>Zc (zf rfl rfl ag) (Zb (.n (w + 1)) rfl ?_)))))))
       refine Zh ?_
       cases hp
       exact ⟨rfl,U,t,A,J,K,L,rfl,rfl,(al.pk [0,1,2,3,4])⟩
      ·refine Zc1 (Zaa (Zo (zD (Zb _ g (ckk hp fun ah hp=>Zc (zf rfl rfl ah) (Zb (.n (w + 1)) rfl (Zh ?_)))))))
       cases hp
       exact ⟨rfl,q,t,A,J,K,L,M,rfl,(d.pk [0,1,2,3,4])⟩
     ·refine Zbo (zK ?_)
      cases hp
      exact ⟨nofun,rfl,q,t,A,J,K,M,(d.pk [0,1,2,4])⟩
    rintro ⟨in_2,p1⟩ hp _ aY aO ⟨rfl,i,ay,az,aA,aB,aC,F⟩
    refine Zaw (Zo (zD (Zb _ aA (Zb _ aC (zw (F.bsl (E:=eV) (l:=[i]) F.fr (by rw [(zo (v:=i) rfl ZaH)]; simp only [fill,(F.sl 3 rfl).cells]; simp [over]) rfl) ?_)))))
    rintro a4 aK ⟨a2,aH,j⟩
    refine ckk hp fun ai hp=>zw (j.appV (bytes:=24) 1 j.fr rfl (j.sl 4 rfl) rfl rfl (by simp only [List.all_cons,List.all_nil,Bool.and_true]; exact (j.sl 3 rfl).oneV) (by rw [(j.allLen 2 rfl:(a).length=(out).length)]; exact ai) (by decide)) ?_
    rintro T aL ⟨aI,am⟩
    have an:=am.absorb 2 3 rfl rfl (by decide)
    refine Zb T rfl (Zh (Zaa (Zo (zD (Zb _ aB (ckk hp fun ad hp=>Zc (zf rfl rfl ad) (Zb (.n (v + 1)) rfl ?_)))))))
    refine Zh ?_
    cases hp
    exact ⟨rfl,T,a++[i],ay,az,rfl,rfl,(an.pk [0,1,2])⟩
  ·refine Zbo (zK ?_)
   cases hp
   exact ⟨nofun,rfl,b,a,I,(c.pk [1,2])⟩
 rintro out1 hp _ aW aM ⟨rfl,o,C,ax,ao⟩
 refine Zaw (Zo (Zk (Zb _ ax (Zb o rfl (Ze (Zav ?_))))))
 refine z8 (Zag rfl ZQ) ?_
 cases hp
 exact ⟨o,C,rfl,(ao.pk [0,1])⟩

theorem Zaq.ok {h:Hp} {l:List Za} {d:Z6} {v_l:V} (s_l:Sl Zd h v_l l) {r:Z6} (hp:Zaq l d=some r) :
  ∃ u k',Is G 202 [v_l,.ag (ZA.c d)] h u k'∧V.ag (ZA.c r)=u∧Own (fun r=>r < h.n) h k' []:=by
 refine WC.is (ZaP Zd9 ?_)
 unfold Zaq at hp
 let B:Nat→Prop:=(fun r=>r < h.n)
 have hO:Own B h h []:=Own.start0 h
 refine Zk (zw (hO.boxd (cs:=ZA.c d) hO.fr rfl rfl) ?_)
 rintro _ ad ⟨f,rfl,an,X,J⟩
 refine zw (J.alloc (cs:=ZA.c (⟨0,0⟩:Z6)) J.fr) ?_
 rintro _ ae ⟨g,rfl,ao,Y,S⟩
 refine Ze (ZB (Zhw ?_))
 have b:=S.bump 10
 refine ZaV v_l rfl (zt rfl (zR (r:=f) (o:=0) rfl rfl) (zt rfl (zn (b.box 0 rfl) rfl rfl) (zt rfl (zR (r:=f) (o:=0) rfl rfl) (zt rfl (zn (b.box 0 rfl) rfl rfl) (ckk hp fun m hp=>zt rfl (zi (b.rd0 s_l.rd) rfl rfl m) (zt rfl (Zbt (b.rd0 s_l.rd) (Zg m) rfl rfl) (ckk hp fun D hp=>?_)))))))
 refine zt rfl (Zbj (b.rd0 s_l.rd) (Zg m) rfl rfl D rfl) (zt rfl (zS (b.rd0 s_l.rd) rfl (Zg m) (zI D)) (ZaV (.n (((gi l (d.Cell:Int).toNat).Next).get d.Dir)) rfl (Zba (Zo (Zk (zw (b.bsl (E:=zM) (l:=([1,0,3,2]:List Int)) b.fr (by rw [(zo (v:=.n 1) rfl (zo (v:=.n 0) rfl (zo (v:=.n 3) rfl (zo (v:=.n 2) rfl ZaH))))]; rfl) rfl) ?_))))))
 rintro C af ⟨au,aa,T⟩
 refine Zb C rfl (Ze (ZB (Zk (Zb (.n 0) rfl (Ze ?_)))))
 refine zX (Zb7 hp (fun i fr k=>fr 0=v_l∧fr 3=.p f 0∧fr 4=.p g 0∧fr 5=.n (((gi l (d.Cell:Int).toNat).Next).get d.Dir)∧fr 6=C∧fr 7=.n i∧Own B h k [zV f (ZA.c d),zV g (ZA.c (⟨0,0⟩:Z6)),eSl zM C ([1,0,3,2]:List Int)]) (fun | .inl _,e,fr,k=>e=(.exit 0)∧fr 3=.p f 0∧fr 4=.p g 0∧Own B h k [zV f (ZA.c d),zV g (ZA.c (⟨0,0⟩:Z6))] | .inr x,e,fr,k=>e=.ret∧fr 4=.p g 0∧Own B h k [zV g (ZA.c x)]) ⟨rfl,rfl,rfl,rfl,rfl,rfl,(T.pk [0,1,2])⟩ ?_ ?_)
 ·rintro i ar ai ⟨M,w,t,y,N,A,K⟩ ap hp
  dsimp only [Zaq.s0] at hp
  refine ZB (Zk (Zb _ A (Zc (zH rfl rfl) (Ze (zC hp rfl (fun O hp=>?_) (fun O hp=>?_))))))
  ·refine Zat (ZB (zX (ZB (Zhw ?_))))
   have a:=K.bump 9
   refine zt rfl (zR (r:=f) (o:=0) w rfl) (zt rfl (zn (a.box 0 rfl) rfl rfl) (ZaV _ N (ZaV _ A (ckk hp fun F hp=>zt rfl (zi (a.sl 2 rfl) rfl rfl F) (zt rfl (zS (a.sl 2 rfl) rfl (Zg F) rfl) (ckk hp fun Q hp=>zt rfl (zf rfl rfl Q) ?_))))))
   refine zt rfl (ZcL rfl rfl (by decide)) (ZaV (.n ((d.Dir + (gi ([1,0,3,2]:List Int) i.toNat)).tmod 4)) rfl (Zba (Zo (Zk (Zb _ M (Zb _ y (Zb (.n ((d.Dir + (gi ([1,0,3,2]:List Int) i.toNat)).tmod 4)) rfl ?_)))))))
   refine ckk hp fun q hp=>Zc (zi (a.rd0 s_l.rd) rfl rfl q) (Zc (Zbt (a.rd0 s_l.rd) (Zg q) rfl rfl) (ckk hp fun H hp=>Zc (Zbj (a.rd0 s_l.rd) (Zg q) rfl rfl H rfl) (Zc (zS (a.rd0 s_l.rd) rfl (Zg q) (zI H)) (Zc (ZcZ rfl rfl) (Ze (zC hp rfl (fun P hp=>?_) (fun P hp=>?_)))))))
   ·refine Zk (Zb _ y (Zb (.n ((d.Dir + (gi ([1,0,3,2]:List Int) i.toNat)).tmod 4)) rfl (Zc (Zcx (cs:=ZA.c (⟨((gi l (d.Cell:Int).toNat).Next).get d.Dir,(d.Dir + (gi ([1,0,3,2]:List Int) i.toNat)).tmod 4⟩:Z6)) (by rw [(zo (v:=.n (((gi l (d.Cell:Int).toNat).Next).get d.Dir)) rfl (zo (v:=.n ((d.Dir + (gi ([1,0,3,2]:List Int) i.toNat)).tmod 4)) rfl ZaH))]; rfl)) (zw (a.stb (cs':=ZA.c (⟨((gi l (d.Cell:Int).toNat).Next).get d.Dir,(d.Dir + (gi ([1,0,3,2]:List Int) i.toNat)).tmod 4⟩:Z6)) 1 rfl t rfl rfl ⟨rfl,Nat.le_of_ble_eq_true rfl,rfl⟩ rfl) ?_))))
    rintro _ aj ⟨rfl,ab,al,U⟩
    refine Ze (Zav (Zbw (zE ?_)))
    cases hp
    exact ⟨nofun,rfl,t,(U.pk [1])⟩
   ·refine Zc1 (Zaa (Zo (zD (Zb _ A (ckk hp fun R hp=>Zc (zf rfl rfl R) (Zb (.n (i + 1)) rfl (Zh ?_)))))))
    cases hp
    exact ⟨rfl,M,w,t,y,N,rfl,(a.pk [0,1,2])⟩
  ·refine Zbo (zK ?_)
   cases hp
   exact ⟨nofun,rfl,w,t,(K.pk [0,1])⟩
 rintro (_ | x) hp _ aq ah I
 ·obtain ⟨rfl,W,s,j⟩:=I
  refine Zaw (Zo (Zk (Zc (Zbu (j.box 0 rfl) W rfl) (zw (j.stb (cs':=ZA.c d) 1 rfl s rfl rfl ⟨rfl,Nat.le_of_ble_eq_true rfl,rfl⟩ rfl) ?_))))
  rintro _ ak ⟨rfl,ac,am,L⟩
  refine Ze (Zav (z8 (Zgb s (L.box 1 rfl) rfl ZQ) ?_))
  cases hp
  exact ⟨rfl,(L.pk [])⟩
 ·obtain ⟨rfl,s,j⟩:=I
  refine Zbw (zE (z8 (Zgb s (j.box 0 rfl) rfl ZQ) ?_))
  cases hp
  exact ⟨rfl,(j.pk [])⟩

theorem ZX.ok {h:Hp} {l:List Za} {v_l:V} (s_l:Sl Zd h v_l l) {r:(List (List Z6))} (hp:ZX l=some r) :
  ∃ u k',Is G 177 [v_l] h u k'∧∃ av ay,av=u∧Own (fun r=>r < h.n) h k' [eSl eV av ay,Zce ZA ay r]:=by
 refine WC.is (ZaP ZdR ?_)
 unfold ZX at hp
 let B:Nat→Prop:=(fun r=>r < h.n)
 have hO:Own B h h []:=Own.start0 h
 refine Zk (Zb (.sn) rfl (Ze (Zk (Zb v_l rfl (Zc (Zak (hO.rd0 s_l.rd) rfl) ?_)))))
 refine ckk hp fun aD hp=>Zc (Zhk rfl rfl aD) (ckk hp fun aI hp=>zw (hO.mks (E:=e_bool) (y:=false) (bytes:=1) (z:=(4 * (l.length:Int))) hO.fr rfl rfl rfl aI (by decide)) ?_)
 rintro g bq ⟨bS,bg,aO⟩
 refine Zb g rfl (Ze (Zk (Zb (.sn) rfl (Ze (ZB ?_)))))
 refine Zk (Zb (.n 0) rfl (Ze (zX ?_)))
 have aV:=aO.nil eV
 have aW:=aV.allNil ZA 0
 refine Zb7 hp (fun | (met,out,v),fr,k=>∃ H J,fr 0=v_l∧fr 3=g∧fr 4=H∧fr 5=.n v∧Own B h k [eSl e_bool g met,eSl eV H J,Zce ZA J out]) (fun out1 e fr k=>e=(.exit 0)∧∃ I R,fr 4=I∧Own B h k [eSl eV I R,Zce ZA R out1]) ⟨V.sn,[],rfl,rfl,rfl,rfl,(aW.pk [0,1,2])⟩ ?_ ?_
 ·rintro ⟨met,out,v⟩ bN bz ⟨H,J,am,a5,an,ao,ab⟩ bJ hp
  dsimp only [ZX.s0] at hp
  refine ZB (Zk (Zb _ ao (Zb _ am (Zc (Zak (ab.rd0 s_l.rd) rfl) (Zc (zH rfl rfl) (Ze (zC hp rfl (fun az hp=>?_) (fun az hp=>?_))))))))
  ·refine Zat (ZB (zX (Zk (Zb (.n 0) rfl (Ze ?_)))))
   refine zX (Zb7 hp (fun | (met1,out2,e_),fr,k=>∃ m i,fr 0=v_l∧fr 3=g∧fr 4=m∧fr 5=.n v∧fr 6=.n e_∧Own B h k [eSl e_bool g met1,eSl eV m i,Zce ZA i out2]) (fun | (met2,out3),e,fr,k=>e=(.exit 2)∧∃ P S,fr 0=v_l∧fr 3=g∧fr 4=P∧fr 5=.n v∧Own B h k [eSl e_bool g met2,eSl eV P S,Zce ZA S out3]) ⟨H,J,am,a5,an,ao,rfl,(ab.pk [0,1,2])⟩ ?_ ?_)
   ·rintro ⟨met1,out2,e_⟩ bP a3 ⟨m,i,M,N,ac,D,F,j⟩ bK hp
    dsimp only [ZX.s1] at hp
    refine ZB (Zk (Zb _ F (Zc (zH rfl rfl) (Ze (zC hp rfl (fun aA hp=>?_) (fun aA hp=>?_))))))
    ·refine Zat (ZB (zX (ZB (Zk (Zb _ M (Zb _ D ?_))))))
     refine Zb _ F (ckk hp fun L hp=>Zc (zi (j.rd0 s_l.rd) rfl rfl L) (Zc (Zbt (j.rd0 s_l.rd) (Zg L) rfl rfl) (ckk hp fun af hp=>Zc (Zbj (j.rd0 s_l.rd) (Zg L) rfl rfl af rfl) (Zc (zS (j.rd0 s_l.rd) rfl (Zg L) (zI af)) (Zc (zH rfl rfl) (Zb (.b (decide ((((gi l v.toNat).Next).get e_) < 0))) rfl ?_))))))
     obtain ⟨t,a1,hp⟩:=ZaZ hp
     refine Zai 8 (fun f k=>a3=k∧f 39=.b t∧f 0=v_l∧f 3=g∧f 4=m∧f 5=.n v∧f 6=.n e_) ?_ ?_
     ·clear hp; rcases Zbn a1 with ⟨a,hp⟩ | ⟨a,hp⟩
      ·refine Zl rfl a (Zl rfl a (Zl rfl a (Zl rfl a (Zl rfl a (Zl rfl a (Zl rfl a (Zc (ZaS (v:=.b t) rfl a (Eq.trans (b:=V.b true) rfl (congrArg V.b (Option.some.inj hp)))) (Zh ?_))))))))
       exact ⟨rfl,rfl,M,N,ac,D,F⟩
      ·refine Zu rfl a (Zb _ N (Zu rfl a (Zb _ D (Zu rfl a (ckk hp fun aJ hp=>Zc (Zhk rfl rfl aJ) (Zu rfl a (Zb _ F ?_)))))))
       refine Zu rfl a (ckk hp fun aK hp=>Zc (zf rfl rfl aK) (Zu rfl a (ckk hp fun ah hp=>Zc (zi (j.sl 0 rfl) rfl rfl ah) (Zu rfl a (Zc (zS (j.sl 0 rfl) rfl (Zg ah) rfl) (Zc (ZaL (v:=.b t) rfl a (Eq.trans (b:=V.b (gi met1 ((4 * v) + e_:Int).toNat)) rfl (congrArg V.b (Option.some.inj hp)))) ?_))))))
       refine Zh ?_
       exact ⟨rfl,rfl,M,N,ac,D,F⟩
     rintro bp _ ⟨rfl,aN,aj,ak,al,T,U⟩
     refine Ze (zC hp aN (fun aB hp=>?_) (fun aB hp=>?_))
     ·refine Zbo (zK (Zaw (Zo (zD (Zb _ U (ckk hp fun aL hp=>Zc (zf rfl rfl aL) (Zb (.n (e_ + 1)) rfl ?_)))))))
      refine Zh ?_
      cases hp
      exact ⟨rfl,m,i,aj,ak,al,T,rfl,(j.pk [0,1,2])⟩
     ·refine Zat (Zk (Zb (.sn) rfl (Ze (Zk ?_))))
      refine Zb _ T (Zb _ U (Zc (Zcx (cs:=ZA.c (⟨v,e_⟩:Z6)) (by rw [(zo (v:=.n v) rfl (zo (v:=.n e_) rfl ZaH))]; rfl)) (zw (j.alloc (cs:=ZA.c (⟨0,0⟩:Z6)) j.fr) ?_)))
      rintro _ bB ⟨w,rfl,bI,bh,aY⟩
      refine zw (aY.stb (cs':=ZA.c (⟨v,e_⟩:Z6)) 3 rfl rfl rfl rfl ⟨rfl,Nat.le_of_ble_eq_true rfl,rfl⟩ rfl) ?_
      rintro _ bC ⟨rfl,bi,bF,aZ⟩
      refine Ze (ZB (zX ?_))
      have aP:=aZ.nil ZA
      refine Zb7 hp (fun | (met3,f,d),fr,k=>∃ Q,fr 0=v_l∧fr 3=g∧fr 4=m∧fr 5=.n v∧fr 6=.n e_∧fr 7=Q∧fr 8=.p w 0∧Own B h k [eSl e_bool g met3,eSl eV m i,Zce ZA i out2,eSl ZA Q f,zV w (ZA.c d)]) (fun | (met4,f1),e,fr,k=>e=(.exit 4)∧∃ A,fr 0=v_l∧fr 3=g∧fr 4=m∧fr 5=.n v∧fr 6=.n e_∧fr 7=A∧Own B h k [eSl e_bool g met4,eSl eV m i,Zce ZA i out2,eSl ZA A f1]) ⟨V.sn,aj,ak,al,T,U,rfl,rfl,(aP.pk [0,1,2,4,3])⟩ ?_ ?_
      ·rintro ⟨met3,f,d⟩ bR bE ⟨Q,ad,O,ap,aq,ar,au,s,q⟩ bL hp
       dsimp only [ZX.s2] at hp
       refine ZB (Zk (Zb _ O (Zc (zR (r:=w) (o:=0) s rfl) (Zc (zn (q.box 4 rfl) rfl rfl) (ckk hp fun ai hp=>Zc (Zhk rfl rfl ai) (Zc (zR (r:=w) (o:=0) s rfl) ?_))))))
       refine Zc (zn (q.box 4 rfl) rfl rfl) (ckk hp fun ae hp=>Zc (zf rfl rfl ae) (ckk hp fun K hp=>Zc (zi (q.sl 0 rfl) rfl rfl K) (Zc (zS (q.sl 0 rfl) rfl (Zg K) rfl) (Zc (ZcR rfl) (Ze (zC hp rfl (fun aC hp=>?_) (fun aC hp=>?_)))))))
       ·refine Zat (zX (Zk (Zb _ O (Zc (zR (r:=w) (o:=0) s rfl) (Zc (zn (q.box 4 rfl) rfl rfl) (Zc (Zhk rfl rfl ai) ?_))))))
        refine Zc (zR (r:=w) (o:=0) s rfl) (Zc (zn (q.box 4 rfl) rfl rfl) (Zc (zf rfl rfl ae) (Zc (zi (q.sl 0 rfl) rfl rfl K) (zw (q.ste (y:=true) 0 rfl rfl (Zg K) rfl rfl ⟨rfl,Nat.le_of_ble_eq_true rfl,rfl⟩ rfl) ?_))))
        rintro _ br ⟨rfl,bj,bG,X⟩
        refine Ze (Zk (Zb _ au (Zc (Zbu (X.box 4 rfl) s rfl) (zw (X.bsl (E:=ZA) (l:=[d]) X.fr (by rw [(zo (v:=.ag (ZA.c d)) rfl ZaH)]; rfl) rfl) ?_))))
        rintro bX bs ⟨bT,bk,Y⟩
        refine ckk hp fun aE hp=>zw (Y.app (bytes:=16) 3 Y.fr rfl (Y.sl 5 rfl) rfl rfl (fun _=>rfl) aE (by decide)) ?_
        rintro aw a2 ⟨bl,aa⟩
        refine Zb aw rfl (Ze (zD (Zb _ ad (Zc (Zbu (aa.box 4 rfl) s rfl) ?_))))
        obtain ⟨x,⟨bV,bt,aM,rfl,a0⟩,hp⟩:=bdk hp fun _=>Zaq.ok (h:=a2)  (aa.rd0 s_l.rd)
        refine ZaK rfl rfl aM ?_
        have aQ:=aa.call a0 rfl
        refine zw (aQ.stb (cs':=ZA.c x) 4 rfl s rfl rfl ⟨rfl,Nat.le_of_ble_eq_true rfl,rfl⟩ rfl) ?_
        rintro _ bu ⟨rfl,bm,bH,aR⟩
        refine Zh (Zaa ?_)
        cases hp
        exact ⟨rfl,aw,ad,O,ap,aq,ar,rfl,s,(aR.pk [0,1,2,3,4])⟩
       ·refine Zbo (zK ?_)
        cases hp
        exact ⟨nofun,rfl,Q,ad,O,ap,aq,ar,au,(q.pk [0,1,2,3])⟩
      rintro ⟨met4,f1⟩ hp _ bQ bD ⟨rfl,A,ba,bb,bc,bd,be,bf,W⟩
      refine Zaw (Zo (zD (Zb _ bc (Zb _ bf (zw (W.bsl (E:=eV) (l:=[A]) W.fr (by rw [(zo (v:=A) rfl ZaH)]; simp only [fill,(W.sl 3 rfl).cells]; simp [over]) rfl) ?_)))))
      rintro bW bv ⟨bU,bn,C⟩
      refine ckk hp fun aF hp=>zw (C.appV (bytes:=24) 1 C.fr rfl (C.sl 4 rfl) rfl rfl (by simp only [List.all_cons,List.all_nil,Bool.and_true]; exact (C.sl 3 rfl).oneV) (by rw [(C.allLen 2 rfl:(i).length=(out2).length)]; exact aF) (by decide)) ?_
      rintro ax bw ⟨bo,aS⟩
      have aU:=aS.absorb 2 3 rfl rfl (by decide)
      refine Zb ax rfl (Zh (Zaa (Zo (zD (Zb _ be (ckk hp fun aG hp=>Zc (zf rfl rfl aG) (Zb (.n (e_ + 1)) rfl ?_)))))))
      refine Zh ?_
      cases hp
      exact ⟨rfl,ax,i++[A],ba,bb,rfl,bd,rfl,(aU.pk [0,1,2])⟩
    ·refine Zbo (zK ?_)
     cases hp
     exact ⟨nofun,rfl,m,i,M,N,ac,D,(j.pk [0,1,2])⟩
   rintro ⟨met2,out3⟩ hp _ bO bA ⟨rfl,P,S,a6,a7,a8,a9,aX⟩
   refine Zaw (Zaa (Zo (zD (Zb _ a9 (ckk hp fun aH hp=>Zc (zf rfl rfl aH) (Zb (.n (v + 1)) rfl (Zh ?_)))))))
   cases hp
   exact ⟨rfl,P,S,a6,a7,a8,rfl,(aX.pk [0,1,2])⟩
  ·refine Zbo (zK ?_)
   cases hp
   exact ⟨nofun,rfl,H,J,an,(ab.pk [1,2])⟩
 rintro out1 hp _ bM bx ⟨rfl,I,R,a4,aT⟩
 refine Zaw (Zo (Zk (Zb _ a4 (Zb I rfl (Ze (Zav ?_))))))
 refine z8 (Zag rfl ZQ) ?_
 cases hp
 exact ⟨I,R,rfl,(aT.pk [0,1])⟩

theorem ZbB.ok {h:Hp} {d:Int}   {r:Bool} (hp:ZbB d=some r) :
  ∃ u k',Is G 223 [.n d] h u k'∧V.b r=u∧Own (fun r=>r < h.n) h k' []:=by
 refine WC.is (ZaP Zei ?_)
 unfold ZbB at hp
 let B:Nat→Prop:=(fun r=>r < h.n)
 have hO:Own B h h []:=Own.start0 h
 refine Zk (Zb (.b false) rfl (Ze (Zk (Zb (.n d) rfl (Zc (ZcZ rfl rfl) ?_)))))
 refine Zb (.b (decide (0≤d))) rfl (Zai 3 (fun f k=>h=k∧f 8=.b ((decide (0≤d)) && (decide (d≤3)))) ?_ ?_)
 ·rcases bc (decide (0≤d)) with a | a
  ·refine Zu rfl a (Zb (.n d) rfl (Zu rfl a (Zc (Zk0 rfl rfl) (Zc (ZcY rfl a rfl) (Zh ?_)))))
   exact ⟨rfl,rfl⟩
  ·refine Zl rfl a (Zl rfl a (Zc (ZcX (w:=(decide (0≤d)) && (decide (d≤3))) rfl a rfl) (Zh ?_)))
   exact ⟨rfl,rfl⟩
 rintro e _ ⟨rfl,c⟩
 refine Zb _ c (Ze (Zav (z8 (Zag rfl ZQ) ?_)))
 cases hp
 exact ⟨rfl,(hO.pk [])⟩

theorem ZbZ.ok {h:Hp} {d:Int} {times:Int}   {r:Int} (hp:ZbZ d times=some r) :
  ∃ u k',Is G 224 [.n d,.n times] h u k'∧V.n r=u∧Own (fun r=>r < h.n) h k' []:=by
 refine WC.is (ZaP Zej ?_)
 unfold ZbZ at hp
 let B:Nat→Prop:=(fun r=>r < h.n)
 have hO:Own B h h []:=Own.start0 h
 refine Zk (Zb (.n 0) rfl (Ze (Zk (Zb (.n d) rfl ?_))))
 obtain ⟨x,⟨m,l,j,rfl,k⟩,hp⟩:=bdk hp fun _=>ZbB.ok (h:=h)  
 refine ZaK rfl rfl j ?_
 have a:=hO.call k rfl
 refine Zb (.b x) rfl (Ze (ZB (Zk (Zb (.b x) rfl (Zc (ZcR rfl) (Zh ?_))))))
 refine Zo (zC hp rfl (fun c hp=>?_) (fun c hp=>?_))
 ·refine Zk (Zb (.n 0) rfl (Ze (Zav (zE (z8 (Zag rfl ZQ) ?_)))))
  cases hp
  exact ⟨rfl,(a.pk [])⟩
 ·refine Zat (Zk (Zb (.n times) rfl (Zc (ZcL rfl rfl (by decide)) (Zb (.n (times.tmod 4)) rfl (Ze ?_)))))
  refine ZB (Zk (Zb (.n (times.tmod 4)) rfl (Zc (zH rfl rfl) (Ze (zC hp rfl (fun e hp=>?_) (fun e hp=>?_))))))
  ·refine zD (Zb (.n (times.tmod 4)) rfl (ckk hp fun f hp=>Zc (zf rfl rfl f) (Zb (.n ((times.tmod 4) + 4)) rfl (Ze (Zk ?_)))))
   refine Zb (.n d) rfl (Zb (.n ((times.tmod 4) + 4)) rfl (ckk hp fun g hp=>Zc (zf rfl rfl g) (Zc (ZcL rfl rfl (by decide)) (Zb (.n ((d + ((times.tmod 4) + 4)).tmod 4)) rfl (Ze (Zav ?_))))))
   refine z8 (Zag rfl ZQ) ?_
   cases hp
   exact ⟨rfl,(a.pk [])⟩
  ·refine Zat (Zk (Zb (.n d) rfl (Zb (.n (times.tmod 4)) rfl (ckk hp fun i hp=>Zc (zf rfl rfl i) (Zc (ZcL rfl rfl (by decide)) ?_)))))
   refine Zb (.n ((d + (times.tmod 4)).tmod 4)) rfl (Ze (Zav (z8 (Zag rfl ZQ) ?_)))
   cases hp
   exact ⟨rfl,(a.pk [])⟩

theorem Zca.ok {h:Hp} {d:Int} {e_:Int}   {r:Int} (hp:Zca d e_=some r) :
  ∃ u k',Is G 207 [.n d,.n e_] h u k'∧V.n r=u∧Own (fun r=>r < h.n) h k' []:=by
 refine WC.is (ZaP Zek ?_)
 unfold Zca at hp
 let B:Nat→Prop:=(fun r=>r < h.n)
 have hO:Own B h h []:=Own.start0 h
 refine Zk (Zb (.n 0) rfl (Ze (Zk (Zb (.n d) rfl ?_))))
 obtain ⟨x,⟨Q,L,v,rfl,H⟩,hp⟩:=bdk hp fun _=>ZbB.ok (h:=h)  
 refine ZaK rfl rfl v ?_
 have F:=hO.call H rfl
 refine Zb (.b x) rfl (Ze (Zk (Zb (.n e_) rfl ?_)))
 obtain ⟨x1,⟨R,i,y,rfl,I⟩,hp⟩:=bdk hp fun _=>ZbB.ok (h:=L)  
 refine ZaK rfl rfl y ?_
 have m:=F.call I rfl
 refine Zb (.b x1) rfl (Ze (ZB (Zk (Zb (.b x) rfl (Zc (ZcR rfl) (Zb (.b (!x)) rfl (Zai 3 (fun f k=>i=k∧f 17=.b ((!x) || (!x1))∧f 0=.n d∧f 1=.n e_) ?_ ?_)))))))
 ·rcases bc (!x) with c | c
  ·refine Zl rfl c (Zl rfl c (Zc (Zcs (w:=(!x) || (!x1)) rfl c rfl) (Zh ?_)))
   exact ⟨rfl,rfl,rfl,rfl⟩
  ·refine Zu rfl c (Zb (.b x1) rfl (Zu rfl c (Zc (ZcR rfl) (Zc (Zct rfl c rfl) (Zh ?_)))))
   exact ⟨rfl,rfl,rfl,rfl⟩
 rintro N _ ⟨rfl,D,e,g⟩
 refine Zb _ D (Zai 4 (fun f k=>i=k∧f 22=.b (((!x) || (!x1)) || (decide (d=e_)))∧f 0=.n d∧f 1=.n e_) ?_ ?_)
 ·rcases bc ((!x) || (!x1)) with a | a
  ·refine Zl rfl a (Zl rfl a (Zl rfl a (Zc (Zcs (w:=((!x) || (!x1)) || (decide (d=e_))) rfl a rfl) (Zh ?_))))
   exact ⟨rfl,rfl,e,g⟩
  ·refine Zu rfl a (Zb _ e (Zu rfl a (Zb _ g (Zu rfl a (Zc (Zb0 rfl rfl) (Zc (Zct rfl a rfl) (Zh ?_)))))))
   exact ⟨rfl,rfl,e,g⟩
 rintro O _ ⟨rfl,E,j,l⟩
 refine Ze (zC hp E (fun q hp=>?_) (fun q hp=>?_))
 ·refine Zk (Zb (.n 0) rfl (Ze (Zav (zE (z8 (Zag rfl ZQ) ?_)))))
  cases hp
  exact ⟨rfl,(m.pk [])⟩
 ·refine Zat (Zk (Zb _ j ?_))
  obtain ⟨x2,⟨S,M,A,rfl,J⟩,hp⟩:=bdk hp fun _=>ZbZ.ok (h:=i)  
  refine ZaK rfl rfl A ?_
  have o:=m.call J rfl
  refine Zb (.n x2) rfl (Ze (ZB (Zk (Zb (.n x2) rfl (Zb _ l (Zc (Zb0 rfl rfl) ?_))))))
  refine Ze (zC hp rfl (fun s hp=>?_) (fun s hp=>?_))
  ·refine Zk (Zb (.n 1) rfl (Ze (Zav (zE (z8 (Zag rfl ZQ) ?_)))))
   cases hp
   exact ⟨rfl,(o.pk [])⟩
  ·refine Zat (Zk (Zb _ j ?_))
   obtain ⟨x3,⟨T,P,C,rfl,K⟩,hp⟩:=bdk hp fun _=>ZbZ.ok (h:=M)  
   refine ZaK rfl rfl C ?_
   have p:=o.call K rfl
   refine Zb (.n x3) rfl (Ze (ZB (Zk (Zb (.n x3) rfl (Zb _ l (Zc (Zb0 rfl rfl) ?_))))))
   refine Ze (zC hp rfl (fun t hp=>?_) (fun t hp=>?_))
   ·refine Zk (Zb (.n (-1)) rfl (Ze (Zav (zE (z8 (Zag rfl ZQ) ?_)))))
    cases hp
    exact ⟨rfl,(p.pk [])⟩
   ·refine Zat (Zk (Zb (.n (-2)) rfl (Ze (Zav (z8 (Zag rfl ZQ) ?_)))))
    cases hp
    exact ⟨rfl,(p.pk [])⟩

theorem Za7.ok {h:Hp} {l:List Za} {f:List Z6} {v_l:V} {v_f:V} (s_l:Sl Zd h v_l l) (s_f:Sl ZA h v_f f) {r:(List Int)} (hp:Za7 l f=some r) :
  ∃ u k',Is G 182 [v_l,v_f] h u k'∧∃ H,H=u∧Own (fun r=>r < h.n) h k' [eSl zM H r]:=by
 refine WC.is (ZaP ZdS ?_)
 unfold Za7 at hp
 let B:Nat→Prop:=(fun r=>r < h.n)
 have hO:Own B h h []:=Own.start0 h
 refine Zk (Zb (.sn) rfl (Ze (Zk (Zb (.sn) rfl (Zh ?_)))))
 refine Zo (ZB (Zk (Zb (.n 0) rfl (Ze (zX ?_)))))
 have R:=hO.nil zM
 refine Zb7 hp (fun | (out,i),fr,k=>∃ p,fr 0=v_l∧fr 1=v_f∧fr 5=p∧fr 6=.n i∧Own B h k [eSl zM p out]) (fun out1 e fr k=>e=(.exit 0)∧∃ g,fr 5=g∧Own B h k [eSl zM g out1]) ⟨V.sn,rfl,rfl,rfl,rfl,(R.pk [0])⟩ ?_ ?_
 ·rintro ⟨out,i⟩ ap U ⟨p,D,j,F,m,a⟩ an hp
  dsimp only [Za7.s0] at hp
  refine ZB (Zk (Zb _ m (Zb _ j (Zc (Zak (a.rd0 s_f.rd) rfl) (Zc (zH rfl rfl) (Ze (zC hp rfl (fun J hp=>?_) (fun J hp=>?_))))))))
  ·refine Zat (ZB (zX (Zk (Zb _ D (Zb _ j (Zb _ m ?_))))))
   refine ckk hp fun b hp=>Zc (zi (a.rd0 s_f.rd) rfl rfl b) (Zc (Zdu (a.rd0 s_f.rd) rfl (Zg b)) ?_)
   obtain ⟨x,⟨ar,af,M,rfl,T⟩,hp⟩:=bdk hp fun _=>Zaq.ok (h:=U)  (a.rd0 s_l.rd)
   refine ZaK rfl rfl M ?_
   have w:=a.call T rfl
   refine zw (w.alloc (cs:=ZA.c (⟨0,0⟩:Z6)) w.fr) ?_
   rintro _ ag ⟨X,rfl,al,Y,S⟩
   refine zw (S.stb (cs':=ZA.c x) 1 rfl rfl rfl rfl ⟨rfl,Nat.le_of_ble_eq_true rfl,rfl⟩ rfl) ?_
   rintro _ t ⟨rfl,aa,ak,y⟩
   refine Ze (ZB (ZfG ?_))
   have d:=y.bump 9
   have O:=Fresh.start t 9
   have am:∀ {i:Nat},h.n≤t.n + i:=Nat.le_trans y.n (Nat.le_add_right _ _)
   refine Zbr _ j (Zbr _ m (z4 (zi (d.rd0 s_f.rd) rfl rfl b) (z4 (Zbt (d.rd0 s_f.rd) (Zg b) rfl rfl) (z4 (zS (d.rd0 s_f.rd) rfl (Zg b) rfl) (z4 (zR (r:=X) (o:=0) rfl rfl) (z4 (zn (d.box 1 rfl) rfl rfl) ?_))))))
   obtain ⟨x1,⟨au,ah,N,rfl,C⟩,hp⟩:=bdk hp fun _=>Zca.ok (h:=(t.bump 9))  
   refine Zjv rfl rfl N ?_
   have ad:=O.call C
   have A:=d.call C rfl
   refine Zbr (.n x1) rfl (ZcA ?_)
   refine And.intro ?_ ?_
   ·intro q hq
    simp only [List.mem_cons,List.not_mem_nil,or_false] at hq
    rcases hq with rfl
    ·refine Zao ?_ ?_
     ·exact (fun h=>nomatch h)
     ·exact (fun h=>nomatch h)
   refine Zo (zD (Zb _ F (Zb (.n x1) rfl (zw (A.bsl (E:=zM) (l:=[x1]) A.fr (by rw [(zo (v:=.n x1) rfl ZaH)]; rfl) rfl) ?_))))
   rintro av ai ⟨aq,ab,s⟩
   refine ckk hp fun K hp=>zw (s.app (bytes:=8) 0 s.fr rfl (s.sl 2 rfl) rfl rfl (fun _=>rfl) K (by decide)) ?_
   rintro I aj ⟨ac,Q⟩
   refine Zb I rfl (Zh (Zaa (Zo (zD (Zb _ m (ckk hp fun L hp=>Zc (zf rfl rfl L) (Zb (.n (i + 1)) rfl ?_)))))))
   refine Zh ?_
   cases hp
   exact ⟨rfl,I,D,j,rfl,rfl,(Q.pk [0])⟩
  ·refine Zbo (zK ?_)
   cases hp
   exact ⟨nofun,rfl,p,F,(a.pk [0])⟩
 rintro out1 hp _ ao ae ⟨rfl,g,W,P⟩
 refine Zaw (Zo (Zk (Zb _ W (Zb g rfl (Ze (Zav ?_))))))
 refine z8 (Zag rfl ZQ) ?_
 cases hp
 exact ⟨g,rfl,(P.pk [0])⟩

theorem Za4.ok {h:Hp} {t:List Int} {v_t:V} (s_t:Sl zM h v_t t) {r:Int} (hp:Za4 t=some r) :
  ∃ u k',Is G 206 [v_t] h u k'∧V.n r=u∧Own (fun r=>r < h.n) h k' []:=by
 refine WC.is (ZaP Zds ?_)
 unfold Za4 at hp
 let B:Nat→Prop:=(fun r=>r < h.n)
 have hO:Own B h h []:=Own.start0 h
 refine Zk (Zb (.n 0) rfl (Ze (Zk (Zb (.n 0) rfl (Zh ?_)))))
 refine Zo (ZB (Zk (Zb (.n 0) rfl (Ze (zX (Zb7 hp (fun | (n,i),fr,k=>fr 0=v_t∧fr 3=.n n∧fr 4=.n i∧Own B h k []) (fun n1 e fr k=>e=(.exit 0)∧fr 3=.n n1∧Own B h k []) ⟨rfl,rfl,rfl,(hO.pk [])⟩ ?_ ?_))))))
 ·rintro ⟨n,i⟩ K D ⟨g,o,j,c⟩ I hp
  dsimp only [Za4.s0] at hp
  refine ZB (Zk (Zb _ j (Zb _ g (Zc (Zak (c.rd0 s_t.rd) rfl) (Zc (zH rfl rfl) (Ze (zC hp rfl (fun q hp=>?_) (fun q hp=>?_))))))))
  ·refine Zat (ZB (zX (Zk (Zb _ g (Zb _ j (ckk hp fun d hp=>?_))))))
   refine Zc (zi (c.rd0 s_t.rd) rfl rfl d) (Zc (zS (c.rd0 s_t.rd) rfl (Zg d) rfl) (Zc (ZcZ rfl rfl) (Zb (.b (decide ((-2)≤(gi t i.toNat)))) rfl (Zai 6 (fun f k=>D=k∧f 22=.b ((decide ((-2)≤(gi t i.toNat))) && (decide ((gi t i.toNat)≤1)))∧f 0=v_t∧f 3=.n n∧f 4=.n i) ?_ ?_))))
   ·rcases bc (decide ((-2)≤(gi t i.toNat))) with a | a
    ·refine Zu rfl a (Zb _ g (Zu rfl a (Zb _ j (Zu rfl a (Zc (zi (c.rd0 s_t.rd) rfl rfl d) (Zu rfl a (Zc (zS (c.rd0 s_t.rd) rfl (Zg d) rfl) (Zu rfl a ?_))))))))
     refine Zc (Zk0 rfl rfl) (Zc (ZcY rfl a rfl) (Zh ?_))
     exact ⟨rfl,rfl,g,o,j⟩
    ·refine Zl rfl a (Zl rfl a (Zl rfl a (Zl rfl a (Zl rfl a (Zc (ZcX (w:=(decide ((-2)≤(gi t i.toNat))) && (decide ((gi t i.toNat)≤1))) rfl a rfl) (Zh ?_))))))
     exact ⟨rfl,rfl,g,o,j⟩
   rintro F _ ⟨rfl,A,l,p,m⟩
   refine Ze (zC hp A (fun s hp=>?_) (fun s hp=>?_))
   ·refine zD (Zb _ p (Zb _ l (Zb _ m (Zc (zi (c.rd0 s_t.rd) rfl rfl d) (Zc (zS (c.rd0 s_t.rd) rfl (Zg d) rfl) (ckk hp fun v hp=>Zc (zf rfl rfl v) (Zb (.n (n + (gi t i.toNat))) rfl ?_)))))))
    refine Zh (Zaa (Zo (zD (Zb _ m (ckk hp fun x hp=>Zc (zf rfl rfl x) (Zb (.n (i + 1)) rfl (Zh ?_)))))))
    cases hp
    exact ⟨rfl,l,rfl,rfl,(c.pk [])⟩
   ·refine Zc1 (Zaa (Zo (zD (Zb _ m (ckk hp fun y hp=>Zc (zf rfl rfl y) (Zb (.n (i + 1)) rfl (Zh ?_)))))))
    cases hp
    exact ⟨rfl,l,p,rfl,(c.pk [])⟩
  ·refine Zbo (zK ?_)
   cases hp
   exact ⟨nofun,rfl,o,(c.pk [])⟩
 rintro n1 hp _ J H ⟨rfl,E,C⟩
 refine Zaw (Zo (Zk (Zb _ E (Zb (.n n1) rfl (Ze (Zav ?_))))))
 refine z8 (Zag rfl ZQ) ?_
 cases hp
 exact ⟨rfl,(C.pk [])⟩

theorem ZaG.ok {h:Hp} {l:List Za} {v_l:V} (s_l:Sl Zd h v_l l) {r:Int × Int} (hp:ZaG l=some r) :
  ∃ u k',Is G 181 [v_l] h u k'∧V.tu [.n r.1,.n r.2]=u∧Own (fun r=>r < h.n) h k' []:=by
 refine WC.is (ZaP ZdU ?_)
 unfold ZaG at hp
 let B:Nat→Prop:=(fun r=>r < h.n)
 have hO:Own B h h []:=Own.start0 h
 refine Zk (Zb (.n 0) rfl (Zb (.n 0) rfl (Ze (Zk (Zb v_l rfl ?_)))))
 obtain ⟨x,⟨aQ,aC,ae,rfl,ax⟩,hp⟩:=bdk hp fun _=>zG.ok (h:=h)  (hO.rd0 s_l.rd)
 refine ZaK rfl rfl ae ?_
 have F:=hO.call ax rfl
 refine Zb (.n x) rfl (Ze (ZB (Zk (Zb (.n x) rfl (Zc (Zc2 rfl rfl) (Zh ?_))))))
 refine Zo (zC hp rfl (fun T hp=>?_) (fun T hp=>?_))
 ·refine Zk (Zb (.n x) rfl (Zb (.n (-1)) rfl (Zb (.n x) rfl (Ze (Zav (zE ?_))))))
  refine z8 (Zag rfl (Zag rfl ZQ)) ?_
  cases hp
  exact ⟨rfl,(F.pk [])⟩
 ·refine Zat (Zk (Zb v_l rfl ?_))
  obtain ⟨x1,⟨aR,aD,af,R,aH,rfl,ay⟩,hp⟩:=bdk hp fun _=>zT.ok (h:=aC)  (F.rd0 s_l.rd)
  refine ZaK rfl rfl af ?_
  have j:=F.call ay rfl
  refine Zb R rfl (Ze (ZB (Zk (Zb R rfl (Zc (ZgP (n:=(x1).length) (j.sl 0 rfl) (j.allLen 1 rfl:(aH).length=(x1).length) rfl) (Zc (Zc2 rfl rfl) ?_))))))
  refine Ze (zC hp rfl (fun W hp=>?_) (fun W hp=>?_))
  ·refine Zk (Zb (.n (-1)) rfl (Zb (.n 13) rfl (Ze (Zav (zE (z8 (Zag rfl (Zag rfl ZQ)) ?_))))))
   cases hp
   exact ⟨rfl,(j.pk [])⟩
  ·refine Zat (ZB (Zk (Zb v_l rfl (Zc (Zak (j.rd0 s_l.rd) rfl) (Zc (Zb0 rfl rfl) (Zh ?_))))))
   refine Zo (zC hp rfl (fun X hp=>?_) (fun X hp=>?_))
   ·refine Zk (Zb (.n (-1)) rfl (Zb (.n 0) rfl (Ze (Zav (zE (z8 (Zag rfl (Zag rfl ZQ)) ?_))))))
    cases hp
    exact ⟨rfl,(j.pk [])⟩
   ·refine Zat (Zk (Zb v_l rfl ?_))
    obtain ⟨x2,⟨aS,aL,ag,m,o,rfl,az⟩,hp⟩:=bdk hp fun _=>ZX.ok (h:=aD)  (j.rd0 s_l.rd)
    refine ZaK rfl rfl ag ?_
    have aw:=j.call az rfl
    refine Zb m rfl (Ze (Zk (Zb (.n (-1)) rfl (Ze (ZB ?_)))))
    refine Zk (Zb (.n 0) rfl (Ze (zX (Zb7 hp (fun | (at_,i),fr,k=>fr 0=v_l∧fr 6=m∧fr 7=.n at_∧fr 8=.n i∧Own B h k [eSl eV m o,Zce ZA o x2]) (fun | .inl at_1,e,fr,k=>e=(.exit 0)∧fr 7=.n at_1∧Own B h k [] | .inr _,e,fr,k=>e=.ret∧fr 2=.n (-1)∧fr 3=.n 10∧Own B h k []) ⟨rfl,rfl,rfl,rfl,(aw.pk [2,3])⟩ ?_ ?_))))
    ·rintro ⟨at_,i⟩ aP P ⟨J,t,K,v,c⟩ aN hp
     dsimp only [ZaG.s0] at hp
     refine ZB (Zk (Zb _ v (Zb _ t (Zc (ZgP (n:=(x2).length) (c.sl 0 rfl) (c.allLen 1 rfl:(o).length=(x2).length) rfl) (Zc (zH rfl rfl) (Ze (zC hp rfl (fun Y hp=>?_) (fun Y hp=>?_))))))))
     ·refine Zat (ZB (zX (Zk (Zb _ J (Zb _ t (Zb _ v ?_))))))
      refine ckk hp fun y hp=>Zc (zi (c.sl 0 rfl) rfl rfl (by rw [(c.allLen 1 rfl:(o).length=(x2).length)]; exact y)) (Zc (zS (c.sl 0 rfl) rfl (by rw [(c.allLen 1 rfl:(o).length=(x2).length)]; exact Zg y) rfl) ?_)
      obtain ⟨x3,⟨aT,aE,ah,S,rfl,aA⟩,hp⟩:=bdk hp fun _=>Za7.ok (h:=P)  (c.rd0 s_l.rd) (c.inn 1 rfl (Zg y):Sl ZA P (gi o i.toNat) (gi x2 i.toNat))
      refine ZaK rfl rfl ah ?_
      have O:=c.call aA rfl
      refine Zb S rfl (Ze (Zk (Zb S rfl ?_)))
      obtain ⟨x4,⟨aU,I,ai,rfl,aB⟩,hp⟩:=bdk hp fun _=>Za4.ok (h:=aE)  (O.sl 2 rfl)
      refine ZaK rfl rfl ai ?_
      have H:=O.call aB rfl
      refine Zb (.n x4) rfl (Ze (ZB (Zk (Zb (.n x4) rfl (Zc (Zc2 rfl rfl) (Zb (.b (!(decide (x4=4)))) rfl (Zai 3 (fun f k=>I=k∧f 45=.b ((!(decide (x4=4))) && (!(decide (x4=(-4)))))∧f 0=v_l∧f 10=.n x4∧f 6=m∧f 7=.n at_∧f 8=.n i) ?_ ?_)))))))
      ·rcases bc (!(decide (x4=4))) with d | d
       ·refine Zu rfl d (Zb (.n x4) rfl (Zu rfl d (Zc (Zc2 rfl rfl) (Zc (ZcY rfl d rfl) (Zh ?_)))))
        exact ⟨rfl,rfl,J,rfl,t,K,v⟩
       ·refine Zl rfl d (Zl rfl d (Zc (ZcX (w:=(!(decide (x4=4))) && (!(decide (x4=(-4))))) rfl d rfl) (Zh ?_)))
        exact ⟨rfl,rfl,J,rfl,t,K,v⟩
      rintro aI _ ⟨rfl,aj,A,p,C,q,D⟩
      refine Zb _ aj (Zai 7 (fun f k=>I=k∧f 53=.b (((!(decide (x4=4))) && (!(decide (x4=(-4))))) || ((decide (x4=(-4))) && (decide (0≤at_))))∧f 0=v_l∧f 10=.n x4∧f 6=m∧f 7=.n at_∧f 8=.n i) ?_ ?_)
      ·rcases bc ((!(decide (x4=4))) && (!(decide (x4=(-4))))) with a | a
       ·refine Zl rfl a (Zl rfl a (Zl rfl a (ZhC rfl (ZhC rfl (Zl rfl a (Zc (Zcs (w:=((!(decide (x4=4))) && (!(decide (x4=(-4))))) || ((decide (x4=(-4))) && (decide (0≤at_)))) rfl a rfl) (Zh ?_)))))))
        exact ⟨rfl,rfl,A,p,C,q,D⟩
       ·refine Zu rfl a (Zb _ p (Zu rfl a (Zc (Zb0 rfl rfl) (Zu rfl a (Zb (.b (decide (x4=(-4)))) rfl (Zai 3 (fun f k=>I=k∧f 52=.b ((decide (x4=(-4))) && (decide (0≤at_)))∧f 0=v_l∧f 10=.n x4∧f 46=.b ((!(decide (x4=4))) && (!(decide (x4=(-4)))))∧f 6=m∧f 7=.n at_∧f 8=.n i) ?_ ?_))))))
        ·rcases bc (decide (x4=(-4))) with g | g
         ·refine Zu rfl g (Zb _ q (Zu rfl g (Zc (ZcZ rfl rfl) (Zu rfl a (Zc (ZcY rfl g rfl) (Zh ?_))))))
          exact ⟨rfl,rfl,A,p,rfl,C,q,D⟩
         ·refine Zl rfl g (Zl rfl g (Zu rfl a (Zc (ZcX (w:=(decide (x4=(-4))) && (decide (0≤at_))) rfl g rfl) (Zh ?_))))
          exact ⟨rfl,rfl,A,p,rfl,C,q,D⟩
        rintro aJ _ ⟨rfl,an,ak,al,am,ao,ap,aq⟩
        refine Zc (Zct am a an) (Zh ?_)
        exact ⟨rfl,rfl,ak,al,ao,ap,aq⟩
      rintro aK _ ⟨rfl,au,L,ar,M,av,E⟩
      refine Ze (zC hp au (fun aa hp=>?_) (fun aa hp=>?_))
      ·refine Zk (Zb (.n (-1)) rfl (Zb (.n 10) rfl (Ze (Zav (zE (Zbw ?_))))))
       refine zE ?_
       cases hp
       exact ⟨nofun,rfl,rfl,rfl,(H.pk [])⟩
      ·refine Zat (Zk (Zb _ ar (Zc (Zb0 rfl rfl) (Ze (zC hp rfl (fun ab hp=>?_) (fun ab hp=>?_))))))
       ·refine zD (Zb _ E (Zb (.n i) rfl (Zh (Zaa (Zo (zD (Zb _ E (ckk hp fun ac hp=>?_))))))))
        refine Zc (zf rfl rfl ac) (Zb (.n (i + 1)) rfl (Zh ?_))
        cases hp
        exact ⟨rfl,L,M,rfl,rfl,(H.pk [0,1])⟩
       ·refine Zc1 (Zaa (Zo (zD (Zb _ E (ckk hp fun ad hp=>Zc (zf rfl rfl ad) (Zb (.n (i + 1)) rfl (Zh ?_)))))))
        cases hp
        exact ⟨rfl,L,M,av,rfl,(H.pk [0,1])⟩
     ·refine Zbo (zK ?_)
      cases hp
      exact ⟨nofun,rfl,K,(c.pk [])⟩
    rintro (at_1 | _) hp _ aO aM N
    ·obtain ⟨rfl,Q,s⟩:=N
     refine Zaw (Zo (ZB (Zk (Zb _ Q (Zc (zH rfl rfl) (Ze (zC hp rfl (fun U hp=>?_) (fun U hp=>?_))))))))
     ·refine Zk (Zb (.n (-1)) rfl (Zb (.n 10) rfl (Ze (Zav (zE (z8 (Zag rfl (Zag rfl ZQ)) ?_))))))
      cases hp
      exact ⟨rfl,(s.pk [])⟩
     ·refine Zat (Zk (Zb _ Q (Zb (.n at_1) rfl (Zb (.n 0) rfl (Ze ?_)))))
      refine Zav (z8 (Zag rfl (Zag rfl ZQ)) ?_)
      cases hp
      exact ⟨rfl,(s.pk [])⟩
    ·obtain ⟨rfl,aF,aG,s⟩:=N
     refine Zbw (zE (z8 (Zag aF (Zag aG ZQ)) ?_))
     cases hp
     exact ⟨rfl,(s.pk [])⟩

theorem zQ.ok {h:Hp} {l:List Za} {v_l:V} (s_l:Sl Zd h v_l l) {r:(List Za)} (hp:zQ l=some r) :
  ∃ u k',Is G 215 [v_l] h u k'∧∃ R,R=u∧Own (fun r=>r < h.n) h k' [eSl Zd R r]:=by
 refine WC.is (ZaP Zet ?_)
 unfold zQ at hp
 let B:Nat→Prop:=(fun r=>r < h.n)
 have hO:Own B h h []:=Own.start0 h
 refine Zk (Zb (.sn) rfl (Ze (Zk (Zb (.sn) rfl (Zh ?_)))))
 refine Zo (ZB (Zk (Zb (.n 0) rfl (Ze (zX ?_)))))
 have af:=hO.nil Zd
 refine Zb7 hp (fun | (out,i),fr,k=>∃ m,fr 0=v_l∧fr 3=m∧fr 4=.n i∧Own B h k [eSl Zd m out]) (fun out1 e fr k=>e=(.exit 0)∧∃ y,fr 3=y∧Own B h k [eSl Zd y out1]) ⟨V.sn,rfl,rfl,rfl,(af.pk [0])⟩ ?_ ?_
 ·rintro ⟨out,i⟩ aQ aC ⟨m,H,Q,I,q⟩ aN hp
  dsimp only [zQ.s0] at hp
  refine ZB (Zk (Zb _ I (Zb _ H (Zc (Zak (q.rd0 s_l.rd) rfl) (Zc (zH rfl rfl) (Ze (zC hp rfl (fun T hp=>?_) (fun T hp=>?_))))))))
  ·refine Zat (ZB (zX (Zk (Zb _ H (Zb _ I (ckk hp fun M hp=>?_))))))
   refine Zc (zi (q.rd0 s_l.rd) rfl rfl M) (Zc (Zdu (q.rd0 s_l.rd) rfl (Zg M)) (zw (q.alloc (cs:=Zd.c (⟨⟨0,0,0,0⟩,⟨0,0,0,0⟩⟩:Za)) q.fr) ?_))
   rintro _ aD ⟨j,rfl,aM,ar,ah⟩
   refine zw (ah.stb (cs':=Zd.c (gi l i.toNat)) 1 rfl rfl rfl rfl ⟨rfl,Nat.le_of_ble_eq_true rfl,rfl⟩ rfl) ?_
   rintro _ aE ⟨rfl,au,aJ,ai⟩
   refine Ze (ZB (Zk (Zb (.n 0) rfl (Ze (zX (Zb7 hp (fun | (c,d),fr,k=>fr 0=v_l∧fr 3=m∧fr 4=.n i∧fr 5=.p j 0∧fr 6=.n d∧Own B h k [eSl Zd m out,zV j (Zd.c c)]) (fun c1 e fr k=>e=(.exit 2)∧fr 0=v_l∧fr 3=m∧fr 4=.n i∧fr 5=.p j 0∧Own B h k [eSl Zd m out,zV j (Zd.c c1)]) ⟨H,Q,I,rfl,rfl,(ai.pk [0,1])⟩ ?_ ?_))))))
   ·rintro ⟨c,d⟩ aS al ⟨J,K,L,t,x,s⟩ aO hp
    dsimp only [zQ.s1] at hp
    refine ZB (Zk (Zb _ x (Zc (zH rfl rfl) (Ze (zC hp rfl (fun U hp=>?_) (fun U hp=>?_))))))
    ·refine Zat (ZB (zX (Zk (Zb _ x (Zc (zR (r:=j) (o:=0) t rfl) (ckk hp fun g hp=>?_))))))
     refine Zc (Zez (o:=0) (o':=(0 + d.toNat * 1)) rfl rfl g rfl) (Zc (zn (s.box 1 rfl) rfl (zI g)) (Zc (ZcZ rfl rfl) (Zb (.b (decide (0≤(c.Next.get d)))) rfl (Zai 6 (fun f k=>al=k∧f 32=.b ((decide (0≤(c.Next.get d))) && (decide (c.Owner.get d=(-2))))∧f 0=v_l∧f 3=m∧f 4=.n i∧f 5=.p j 0∧f 6=.n d) ?_ ?_))))
     ·rcases bc (decide (0≤(c.Next.get d))) with a | a
      ·refine Zu rfl a (Zb _ x (Zu rfl a (Zc (zR (r:=j) (o:=0) t rfl) (Zu rfl a (Zc (Zez (o:=4) (o':=(4 + d.toNat * 1)) rfl rfl g rfl) (Zu rfl a (Zc (zn (s.box 1 rfl) rfl (Zcm g)) (Zu rfl a ?_))))))))
       refine Zc (Zb0 rfl rfl) (Zc (ZcY rfl a rfl) (Zh ?_))
       exact ⟨rfl,rfl,J,K,L,t,x⟩
      ·refine Zl rfl a (Zl rfl a (Zl rfl a (Zl rfl a (Zl rfl a (Zc (ZcX (w:=(decide (0≤(c.Next.get d))) && (decide (c.Owner.get d=(-2)))) rfl a rfl) (Zh ?_))))))
       exact ⟨rfl,rfl,J,K,L,t,x⟩
     rintro az _ ⟨rfl,ac,N,O,P,A,C⟩
     refine Ze (zC hp ac (fun W hp=>?_) (fun W hp=>?_))
     ·refine Zk (Zb _ C (Zc (zR (r:=j) (o:=0) A rfl) (Zc (Zez (o:=0) (o':=(0 + d.toNat * 1)) rfl rfl g rfl) (zw (s.stb (cs':=Zd.c ({ c with Next:=c.Next.set d (-1) })) 1 rfl rfl rfl rfl ⟨rfl,(by have:=g; exact (show 0 + d.toNat * 1 + 1≤8 by omega)),rfl⟩ (Zcc g)) ?_))))
      rintro _ aG ⟨rfl,av,aK,aj⟩
      refine Ze (zD (Zb _ C (Zc (zR (r:=j) (o:=0) A rfl) (Zc (Zez (o:=4) (o':=(4 + d.toNat * 1)) rfl rfl g rfl) (zw (aj.stb (cs':=Zd.c ({ { c with Next:=c.Next.set d (-1) } with Owner:=(({ c with Next:=c.Next.set d (-1) }).Owner).set d 0 })) 1 rfl rfl rfl rfl ⟨rfl,(by have:=g; exact (show 4 + d.toNat * 1 + 1≤8 by omega)),rfl⟩ (Zcn g)) ?_)))))
      rintro _ aH ⟨rfl,aw,aL,ak⟩
      refine Zh (Zaa (Zo (zD (Zb _ C (ckk hp fun X hp=>Zc (zf rfl rfl X) (Zb (.n (d + 1)) rfl (Zh ?_)))))))
      cases hp
      exact ⟨rfl,N,O,P,A,rfl,(ak.pk [0,1])⟩
     ·refine Zc1 (Zaa (Zo (zD (Zb _ C (ckk hp fun Y hp=>Zc (zf rfl rfl Y) (Zb (.n (d + 1)) rfl (Zh ?_)))))))
      cases hp
      exact ⟨rfl,N,O,P,A,rfl,(s.pk [0,1])⟩
    ·refine Zbo (zK ?_)
     cases hp
     exact ⟨nofun,rfl,J,K,L,t,(s.pk [0,1])⟩
   rintro c1 hp _ aR aF ⟨rfl,an,ao,ap,aq,F⟩
   refine Zaw (Zo (zD (Zb _ ao (Zc (Zbu (F.box 1 rfl) aq rfl) (zw (F.bsl (E:=Zd) (l:=[c1]) F.fr (by rw [(zo (v:=.ag (Zd.c c1)) rfl ZaH)]; rfl) rfl) ?_)))))
   rintro aU aI ⟨aT,ax,D⟩
   refine ckk hp fun aa hp=>zw (D.app (bytes:=64) 0 D.fr rfl (D.sl 2 rfl) rfl rfl (fun _=>rfl) aa (by decide)) ?_
   rintro S aB ⟨ay,ae⟩
   refine Zb S rfl (Zh (Zaa (Zo (zD (Zb _ ap (ckk hp fun ab hp=>Zc (zf rfl rfl ab) (Zb (.n (i + 1)) rfl ?_)))))))
   refine Zh ?_
   cases hp
   exact ⟨rfl,S,an,rfl,rfl,(ae.pk [0])⟩
  ·refine Zbo (zK ?_)
   cases hp
   exact ⟨nofun,rfl,m,Q,(q.pk [0])⟩
 rintro out1 hp _ aP aA ⟨rfl,y,am,ad⟩
 refine Zaw (Zo (Zk (Zb _ am (Zb y rfl (Ze (Zav ?_))))))
 refine z8 (Zag rfl ZQ) ?_
 cases hp
 exact ⟨y,rfl,(ad.pk [0])⟩

theorem Zas.ok {h:Hp} {t:List Int} {v_t:V} (s_t:Sl zM h v_t t) {r:(List Zp)} (hp:Zas t=some r) :
  ∃ u k',Is G 20 [v_t] h u k'∧∃ K,K=u∧Own (fun r=>r < h.n) h k' [eSl Zm K r]:=by
 refine WC.is (ZaP Zd2 ?_)
 unfold Zas at hp
 let B:Nat→Prop:=(fun r=>r < h.n)
 have hO:Own B h h []:=Own.start0 h
 refine Zk (Zb (.sn) rfl (Ze (Zk (Zb (.sn) rfl (Zh ?_)))))
 refine Zo (ZB (Zk (Zb (.n 0) rfl (Ze (zX ?_)))))
 have X:=hO.nil Zm
 refine Zb7 hp (fun | (l,i),fr,k=>∃ j,fr 0=v_t∧fr 3=j∧fr 4=.n i∧Own B h k [eSl Zm j l]) (fun l1 e fr k=>e=(.exit 0)∧∃ q,fr 3=q∧Own B h k [eSl Zm q l1]) ⟨V.sn,rfl,rfl,rfl,(X.pk [0])⟩ ?_ ?_
 ·rintro ⟨l,i⟩ au ab ⟨j,o,D,p,d⟩ aq hp
  dsimp only [Zas.s0] at hp
  refine ZB (Zk (Zb _ p (Zb _ o (Zc (Zak (d.rd0 s_t.rd) rfl) (Zc (zH rfl rfl) (Ze (zC hp rfl (fun N hp=>?_) (fun N hp=>?_))))))))
  ·refine Zat (ZB (zX (ZB (Zk (Zb _ o (Zb _ p ?_))))))
   refine ckk hp fun g hp=>Zc (zi (d.rd0 s_t.rd) rfl rfl g) (Zc (zS (d.rd0 s_t.rd) rfl (Zg g) rfl) (Zc (Zb0 rfl rfl) (Zb (.b (decide (gi t i.toNat=(-1)))) rfl (Zai 6 (fun f k=>ab=k∧f 22=.b ((decide (gi t i.toNat=(-1))) || (decide (gi t i.toNat=(-2))))∧f 0=v_t∧f 3=j∧f 4=.n i) ?_ ?_))))
   ·rcases bc (decide (gi t i.toNat=(-1))) with a | a
    ·refine Zl rfl a (Zl rfl a (Zl rfl a (Zl rfl a (Zl rfl a (Zc (Zcs (w:=(decide (gi t i.toNat=(-1))) || (decide (gi t i.toNat=(-2)))) rfl a rfl) (Zh ?_))))))
     exact ⟨rfl,rfl,o,D,p⟩
    ·refine Zu rfl a (Zb _ o (Zu rfl a (Zb _ p (Zu rfl a (Zc (zi (d.rd0 s_t.rd) rfl rfl g) (Zu rfl a (Zc (zS (d.rd0 s_t.rd) rfl (Zg g) rfl) (Zu rfl a ?_))))))))
     refine Zc (Zb0 rfl rfl) (Zc (Zct rfl a rfl) (Zh ?_))
     exact ⟨rfl,rfl,o,D,p⟩
   rintro ak _ ⟨rfl,U,H,I,y⟩
   refine Ze (Zg4 hp (fun l2 e fr k=>e=.normal∧∃ x,fr 0=v_t∧fr 3=x∧fr 4=.n i∧Own B h k [eSl Zm x l2]) (fun _ hp=>?_) ?_)
   ·refine zC hp U (fun O hp=>?_) (fun O hp=>?_)
    ·refine zD (Zb _ I (Zb _ y (Zc (Zcx (cs:=Zm.c (⟨i,(0:Int)⟩:Zp)) (by rw [(zo (v:=.n i) rfl ZaH)]; rfl)) (zw (d.bsl (E:=Zm) (l:=[(⟨i,(0:Int)⟩:Zp)]) d.fr (by rw [(zo (v:=.ag (Zm.c (⟨i,(0:Int)⟩:Zp))) rfl ZaH)]; rfl) rfl) ?_))))
     rintro ae ac ⟨aw,af,A⟩
     refine ckk hp fun Q hp=>zw (A.app (bytes:=16) 0 A.fr rfl (A.sl 1 rfl:Sl Zm ac ae [(⟨i,(0:Int)⟩:Zp)]) rfl rfl (fun _=>rfl) Q (by decide)) ?_
     rintro L an ⟨ah,Y⟩
     refine Zb L rfl (Zh ?_)
     cases hp
     exact ⟨rfl,L,H,rfl,y,(Y.pk [0])⟩
    ·refine Zc1 ?_
     cases hp
     exact ⟨rfl,j,H,I,y,(d.pk [0])⟩
   rintro l2 hp _ av am ⟨rfl,x,F,J,s,m⟩
   refine Zo (Zk (Zb _ F (Zb _ s (Zc (zi (m.rd0 s_t.rd) rfl rfl g) (Zc (zS (m.rd0 s_t.rd) rfl (Zg g) rfl) (Zc (Zb0 rfl rfl) (Zh ?_)))))))
   refine Zo (zC hp rfl (fun P hp=>?_) (fun P hp=>?_))
   ·refine zD (Zb _ J (Zb _ s (Zc (Zcx (cs:=Zm.c (⟨i,1⟩:Zp)) (by rw [(zo (v:=.n i) rfl (zo (v:=.n 1) rfl ZaH))]; rfl)) (zw (m.bsl (E:=Zm) (l:=[(⟨i,1⟩:Zp)]) m.fr (by rw [(zo (v:=.ag (Zm.c (⟨i,1⟩:Zp))) rfl ZaH)]; rfl) rfl) ?_))))
    rintro ay ao ⟨ax,ai,C⟩
    refine ckk hp fun R hp=>zw (C.app (bytes:=16) 0 C.fr rfl (C.sl 1 rfl) rfl rfl (fun _=>rfl) R (by decide)) ?_
    rintro M ap ⟨aj,aa⟩
    refine Zb M rfl (Zh (Zaa (Zo (zD (Zb _ s (ckk hp fun S hp=>Zc (zf rfl rfl S) (Zb (.n (i + 1)) rfl ?_)))))))
    refine Zh ?_
    cases hp
    exact ⟨rfl,M,F,rfl,rfl,(aa.pk [0])⟩
   ·refine Zc1 (Zaa (Zo (zD (Zb _ s (ckk hp fun T hp=>Zc (zf rfl rfl T) (Zb (.n (i + 1)) rfl (Zh ?_)))))))
    cases hp
    exact ⟨rfl,x,F,J,rfl,(m.pk [0])⟩
  ·refine Zbo (zK ?_)
   cases hp
   exact ⟨nofun,rfl,j,D,(d.pk [0])⟩
 rintro l1 hp _ ar al ⟨rfl,q,ad,W⟩
 refine Zaw (Zo (Zk (Zb _ ad (Zb q rfl (Ze (Zav ?_))))))
 refine z8 (Zag rfl ZQ) ?_
 cases hp
 exact ⟨q,rfl,(W.pk [0])⟩

theorem zZ.ok {h:Hp} {t:List Int} {a:Zp} {b:Zp} {v_t:V} (s_t:Sl zM h v_t t) {r:Int} (hp:zZ t a b=some r) :
  ∃ u k',Is G 23 [v_t,.ag (Zm.c a),.ag (Zm.c b)] h u k'∧V.n r=u∧Own (fun r=>r < h.n) h k' []:=by
 refine WC.is (ZaP Ze5 ?_)
 unfold zZ at hp
 let B:Nat→Prop:=(fun r=>r < h.n)
 have hO:Own B h h []:=Own.start0 h
 refine Zk (zw (hO.boxd (cs:=Zm.c a) hO.fr rfl rfl) ?_)
 rintro _ aS ⟨f,rfl,a3,aM,R⟩
 refine zw (R.boxd (cs:=Zm.c b) R.fr rfl rfl) ?_
 rintro _ aW ⟨g,rfl,a4,aN,aB⟩
 refine Zb (.n 0) rfl (Ze (Zk (Zb (.sn) rfl (Ze (ZB ?_)))))
 refine zD (Zb (.n 0) rfl (Ze (Zk (Zb (.n 0) rfl (Ze ?_)))))
 refine ZB (Zk (Zb (.n 0) rfl (Ze (zX ?_))))
 have aD:=aB.nil zM
 refine Zb7 hp (fun | (single,from_,to_,i),fr,k=>∃ j,fr 0=v_t∧fr 4=.p f 0∧fr 5=.p g 0∧fr 7=j∧fr 8=.n from_∧fr 9=.n to_∧fr 10=.n i∧Own B h k [zV f (Zm.c a),zV g (Zm.c b),eSl zM j single]) (fun | (single1,from_1,to_1),e,fr,k=>e=(.exit 0)∧∃ w,fr 7=w∧fr 8=.n from_1∧fr 9=.n to_1∧Own B h k [eSl zM w single1]) ⟨V.sn,rfl,rfl,rfl,rfl,rfl,rfl,rfl,(aD.pk [0,1,2])⟩ ?_ ?_
 ·rintro ⟨single,from_,to_,i⟩ a8 aY ⟨j,K,A,S,C,T,L,y,m⟩ a5 hp
  dsimp only [zZ.s0] at hp
  refine ZB (Zk (Zb _ y (Zb _ K (Zc (Zak (m.rd0 s_t.rd) rfl) (Zc (zH rfl rfl) (Ze (zC hp rfl (fun aj hp=>?_) (fun aj hp=>?_))))))))
  ·refine Zat (ZB (zX (ZB (Zk (Zb _ y (Zc (zR (r:=f) (o:=0) A rfl) ?_))))))
   refine Zc (zn (m.box 0 rfl) rfl rfl) (Zc (Zb0 rfl rfl) (Ze (Zg4 hp (fun from_2 e fr k=>e=.normal∧fr 0=v_t∧fr 4=.p f 0∧fr 5=.p g 0∧fr 7=j∧fr 8=.n from_2∧fr 9=.n to_∧fr 10=.n i∧Own B h k [zV f (Zm.c a),zV g (Zm.c b),eSl zM j single]) (fun _ hp=>?_) ?_)))
   ·refine zC hp rfl (fun ak hp=>?_) (fun ak hp=>?_)
    ·refine zD (Zb _ C (Zc (Zak (m.sl 2 rfl) rfl) (Zc (zR (r:=f) (o:=0) A rfl) (Zc (zn (m.box 0 rfl) rfl rfl) (ckk hp fun ao hp=>Zc (zf rfl rfl ao) (Zb (.n ((single.length:Int) + a.Part)) rfl (Zh ?_)))))))
     cases hp
     exact ⟨rfl,K,A,S,C,rfl,L,y,(m.pk [0,1,2])⟩
    ·refine Zc1 ?_
     cases hp
     exact ⟨rfl,K,A,S,C,T,L,y,(m.pk [0,1,2])⟩
   rintro from_2 hp _ a9 aZ ⟨rfl,U,W,D,N,X,aJ,M,s⟩
   refine Zo (ZB (Zk (Zb _ M (Zc (zR (r:=g) (o:=0) D rfl) (Zc (zn (s.box 1 rfl) rfl rfl) (Zc (Zb0 rfl rfl) (Zh ?_)))))))
   refine Zo (Zg4 hp (fun to_2 e fr k=>e=.normal∧fr 0=v_t∧fr 4=.p f 0∧fr 5=.p g 0∧fr 7=j∧fr 8=.n from_2∧fr 9=.n to_2∧fr 10=.n i∧Own B h k [zV f (Zm.c a),zV g (Zm.c b),eSl zM j single]) (fun _ hp=>?_) ?_)
   ·refine zC hp rfl (fun al hp=>?_) (fun al hp=>?_)
    ·refine zD (Zb _ N (Zc (Zak (s.sl 2 rfl) rfl) (Zc (zR (r:=g) (o:=0) D rfl) (Zc (zn (s.box 1 rfl) rfl rfl) (ckk hp fun ar hp=>Zc (zf rfl rfl ar) (Zb (.n ((single.length:Int) + b.Part)) rfl (Zh ?_)))))))
     cases hp
     exact ⟨rfl,U,W,D,N,X,rfl,M,(s.pk [0,1,2])⟩
    ·refine Zc1 ?_
     cases hp
     exact ⟨rfl,U,W,D,N,X,aJ,M,(s.pk [0,1,2])⟩
   rintro to_2 hp _ ba a0 ⟨rfl,F,Y,aa,ab,ac,ad,H,d⟩
   refine Zo (Zk (Zb _ F (Zb _ H (ckk hp fun x hp=>Zc (zi (d.rd0 s_t.rd) rfl rfl x) (Zc (zS (d.rd0 s_t.rd) rfl (Zg x) rfl) (Zc (Zb0 rfl rfl) ?_))))))
   refine Ze (zC hp rfl (fun am hp=>?_) (fun am hp=>?_))
   ·refine zD (Zb _ ab (zw (d.bsl (E:=zM) (l:=([(-1),(-1)]:List Int)) d.fr (by rw [(zo (v:=.n (-1)) rfl (zo (v:=.n (-1)) rfl ZaH))]; rfl) rfl) ?_))
    rintro aL aF ⟨bd,aO,J⟩
    refine ckk hp fun au hp=>zw (J.app (bytes:=8) 2 J.fr rfl (J.sl 3 rfl:Sl zM aF aL ([(-1),(-1)]:List Int)) rfl rfl (fun _=>rfl) au (by decide)) ?_
    rintro ah a1 ⟨aP,aE⟩
    refine Zb ah rfl (Zh (Zaa (Zo (zD (Zb _ H (ckk hp fun av hp=>Zc (zf rfl rfl av) (Zb (.n (i + 1)) rfl ?_)))))))
    refine Zh ?_
    cases hp
    exact ⟨rfl,ah,F,Y,aa,rfl,ac,ad,rfl,(aE.pk [0,1,2])⟩
   ·refine zD (Zb _ ab (Zb _ F (Zb _ H (Zc (zi (d.rd0 s_t.rd) rfl rfl x) (Zc (zS (d.rd0 s_t.rd) rfl (Zg x) rfl) (zw (d.bsl (E:=zM) (l:=[gi t i.toNat]) d.fr (by rw [(zo (v:=.n (gi t i.toNat)) rfl ZaH)]; rfl) rfl) ?_))))))
    rintro bf a2 ⟨be,aQ,I⟩
    refine ckk hp fun aw hp=>zw (I.app (bytes:=8) 2 I.fr rfl (I.sl 3 rfl) rfl rfl (fun _=>rfl) aw (by decide)) ?_
    rintro ai aT ⟨aR,az⟩
    refine Zb ai rfl (Zh (Zaa (Zo (zD (Zb _ H (ckk hp fun ax hp=>Zc (zf rfl rfl ax) (Zb (.n (i + 1)) rfl ?_)))))))
    refine Zh ?_
    cases hp
    exact ⟨rfl,ai,F,Y,aa,rfl,ac,ad,rfl,(az.pk [0,1,2])⟩
  ·refine Zbo (zK ?_)
   cases hp
   exact ⟨nofun,rfl,j,C,T,L,(m.pk [2])⟩
 rintro ⟨single1,from_1,to_1⟩ hp _ a7 aX ⟨rfl,w,aG,aH,aI,aC⟩
 refine Zaw (Zo (Zk (Zb (.n 0) rfl (Ze (ZB (ZB ?_))))))
 refine zD (Zb _ aH (Zb (.n from_1) rfl (Ze (zX (Zb7 hp (fun | (sum,k_),fr,k=>fr 7=w∧fr 9=.n to_1∧fr 11=.n sum∧fr 12=.n k_∧Own B h k [eSl zM w single1]) (fun sum1 e fr k=>e=(.exit 2)∧fr 11=.n sum1∧Own B h k []) ⟨aG,aI,rfl,rfl,(aC.pk [0])⟩ ?_ ?_)))))
 ·rintro ⟨sum,k_⟩ bc aV ⟨P,af,ae,O,q⟩ a6 hp
  dsimp only [zZ.s1] at hp
  refine ZB (Zk (Zb _ O (Zb _ af (Zc (Zc2 rfl rfl) (Ze (zC hp rfl (fun an hp=>?_) (fun an hp=>?_)))))))
  ·refine Zat (ZB (zX (zD (Zb _ ae (Zb _ P (Zb _ O (ckk hp fun Q hp=>?_)))))))
   refine Zc (zi (q.sl 0 rfl) rfl rfl Q) (Zc (zS (q.sl 0 rfl) rfl (Zg Q) rfl) (ckk hp fun ay hp=>Zc (zf rfl rfl ay) (Zb (.n (sum + (gi single1 k_.toNat))) rfl (Zh (Zaa (Zo (zD ?_)))))))
   refine Zb _ O (ckk hp fun ap hp=>Zc (zf rfl rfl ap) (Zb _ P (Zc (Zak (q.sl 0 rfl) rfl) (ckk hp fun aq hp=>Zc (ZcL rfl rfl aq) (Zb (.n ((k_ + 1).tmod (single1.length:Int))) rfl (Zh ?_))))))
   cases hp
   exact ⟨rfl,P,af,rfl,rfl,(q.pk [0])⟩
  ·refine Zbo (zK ?_)
   cases hp
   exact ⟨nofun,rfl,ae,(q.pk [])⟩
 rintro sum1 hp _ bb aU ⟨rfl,aK,aA⟩
 refine Zaw (Zo (Zk (Zb _ aK (Zb (.n sum1) rfl (Ze (Zav ?_))))))
 refine z8 (Zag rfl ZQ) ?_
 cases hp
 exact ⟨rfl,(aA.pk [])⟩

theorem zP.ok {h:Hp} {t:List Int} {v_t:V} (s_t:Sl zM h v_t t) {r:Zp × Zp × Bool} (hp:zP t=some r) :
  ∃ u k',Is G 25 [v_t] h u k'∧V.tu [.ag (Zm.c r.1),.ag (Zm.c r.2.1),.b r.2.2]=u∧Own (fun r=>r < h.n) h k' []:=by
 refine WC.is (ZaP Zes ?_)
 unfold zP at hp
 let B:Nat→Prop:=(fun r=>r < h.n)
 have hO:Own B h h []:=Own.start0 h
 refine Zk (zw (hO.alloc (cs:=Zm.c (⟨0,0⟩:Zp)) hO.fr) ?_)
 rintro _ aI ⟨a,rfl,aV,aC,R⟩
 refine zw (R.alloc (cs:=Zm.c (⟨0,0⟩:Zp)) R.fr) ?_
 rintro _ av ⟨d,rfl,aW,aD,S⟩
 refine Zb (.b false) rfl (Ze (Zk (Zb v_t rfl ?_)))
 obtain ⟨x,⟨a5,aN,ah,g,rfl,au⟩,hp⟩:=bdk hp fun _=>Zas.ok (h:=av)  (S.rd0 s_t.rd)
 refine ZaK rfl rfl ah ?_
 have ar:=S.call au rfl
 refine Zb g rfl (Ze (ZB (Zk (Zb (.n 0) rfl (Ze ?_)))))
 refine zX (Zb7 hp (fun i fr k=>fr 0=v_t∧fr 2=.p a 0∧fr 3=.p d 0∧fr 5=g∧fr 6=.n i∧Own B h k [zV a (Zm.c (⟨0,0⟩:Zp)),zV d (Zm.c (⟨0,0⟩:Zp)),eSl Zm g x]) (fun | .inl _,e,fr,k=>e=(.exit 0)∧fr 2=.p a 0∧fr 3=.p d 0∧Own B h k [zV a (Zm.c (⟨0,0⟩:Zp)),zV d (Zm.c (⟨0,0⟩:Zp))] | .inr (x1,x2),e,fr,k=>e=.ret∧fr 2=.p a 0∧fr 3=.p d 0∧fr 4=.b true∧Own B h k [zV a (Zm.c x1),zV d (Zm.c x2)]) ⟨rfl,rfl,rfl,rfl,rfl,(ar.pk [0,1,2])⟩ ?_ ?_)
 ·rintro i a2 aP ⟨ax,W,X,Y,aa,J⟩ aZ hp
  dsimp only [zP.s0] at hp
  refine ZB (Zk (Zb _ aa (Zb _ Y (Zc (Zak (J.sl 2 rfl) rfl) (Zc (zH rfl rfl) (Ze (zC hp rfl (fun ab hp=>?_) (fun ab hp=>?_))))))))
  ·refine Zat (ZB (zX (Zk (Zb (.n 0) rfl (Ze ?_)))))
   refine zX (Zb7 hp (fun k_ fr k=>fr 0=v_t∧fr 2=.p a 0∧fr 3=.p d 0∧fr 5=g∧fr 6=.n i∧fr 7=.n k_∧Own B h k [zV a (Zm.c (⟨0,0⟩:Zp)),zV d (Zm.c (⟨0,0⟩:Zp)),eSl Zm g x]) (fun | .inl _,e,fr,k=>e=(.exit 2)∧fr 0=v_t∧fr 2=.p a 0∧fr 3=.p d 0∧fr 5=g∧fr 6=.n i∧Own B h k [zV a (Zm.c (⟨0,0⟩:Zp)),zV d (Zm.c (⟨0,0⟩:Zp)),eSl Zm g x] | .inr x3,e,fr,k=>e=.ret∧fr 2=.p a 0∧fr 3=.p d 0∧fr 4=.b true∧Own B h k [zV a (Zm.c (gi x i.toNat)),zV d (Zm.c x3)]) ⟨ax,W,X,Y,aa,rfl,(J.pk [0,1,2])⟩ ?_ ?_)
   ·rintro k_ a4 L ⟨O,v,E,f,F,H,A⟩ a0 hp
    dsimp only [zP.s1] at hp
    refine ZB (Zk (Zb _ H (Zb _ f (Zc (Zak (A.sl 2 rfl) rfl) (Zc (zH rfl rfl) (Ze (zC hp rfl (fun ac hp=>?_) (fun ac hp=>?_))))))))
    ·refine Zat (ZB (zX (ZB (ZfG ?_))))
     have l:=A.bump 11
     have al:=Fresh.start L 11
     have aX:∀ {i:Nat},h.n≤L.n + i:=Nat.le_trans A.n (Nat.le_add_right _ _)
     refine Zbr _ O (Zbr _ f (Zbr _ F (ckk hp fun w hp=>z4 (zi (l.sl 2 rfl) rfl rfl w) (z4 (Zdu (l.sl 2 rfl) rfl (Zg w)) (Zbr _ f (Zbr _ H (ckk hp fun y hp=>?_)))))))
     refine z4 (zi (l.sl 2 rfl) rfl rfl y) (z4 (Zdu (l.sl 2 rfl) rfl (Zg y)) ?_)
     obtain ⟨x4,⟨a6,U,ai,rfl,T⟩,hp⟩:=bdk hp fun _=>zZ.ok (h:=(L.bump 11))  (l.rd0 s_t.rd)
     refine Zjv rfl rfl ai ?_
     have aG:=al.call T
     have s:=l.call T rfl
     refine Zbr (.n x4) rfl (ZcA ?_)
     refine And.intro ?_ ?_
     ·intro q hq
      simp only [List.mem_cons,List.not_mem_nil,or_false] at hq
      rcases hq with rfl
      ·refine Zao ?_ ?_
       ·exact (fun h=>nomatch h)
       ·exact (fun h=>nomatch h)
     refine Zo (Zk (Zb (.n x4) rfl (Zc (Zb0 rfl rfl) (Ze (zC hp rfl (fun ad hp=>?_) (fun ad hp=>?_))))))
     ·refine ZB (ZfG ?_)
      have m:=s.bump 11
      have am:=Fresh.start U 11
      have aY:∀ {i:Nat},h.n≤U.n + i:=Nat.le_trans s.n (Nat.le_add_right _ _)
      refine Zbr _ f (Zbr _ F (z4 (zi (m.sl 2 rfl) rfl rfl w) (z4 (Zdu (m.sl 2 rfl) rfl (Zg w)) (Zbr _ f (Zbr _ H (z4 (zi (m.sl 2 rfl) rfl rfl y) (z4 (Zdu (m.sl 2 rfl) rfl (Zg y)) (Ze8 (m.stb (cs':=Zm.c (gi x i.toNat)) 0 rfl v rfl rfl ⟨rfl,Nat.le_of_ble_eq_true rfl,rfl⟩ rfl) ?_))))))))
      rintro _ aJ a7 ⟨rfl,aj,aR,ao⟩
      have an:=am.kept aj (by decide)
      refine Ze8 (ao.stb (cs':=Zm.c (gi x k_.toNat)) 1 rfl E rfl rfl ⟨rfl,Nat.le_of_ble_eq_true rfl,rfl⟩ rfl) ?_
      rintro _ aK a8 ⟨rfl,ak,aS,ap⟩
      have aH:=an.kept ak (by decide)
      refine Zbr (.b true) rfl (ZcA ?_)
      refine And.intro ?_ ?_
      ·intro q hq
       simp only [List.mem_cons,List.not_mem_nil,or_false] at hq
       rcases hq with rfl | rfl
       ·refine Zao ?_ ?_
        ·exact (fun h=>nomatch h)
        ·exact (fun h=>nomatch h)
       ·refine Zk4 ?_ ?_ ?_
        ·exact (fun r h1 h2=>s.apartAt (i:=2) (j:=0) rfl rfl (by decide) r (Zc7 (tch (Zcp h1) rfl)) (tch (ZkN h2) v))
        ·exact (fun h=>nomatch h)
        ·exact (fun _ hm=>Nat.lt_irrefl _ (Nat.lt_of_lt_of_le (s.ltAt 2 rfl _ (Zc7 (tch (Zcp hm) rfl))) (Nat.le_add_right _ _)))
      refine Zo (Zav (Zbw (zE ?_)))
      cases hp
      exact ⟨nofun,rfl,v,E,rfl,(ap.pk [0,1])⟩
     ·refine Zc1 (Zaa (Zo (zD (Zb _ H (ckk hp fun ae hp=>Zc (zf rfl rfl ae) (Zb (.n (k_ + 1)) rfl (Zh ?_)))))))
      cases hp
      exact ⟨rfl,O,v,E,f,F,rfl,(s.pk [0,1,2])⟩
    ·refine Zbo (zK ?_)
     cases hp
     exact ⟨nofun,rfl,O,v,E,f,F,(A.pk [0,1,2])⟩
   rintro (_ | x3) hp _ a3 aQ Q
   ·obtain ⟨rfl,ay,M,N,aA,aB,K⟩:=Q
    refine Zaw (Zaa (Zo (zD (Zb _ aB (ckk hp fun af hp=>Zc (zf rfl rfl af) (Zb (.n (i + 1)) rfl (Zh ?_)))))))
    cases hp
    exact ⟨rfl,ay,M,N,aA,rfl,(K.pk [0,1,2])⟩
   ·obtain ⟨rfl,M,N,az,K⟩:=Q
    refine Zbw (Zbw (zE ?_))
    cases hp
    exact ⟨nofun,rfl,M,N,az,(K.pk [0,1])⟩
  ·refine Zbo (zK ?_)
   cases hp
   exact ⟨nofun,rfl,W,X,(J.pk [0,1])⟩
 rintro (_ | ⟨x1,x2⟩) hp _ a1 aO P
 ·obtain ⟨rfl,C,D,o⟩:=P
  refine Zaw (Zo (Zk (Zc (Zcx (cs:=Zm.c (⟨(0:Int),(0:Int)⟩:Zp)) (by rw [ZaH]; rfl)) (Zc (Zcx (cs:=Zm.c (⟨(0:Int),(0:Int)⟩:Zp)) (by rw [ZaH]; rfl)) (zw (o.stb (cs':=Zm.c (⟨(0:Int),(0:Int)⟩:Zp)) 0 rfl C rfl rfl ⟨rfl,Nat.le_of_ble_eq_true rfl,rfl⟩ rfl) ?_)))))
  rintro _ aL ⟨rfl,aE,aT,aq⟩
  refine zw (aq.stb (cs':=Zm.c (⟨(0:Int),(0:Int)⟩:Zp)) 1 rfl D rfl rfl ⟨rfl,Nat.le_of_ble_eq_true rfl,rfl⟩ rfl) ?_
  rintro _ aM ⟨rfl,aF,aU,I⟩
  refine Zb (.b false) rfl (Ze (Zav (z8 (Zgb C (I.box 0 rfl) rfl (Zgb D (I.box 1 rfl) rfl (Zag rfl ZQ))) ?_)))
  cases hp
  exact ⟨rfl,(I.pk [])⟩
 ·obtain ⟨rfl,C,D,aw,o⟩:=P
  refine Zbw (zE (z8 (Zgb C (o.box 0 rfl) rfl (Zgb D (o.box 1 rfl) rfl (Zag aw ZQ))) ?_))
  cases hp
  exact ⟨rfl,(o.pk [])⟩

end Mu
