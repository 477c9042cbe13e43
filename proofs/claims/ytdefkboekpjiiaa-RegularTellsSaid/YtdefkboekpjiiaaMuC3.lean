/- The code comes to what was worked out. -/
import Derived.Test.YtdefkboekpjiiaaMuDf
import Derived.Test.YtdefkboekpjiiaaMuPa
import Derived.Test.YtdefkboekpjiiaaMuC2
set_option linter.unusedVariables false
set_option linter.unnecessarySimpa false
set_option linter.unusedSimpArgs false
set_option maxHeartbeats 2000000
set_option maxRecDepth 10000
namespace Mu
open Go (IntKind BinOp UnOp)
theorem Zak.ok {h:Hp} {l:List Za} {v_l:V} (s_l:Sl Zd h v_l l) {r:(List Za)} (hp:Zak l=some r) :
  ∃ u k',Is G 215 [v_l] h u k'∧∃ R,R=u∧Own (fun r=>r < h.n) h k' [eSl Zd R r]:=by
 refine WC.is (ZaP Ze3 ?_)
 unfold Zak at hp
 let B:Nat→Prop:=(fun r=>r < h.n)
 have hO:Own B h h []:=Own.start0 h
 refine Zi (Zb (.sn) rfl (Ze (Zi (Zb (.sn) rfl (Zg ?_)))))
 refine Zo (ZB (Zi (Zb (.n 0) rfl (Ze (Zaa ?_)))))
 have af:=hO.nil Zd
 refine Zb7 hp (fun | (out,i),fr,k=>∃ m,fr 0=v_l∧fr 3=m∧fr 4=.n i∧Own B h k [eSl Zd m out]) (fun out1 e fr k=>e=(.exit 0)∧∃ y,fr 3=y∧Own B h k [eSl Zd y out1]) ⟨V.sn,rfl,rfl,rfl,(af.pk [0])⟩ ?_ ?_
 ·rintro ⟨out,i⟩ aQ aC ⟨m,H,Q,I,q⟩ aN hp
  dsimp only [Zak.s0] at hp
  refine ZB (Zi (Zb _ I (Zb _ H (Zc (Zae (q.rd0 s_l.rd) rfl) (Zc (zF rfl rfl) (Ze (zD hp rfl (fun T hp=>?_) (fun T hp=>?_))))))))
  ·refine Zas (ZB (Zaa (Zi (Zb _ H (Zb _ I (ckk hp fun M hp=>?_))))))
   refine Zc (ZZ (q.rd0 s_l.rd) rfl rfl M) (Zc (Zdb (q.rd0 s_l.rd) rfl (Zf M)) (zz (q.alloc (cs:=Zd.c (⟨⟨0,0,0,0⟩,⟨0,0,0,0⟩⟩:Za)) q.fr) ?_))
   rintro _ aD ⟨j,rfl,aM,ar,ah⟩
   refine zz (ah.stb (cs':=Zd.c (gi l i.toNat)) 1 rfl rfl rfl rfl ⟨rfl,Nat.le_of_ble_eq_true rfl,rfl⟩ rfl) ?_
   rintro _ aE ⟨rfl,au,aJ,ai⟩
   refine Ze (ZB (Zi (Zb (.n 0) rfl (Ze (Zaa (Zb7 hp (fun | (c,d),fr,k=>fr 0=v_l∧fr 3=m∧fr 4=.n i∧fr 5=.p j 0∧fr 6=.n d∧Own B h k [eSl Zd m out,zP j (Zd.c c)]) (fun c1 e fr k=>e=(.exit 2)∧fr 0=v_l∧fr 3=m∧fr 4=.n i∧fr 5=.p j 0∧Own B h k [eSl Zd m out,zP j (Zd.c c1)]) ⟨H,Q,I,rfl,rfl,(ai.pk [0,1])⟩ ?_ ?_))))))
   ·rintro ⟨c,d⟩ aS al ⟨J,K,L,t,x,s⟩ aO hp
    dsimp only [Zak.s1] at hp
    refine ZB (Zi (Zb _ x (Zc (zF rfl rfl) (Ze (zD hp rfl (fun U hp=>?_) (fun U hp=>?_))))))
    ·refine Zas (ZB (Zaa (Zi (Zb _ x (Zc (zG (r:=j) (o:=0) t rfl) (ckk hp fun g hp=>?_))))))
     refine Zc (Ze7 (o:=0) (o':=(0 + d.toNat * 1)) rfl rfl g rfl) (Zc (ZU (s.box 1 rfl) rfl (zx g)) (Zc (ZcV rfl rfl) (Zb (.b (decide (0≤(c.Next.get d)))) rfl (zK 6 (fun f k=>al=k∧f 32=.b ((decide (0≤(c.Next.get d))) && (decide (c.Owner.get d=(-2))))∧f 0=v_l∧f 3=m∧f 4=.n i∧f 5=.p j 0∧f 6=.n d) ?_ ?_))))
     ·rcases bc (decide (0≤(c.Next.get d))) with a | a
      ·refine Zp rfl a (Zb _ x (Zp rfl a (Zc (zG (r:=j) (o:=0) t rfl) (Zp rfl a (Zc (Ze7 (o:=4) (o':=(4 + d.toNat * 1)) rfl rfl g rfl) (Zp rfl a (Zc (ZU (s.box 1 rfl) rfl (Zcs g)) (Zp rfl a ?_))))))))
       refine Zc (Zbl rfl rfl) (Zc (ZcN rfl a rfl) (Zg ?_))
       exact ⟨rfl,rfl,J,K,L,t,x⟩
      ·refine Zh rfl a (Zh rfl a (Zh rfl a (Zh rfl a (Zh rfl a (Zc (ZcM (w:=(decide (0≤(c.Next.get d))) && (decide (c.Owner.get d=(-2)))) rfl a rfl) (Zg ?_))))))
       exact ⟨rfl,rfl,J,K,L,t,x⟩
     rintro az _ ⟨rfl,ac,N,O,P,A,C⟩
     refine Ze (zD hp ac (fun W hp=>?_) (fun W hp=>?_))
     ·refine Zi (Zb _ C (Zc (zG (r:=j) (o:=0) A rfl) (Zc (Ze7 (o:=0) (o':=(0 + d.toNat * 1)) rfl rfl g rfl) (zz (s.stb (cs':=Zd.c ({ c with Next:=c.Next.set d (-1) })) 1 rfl rfl rfl rfl ⟨rfl,(by have:=g; exact (show 0 + d.toNat * 1 + 1≤8 by omega)),rfl⟩ (Zcj g)) ?_))))
      rintro _ aG ⟨rfl,av,aK,aj⟩
      refine Ze (zI (Zb _ C (Zc (zG (r:=j) (o:=0) A rfl) (Zc (Ze7 (o:=4) (o':=(4 + d.toNat * 1)) rfl rfl g rfl) (zz (aj.stb (cs':=Zd.c ({ { c with Next:=c.Next.set d (-1) } with Owner:=(({ c with Next:=c.Next.set d (-1) }).Owner).set d 0 })) 1 rfl rfl rfl rfl ⟨rfl,(by have:=g; exact (show 4 + d.toNat * 1 + 1≤8 by omega)),rfl⟩ (Zcu g)) ?_)))))
      rintro _ aH ⟨rfl,aw,aL,ak⟩
      refine Zg (Zaf (Zo (zI (Zb _ C (ckk hp fun X hp=>Zc (zc rfl rfl X) (Zb (.n (d + 1)) rfl (Zg ?_)))))))
      cases hp
      exact ⟨rfl,N,O,P,A,rfl,(ak.pk [0,1])⟩
     ·refine Zc2 (Zaf (Zo (zI (Zb _ C (ckk hp fun Y hp=>Zc (zc rfl rfl Y) (Zb (.n (d + 1)) rfl (Zg ?_)))))))
      cases hp
      exact ⟨rfl,N,O,P,A,rfl,(s.pk [0,1])⟩
    ·refine Zbq (zM ?_)
     cases hp
     exact ⟨nofun,rfl,J,K,L,t,(s.pk [0,1])⟩
   rintro c1 hp _ aR aF ⟨rfl,an,ao,ap,aq,F⟩
   refine Zav (Zo (zI (Zb _ ao (Zc (Zbz (F.box 1 rfl) aq rfl) (zz (F.bsl (E:=Zd) (l:=[c1]) F.fr (by rw [(zp (v:=.ag (Zd.c c1)) rfl ZaN)]; rfl) rfl) ?_)))))
   rintro aU aI ⟨aT,ax,D⟩
   refine ckk hp fun aa hp=>zz (D.app (bytes:=64) 0 D.fr rfl (D.sl 2 rfl) rfl rfl (fun _=>rfl) aa (by decide)) ?_
   rintro S aB ⟨ay,ae⟩
   refine Zb S rfl (Zg (Zaf (Zo (zI (Zb _ ap (ckk hp fun ab hp=>Zc (zc rfl rfl ab) (Zb (.n (i + 1)) rfl ?_)))))))
   refine Zg ?_
   cases hp
   exact ⟨rfl,S,an,rfl,rfl,(ae.pk [0])⟩
  ·refine Zbq (zM ?_)
   cases hp
   exact ⟨nofun,rfl,m,Q,(q.pk [0])⟩
 rintro out1 hp _ aP aA ⟨rfl,y,am,ad⟩
 refine Zav (Zo (Zi (Zb _ am (Zb y rfl (Ze (Zar ?_))))))
 refine z4 (zX rfl ZK) ?_
 cases hp
 exact ⟨y,rfl,(ad.pk [0])⟩

theorem zi.ok {h:Hp} {l:List Za} {v:Int} {v_l:V} (s_l:Sl Zd h v_l l) {r:(List Int)} (hp:zi l v=some r) :
  ∃ u k',Is G 36 [v_l,.n v] h u k'∧∃ an,an=u∧Own (fun r=>r < h.n) h k' [eSl zT an r]:=by
 refine WC.is (ZaP ZeE ?_)
 unfold zi at hp
 let B:Nat→Prop:=(fun r=>r < h.n)
 have hO:Own B h h []:=Own.start0 h
 refine Zi (Zb (.sn) rfl (Ze (Zi (Zb v_l rfl (Zc (Zae (hO.rd0 s_l.rd) rfl) ?_)))))
 refine ckk hp fun av hp=>zz (hO.mks (E:=zT) (y:=(0:Int)) (bytes:=8) (z:=(l.length:Int)) hO.fr rfl rfl rfl av (by decide)) ?_
 rintro a a3 ⟨bu,aX,aF⟩
 refine Zb a rfl (Ze (ZB (Zi (Zb (.n 0) rfl (Ze ?_)))))
 refine Zaa (Zb7 hp (fun | (far,i),fr,k=>fr 0=v_l∧fr 1=.n v∧fr 5=a∧fr 6=.n i∧Own B h k [eSl zT a far]) (fun far1 e fr k=>e=(.exit 0)∧fr 0=v_l∧fr 1=.n v∧fr 5=a∧Own B h k [eSl zT a far1]) ⟨rfl,rfl,rfl,rfl,(aF.pk [0])⟩ ?_ ?_)
 ·rintro ⟨far,i⟩ bn a7 ⟨K,ag,L,M,p⟩ bi hp
  dsimp only [zi.s0] at hp
  refine ZB (Zi (Zb _ M (Zb _ K (Zc (Zae (p.rd0 s_l.rd) rfl) (Zc (zF rfl rfl) (Ze (zD hp rfl (fun ao hp=>?_) (fun ao hp=>?_))))))))
  ·refine Zas (ZB (Zaa (zI (Zb _ L (Zb _ M (ckk hp fun P hp=>Zc (ZZ (p.sl 0 rfl) rfl rfl P) ?_))))))
   refine zz (p.ste (y:=(-1)) 0 rfl rfl (Zf P) rfl rfl ⟨rfl,Nat.le_of_ble_eq_true rfl,rfl⟩ rfl) ?_
   rintro _ a8 ⟨rfl,aY,bf,aI⟩
   refine Zg (Zaf (Zo (zI (Zb _ M (ckk hp fun aA hp=>Zc (zc rfl rfl aA) (Zb (.n (i + 1)) rfl (Zg ?_)))))))
   cases hp
   exact ⟨rfl,K,ag,L,rfl,(aI.pk [0])⟩
  ·refine Zbq (zM ?_)
   cases hp
   exact ⟨nofun,rfl,K,ag,L,(p.pk [0])⟩
 rintro far1 hp _ bm a6 ⟨rfl,aN,aO,af,ad⟩
 refine Zav (Zo (Zi (Zb _ af (Zb _ aO (ckk hp fun Q hp=>Zc (ZZ (ad.sl 0 rfl) rfl rfl Q) (zz (ad.ste (y:=0) 0 rfl rfl (Zf Q) rfl rfl ⟨rfl,Nat.le_of_ble_eq_true rfl,rfl⟩ rfl) ?_))))))
 rintro _ a9 ⟨rfl,aZ,bg,aJ⟩
 refine Ze (ZB (Zi (Zb (.n 0) rfl (Ze (Zaa (Zb7 hp (fun | (far2,round),fr,k=>fr 0=v_l∧fr 5=a∧fr 7=.n round∧Own B h k [eSl zT a far2]) (fun far3 e fr k=>e=(.exit 2)∧fr 5=a∧Own B h k [eSl zT a far3]) ⟨aN,af,rfl,(aJ.pk [0])⟩ ?_ ?_))))))
 ·rintro ⟨far2,round⟩ bp bb ⟨ah,ai,aj,I⟩ bj hp
  dsimp only [zi.s1] at hp
  refine ZB (Zi (Zb _ aj (Zb _ ah (Zc (Zae (I.rd0 s_l.rd) rfl) (Zc (zF rfl rfl) (Ze (zD hp rfl (fun ap hp=>?_) (fun ap hp=>?_))))))))
  ·refine Zas (ZB (Zaa (Zi (Zb (.n 0) rfl (Ze ?_)))))
   refine Zaa (Zb7 hp (fun | (far4,i1),fr,k=>fr 0=v_l∧fr 5=a∧fr 7=.n round∧fr 8=.n i1∧Own B h k [eSl zT a far4]) (fun far5 e fr k=>e=(.exit 4)∧fr 0=v_l∧fr 5=a∧fr 7=.n round∧Own B h k [eSl zT a far5]) ⟨ah,ai,aj,rfl,(I.pk [0])⟩ ?_ ?_)
   ·rintro ⟨far4,i1⟩ br be ⟨N,ak,al,am,J⟩ bk hp
    dsimp only [zi.s2] at hp
    refine ZB (Zi (Zb _ am (Zb _ N (Zc (Zae (J.rd0 s_l.rd) rfl) (Zc (zF rfl rfl) (Ze (zD hp rfl (fun aq hp=>?_) (fun aq hp=>?_))))))))
    ·refine Zas (ZB (Zaa (Zi (Zb (.n 0) rfl (Ze ?_)))))
     refine Zaa (Zb7 hp (fun | (far6,d),fr,k=>fr 0=v_l∧fr 5=a∧fr 7=.n round∧fr 8=.n i1∧fr 9=.n d∧Own B h k [eSl zT a far6]) (fun far7 e fr k=>e=(.exit 6)∧fr 0=v_l∧fr 5=a∧fr 7=.n round∧fr 8=.n i1∧Own B h k [eSl zT a far7]) ⟨N,ak,al,am,rfl,(J.pk [0])⟩ ?_ ?_)
     ·rintro ⟨far6,d⟩ bt ae ⟨q,s,x,m,A,g⟩ bl hp
      dsimp only [zi.s3] at hp
      refine ZB (Zi (Zb _ A (Zc (zF rfl rfl) (Ze (zD hp rfl (fun ar hp=>?_) (fun ar hp=>?_))))))
      ·refine Zas (ZB (Zaa (Zi (Zb _ q (Zb _ m (Zb _ A ?_))))))
       refine ckk hp fun o hp=>Zc (ZZ (g.rd0 s_l.rd) rfl rfl o) (Zc (Zbo (g.rd0 s_l.rd) (Zf o) rfl rfl) (ckk hp fun R hp=>Zc (ZaZ (g.rd0 s_l.rd) (Zf o) rfl rfl R rfl) (Zc (zN (g.rd0 s_l.rd) rfl (Zf o) (zx R)) (Zb (.n (((gi l i1.toNat).Next).get d)) rfl (Ze ?_)))))
       refine Zi (Zb _ s (Zb _ m (ckk hp fun S hp=>Zc (ZZ (g.sl 0 rfl) rfl rfl S) (Zc (zN (g.sl 0 rfl) rfl (Zf S) rfl) (Zb _ x (Zc (Zbl rfl rfl) ?_))))))
       refine Zb (.b (decide (gi far6 i1.toNat=round))) rfl (zK 3 (fun f k=>ae=k∧f 58=.b ((decide (gi far6 i1.toNat=round)) && (decide (0≤(((gi l i1.toNat).Next).get d))))∧f 0=v_l∧f 10=.n (((gi l i1.toNat).Next).get d)∧f 5=a∧f 7=.n round∧f 8=.n i1∧f 9=.n d) ?_ ?_)
       ·rcases bc (decide (gi far6 i1.toNat=round)) with j | j
        ·refine Zp rfl j (Zb (.n (((gi l i1.toNat).Next).get d)) rfl (Zp rfl j (Zc (ZcV rfl rfl) (Zc (ZcN rfl j rfl) (Zg ?_)))))
         exact ⟨rfl,rfl,q,rfl,s,x,m,A⟩
        ·refine Zh rfl j (Zh rfl j (Zc (ZcM (w:=(decide (gi far6 i1.toNat=round)) && (decide (0≤(((gi l i1.toNat).Next).get d)))) rfl j rfl) (Zg ?_)))
         exact ⟨rfl,rfl,q,rfl,s,x,m,A⟩
       rintro a1 _ ⟨rfl,aC,U,C,D,W,X,Y⟩
       refine Zb _ aC ?_
       obtain ⟨t,aM,hp⟩:=ZaH hp
       refine zK 7 (fun f k=>ae=k∧f 66=.b t∧f 0=v_l∧f 10=.n (((gi l i1.toNat).Next).get d)∧f 5=a∧f 7=.n round∧f 8=.n i1∧f 9=.n d) ?_ ?_
       ·clear hp; rcases ZaR aM with ⟨c,hp⟩ | ⟨c,hp⟩
        ·refine Zp rfl c (Zb _ D (Zp rfl c (Zb _ C (Zp rfl c (Zc (Zor rfl rfl) (Zp rfl c (ckk hp fun T hp=>Zc (ZZ (g.sl 0 rfl) rfl rfl T) ?_)))))))
         refine Zp rfl c (Zc (zN (g.sl 0 rfl) rfl (Zf T) rfl) (Zp rfl c (Zc (zF rfl rfl) (Zc (ZaF (v:=.b t) rfl c (Eq.trans (b:=V.b (decide ((gi far6 (max (((gi l i1.toNat).Next).get d) 0:Int).toNat) < 0))) rfl (congrArg V.b (Option.some.inj hp)))) (Zg ?_)))))
         exact ⟨rfl,rfl,U,C,D,W,X,Y⟩
        ·refine Zh rfl c (Zh rfl c (Zh rfl c (Zh rfl c (Zh rfl c (Zh rfl c (Zc (Za5 (v:=.b t) rfl c (Eq.trans (b:=V.b false) rfl (congrArg V.b (Option.some.inj hp)))) (Zg ?_)))))))
         exact ⟨rfl,rfl,U,C,D,W,X,Y⟩
       rintro a2 _ ⟨rfl,aE,aa,aD,F,H,ab,ac⟩
       refine Ze (zD hp aE (fun au hp=>?_) (fun au hp=>?_))
       ·refine zI (Zb _ F (Zb _ aD (Zb _ H (ckk hp fun aB hp=>Zc (zc rfl rfl aB) (ckk hp fun O hp=>Zc (ZZ (g.sl 0 rfl) rfl rfl O) (zz (g.ste (y:=(round + 1)) 0 rfl rfl (Zf O) rfl rfl ⟨rfl,Nat.le_of_ble_eq_true rfl,rfl⟩ rfl) ?_))))))
        rintro _ a5 ⟨rfl,a0,bh,aH⟩
        refine Zg (Zaf (Zo (zI (Zb _ ac (ckk hp fun aw hp=>Zc (zc rfl rfl aw) (Zb (.n (d + 1)) rfl (Zg ?_)))))))
        cases hp
        exact ⟨rfl,aa,F,H,ab,rfl,(aH.pk [0])⟩
       ·refine Zc2 (Zaf (Zo (zI (Zb _ ac (ckk hp fun ax hp=>Zc (zc rfl rfl ax) (Zb (.n (d + 1)) rfl (Zg ?_)))))))
        cases hp
        exact ⟨rfl,aa,F,H,ab,rfl,(g.pk [0])⟩
      ·refine Zbq (zM ?_)
       cases hp
       exact ⟨nofun,rfl,q,s,x,m,(g.pk [0])⟩
     rintro far7 hp _ bs a4 ⟨rfl,aT,aU,aV,aW,aG⟩
     refine Zav (Zaf (Zo (zI (Zb _ aW (ckk hp fun ay hp=>Zc (zc rfl rfl ay) (Zb (.n (i1 + 1)) rfl (Zg ?_)))))))
     cases hp
     exact ⟨rfl,aT,aU,aV,rfl,(aG.pk [0])⟩
    ·refine Zbq (zM ?_)
     cases hp
     exact ⟨nofun,rfl,N,ak,al,(J.pk [0])⟩
   rintro far5 hp _ bq bd ⟨rfl,aQ,aR,aS,aL⟩
   refine Zav (Zaf (Zo (zI (Zb _ aS (ckk hp fun az hp=>Zc (zc rfl rfl az) (Zb (.n (round + 1)) rfl (Zg ?_)))))))
   cases hp
   exact ⟨rfl,aQ,aR,rfl,(aL.pk [0])⟩
  ·refine Zbq (zM ?_)
   cases hp
   exact ⟨nofun,rfl,ai,(I.pk [0])⟩
 rintro far3 hp _ bo ba ⟨rfl,aP,aK⟩
 refine Zav (Zo (Zi (Zb _ aP (Zb a rfl (Ze (Zar ?_))))))
 refine z4 (zX rfl ZK) ?_
 cases hp
 exact ⟨a,rfl,(aK.pk [0])⟩

theorem zY.ok {h:Hp} {l:List Za} {v_l:V} (s_l:Sl Zd h v_l l) {r:(List (List Int))} (hp:zY l=some r) :
  ∃ u k',Is G 30 [v_l] h u k'∧∃ S W,S=u∧Own (fun r=>r < h.n) h k' [eSl eV S W,ZbW zT W r]:=by
 refine WC.is (ZaP Zee ?_)
 unfold zY at hp
 let B:Nat→Prop:=(fun r=>r < h.n)
 have hO:Own B h h []:=Own.start0 h
 refine Zi (Zb (.sn) rfl (Ze (Zi (Zb v_l rfl (Zc (Zae (hO.rd0 s_l.rd) rfl) ?_)))))
 refine ckk hp fun ac hp=>zz (hO.mks (E:=e_bool) (y:=false) (bytes:=1) (z:=(l.length:Int)) hO.fr rfl rfl rfl ac (by decide)) ?_
 rintro f aJ ⟨a0,aD,ak⟩
 refine Zb f rfl (Ze (Zi (Zb (.sn) rfl (Ze (ZB ?_)))))
 refine Zi (Zb (.n 0) rfl (Ze (Zaa ?_)))
 have ap:=ak.nil eV
 have aq:=ap.allNil zT 0
 refine Zb7 hp (fun | (in_,out,v),fr,k=>∃ b a,fr 0=v_l∧fr 3=f∧fr 4=b∧fr 5=.n v∧Own B h k [eSl e_bool f in_,eSl eV b a,ZbW zT a out]) (fun out1 e fr k=>e=(.exit 0)∧∃ o C,fr 4=o∧Own B h k [eSl eV o C,ZbW zT C out1]) ⟨V.sn,[],rfl,rfl,rfl,rfl,(aq.pk [0,1,2])⟩ ?_ ?_
 ·rintro ⟨in_,out,v⟩ aX aw ⟨b,a,s,H,I,m,c⟩ aU hp
  dsimp only [zY.s0] at hp
  refine ZB (Zi (Zb _ m (Zb _ s (Zc (Zae (c.rd0 s_l.rd) rfl) (Zc (zF rfl rfl) (Ze (zD hp rfl (fun X hp=>?_) (fun X hp=>?_))))))))
  ·refine Zas (ZB (Zaa (ZB (Zi (Zb _ H (Zb _ m ?_))))))
   refine ckk hp fun O hp=>Zc (ZZ (c.sl 0 rfl) rfl rfl O) (Zc (zN (c.sl 0 rfl) rfl (Zf O) rfl) (Ze (zD hp rfl (fun Y hp=>?_) (fun Y hp=>?_))))
   ·refine Zbq (zM (Zav (Zo (zI (Zb _ m (ckk hp fun ae hp=>Zc (zc rfl rfl ae) (Zb (.n (v + 1)) rfl ?_)))))))
    refine Zg ?_
    cases hp
    exact ⟨rfl,b,a,s,H,I,rfl,(c.pk [0,1,2])⟩
   ·refine Zas (Zi (Zb _ s (Zb _ m ?_)))
    obtain ⟨x,⟨a3,aN,aj,N,rfl,av⟩,hp⟩:=bdk hp fun _=>zi.ok (h:=aw)  (c.rd0 s_l.rd)
    refine ZaI rfl rfl aj ?_
    have ar:=c.call av rfl
    refine Zb N rfl (Ze (Zi (Zb (.sn) rfl (Ze (ZB ?_)))))
    refine Zi (Zb (.n 0) rfl (Ze (Zaa ?_)))
    have au:=ar.nil zT
    refine Zb7 hp (fun | (in_1,p,w),fr,k=>∃ q,fr 0=v_l∧fr 3=f∧fr 4=b∧fr 5=.n v∧fr 6=N∧fr 7=q∧fr 8=.n w∧Own B h k [eSl e_bool f in_1,eSl eV b a,ZbW zT a out,eSl zT N x,eSl zT q p]) (fun | (in_2,p1),e,fr,k=>e=(.exit 2)∧∃ i,fr 0=v_l∧fr 3=f∧fr 4=b∧fr 5=.n v∧fr 7=i∧Own B h k [eSl e_bool f in_2,eSl eV b a,ZbW zT a out,eSl zT i p1]) ⟨V.sn,s,H,I,m,rfl,rfl,rfl,(au.pk [0,1,2,3,4])⟩ ?_ ?_
    ·rintro ⟨in_1,p,w⟩ aZ aP ⟨q,t,A,J,K,L,M,g,d⟩ aV hp
     dsimp only [zY.s1] at hp
     refine ZB (Zi (Zb _ g (Zb _ t (Zc (Zae (d.rd0 s_l.rd) rfl) (Zc (zF rfl rfl) (Ze (zD hp rfl (fun aa hp=>?_) (fun aa hp=>?_))))))))
     ·refine Zas (ZB (Zaa (Zi (Zb _ L (Zb _ g (ckk hp fun P hp=>?_))))))
      refine Zc (ZZ (d.sl 3 rfl) rfl rfl P) (Zc (zN (d.sl 3 rfl) rfl (Zf P) rfl) (Zc (ZcV rfl rfl) (Ze (zD hp rfl (fun ab hp=>?_) (fun ab hp=>?_)))))
      ·refine Zi (Zb _ A (Zb _ g (ckk hp fun Q hp=>Zc (ZZ (d.sl 0 rfl) rfl rfl Q) (zz (d.ste (y:=true) 0 rfl rfl (Zf Q) rfl rfl ⟨rfl,Nat.le_of_ble_eq_true rfl,rfl⟩ rfl) ?_))))
       rintro _ aQ ⟨rfl,aE,aT,R⟩
       refine Ze (zI (Zb _ M (Zb _ g (zz (R.bsl (E:=zT) (l:=[w]) R.fr (by rw [(zp (v:=.n w) rfl ZaN)]; rfl) rfl) ?_))))
       rintro a5 aR ⟨a1,aF,D⟩
       refine ckk hp fun af hp=>zz (D.app (bytes:=8) 4 D.fr rfl (D.sl 5 rfl) rfl rfl (fun _=>rfl) af (by decide)) ?_
       rintro U aS ⟨aG,al⟩
       refine Zb U rfl (Zg (Zaf (Zo (zI (Zb _ g (ckk hp fun ag hp=>Zc (zc rfl rfl ag) (Zb (.n (w + 1)) rfl ?_)))))))
       refine Zg ?_
       cases hp
       exact ⟨rfl,U,t,A,J,K,L,rfl,rfl,(al.pk [0,1,2,3,4])⟩
      ·refine Zc2 (Zaf (Zo (zI (Zb _ g (ckk hp fun ah hp=>Zc (zc rfl rfl ah) (Zb (.n (w + 1)) rfl (Zg ?_)))))))
       cases hp
       exact ⟨rfl,q,t,A,J,K,L,M,rfl,(d.pk [0,1,2,3,4])⟩
     ·refine Zbq (zM ?_)
      cases hp
      exact ⟨nofun,rfl,q,t,A,J,K,M,(d.pk [0,1,2,4])⟩
    rintro ⟨in_2,p1⟩ hp _ aY aO ⟨rfl,i,ay,az,aA,aB,aC,F⟩
    refine Zav (Zo (zI (Zb _ aA (Zb _ aC (zz (F.bsl (E:=eV) (l:=[i]) F.fr (by rw [(zp (v:=i) rfl ZaN)]; simp only [fill,(F.sl 3 rfl).cells]; simp [over]) rfl) ?_)))))
    rintro a4 aK ⟨a2,aH,j⟩
    refine ckk hp fun ai hp=>zz (j.appV (bytes:=24) 1 j.fr rfl (j.sl 4 rfl) rfl rfl (by simp only [List.all_cons,List.all_nil,Bool.and_true]; exact (j.sl 3 rfl).oneV) (by rw [(j.allLen 2 rfl:(a).length=(out).length)]; exact ai) (by decide)) ?_
    rintro T aL ⟨aI,am⟩
    have an:=am.absorb 2 3 rfl rfl (by decide)
    refine Zb T rfl (Zg (Zaf (Zo (zI (Zb _ aB (ckk hp fun ad hp=>Zc (zc rfl rfl ad) (Zb (.n (v + 1)) rfl ?_)))))))
    refine Zg ?_
    cases hp
    exact ⟨rfl,T,a++[i],ay,az,rfl,rfl,(an.pk [0,1,2])⟩
  ·refine Zbq (zM ?_)
   cases hp
   exact ⟨nofun,rfl,b,a,I,(c.pk [1,2])⟩
 rintro out1 hp _ aW aM ⟨rfl,o,C,ax,ao⟩
 refine Zav (Zo (Zi (Zb _ ax (Zb o rfl (Ze (Zar ?_))))))
 refine z4 (zX rfl ZK) ?_
 cases hp
 exact ⟨o,C,rfl,(ao.pk [0,1])⟩

theorem Zat.ok {h:Hp} {l:List Za} {d:Zz} {v_l:V} (s_l:Sl Zd h v_l l) {r:Zz} (hp:Zat l d=some r) :
  ∃ u k',Is G 202 [v_l,.ag (Zl.c d)] h u k'∧V.ag (Zl.c r)=u∧Own (fun r=>r < h.n) h k' []:=by
 refine WC.is (ZaP ZdM ?_)
 unfold Zat at hp
 let B:Nat→Prop:=(fun r=>r < h.n)
 have hO:Own B h h []:=Own.start0 h
 refine Zi (zz (hO.boxd (cs:=Zl.c d) hO.fr rfl rfl) ?_)
 rintro _ ad ⟨f,rfl,an,X,J⟩
 refine zz (J.alloc (cs:=Zl.c (⟨0,0⟩:Zz)) J.fr) ?_
 rintro _ ae ⟨g,rfl,ao,Y,S⟩
 refine Ze (ZB (ZhN ?_))
 have b:=S.bump 10
 refine Zbk v_l rfl (z3 rfl (zG (r:=f) (o:=0) rfl rfl) (z3 rfl (ZU (b.box 0 rfl) rfl rfl) (z3 rfl (zG (r:=f) (o:=0) rfl rfl) (z3 rfl (ZU (b.box 0 rfl) rfl rfl) (ckk hp fun m hp=>z3 rfl (ZZ (b.rd0 s_l.rd) rfl rfl m) (z3 rfl (Zbo (b.rd0 s_l.rd) (Zf m) rfl rfl) (ckk hp fun D hp=>?_)))))))
 refine z3 rfl (ZaZ (b.rd0 s_l.rd) (Zf m) rfl rfl D rfl) (z3 rfl (zN (b.rd0 s_l.rd) rfl (Zf m) (zx D)) (Zbk (.n (((gi l (d.Cell:Int).toNat).Next).get d.Dir)) rfl (Zbi (Zo (Zi (zz (b.bsl (E:=zT) (l:=([1,0,3,2]:List Int)) b.fr (by rw [(zp (v:=.n 1) rfl (zp (v:=.n 0) rfl (zp (v:=.n 3) rfl (zp (v:=.n 2) rfl ZaN))))]; rfl) rfl) ?_))))))
 rintro C af ⟨au,aa,T⟩
 refine Zb C rfl (Ze (ZB (Zi (Zb (.n 0) rfl (Ze ?_)))))
 refine Zaa (Zb7 hp (fun i fr k=>fr 0=v_l∧fr 3=.p f 0∧fr 4=.p g 0∧fr 5=.n (((gi l (d.Cell:Int).toNat).Next).get d.Dir)∧fr 6=C∧fr 7=.n i∧Own B h k [zP f (Zl.c d),zP g (Zl.c (⟨0,0⟩:Zz)),eSl zT C ([1,0,3,2]:List Int)]) (fun | .inl _,e,fr,k=>e=(.exit 0)∧fr 3=.p f 0∧fr 4=.p g 0∧Own B h k [zP f (Zl.c d),zP g (Zl.c (⟨0,0⟩:Zz))] | .inr x,e,fr,k=>e=.ret∧fr 4=.p g 0∧Own B h k [zP g (Zl.c x)]) ⟨rfl,rfl,rfl,rfl,rfl,rfl,(T.pk [0,1,2])⟩ ?_ ?_)
 ·rintro i ar ai ⟨M,w,t,y,N,A,K⟩ ap hp
  dsimp only [Zat.s0] at hp
  refine ZB (Zi (Zb _ A (Zc (zF rfl rfl) (Ze (zD hp rfl (fun O hp=>?_) (fun O hp=>?_))))))
  ·refine Zas (ZB (Zaa (ZB (ZhN ?_))))
   have a:=K.bump 9
   refine z3 rfl (zG (r:=f) (o:=0) w rfl) (z3 rfl (ZU (a.box 0 rfl) rfl rfl) (Zbk _ N (Zbk _ A (ckk hp fun F hp=>z3 rfl (ZZ (a.sl 2 rfl) rfl rfl F) (z3 rfl (zN (a.sl 2 rfl) rfl (Zf F) rfl) (ckk hp fun Q hp=>z3 rfl (zc rfl rfl Q) ?_))))))
   refine z3 rfl (Zc6 rfl rfl (by decide)) (Zbk (.n ((d.Dir + (gi ([1,0,3,2]:List Int) i.toNat)).tmod 4)) rfl (Zbi (Zo (Zi (Zb _ M (Zb _ y (Zb (.n ((d.Dir + (gi ([1,0,3,2]:List Int) i.toNat)).tmod 4)) rfl ?_)))))))
   refine ckk hp fun q hp=>Zc (ZZ (a.rd0 s_l.rd) rfl rfl q) (Zc (Zbo (a.rd0 s_l.rd) (Zf q) rfl rfl) (ckk hp fun H hp=>Zc (ZaZ (a.rd0 s_l.rd) (Zf q) rfl rfl H rfl) (Zc (zN (a.rd0 s_l.rd) rfl (Zf q) (zx H)) (Zc (ZcV rfl rfl) (Ze (zD hp rfl (fun P hp=>?_) (fun P hp=>?_)))))))
   ·refine Zi (Zb _ y (Zb (.n ((d.Dir + (gi ([1,0,3,2]:List Int) i.toNat)).tmod 4)) rfl (Zc (Zc4 (cs:=Zl.c (⟨((gi l (d.Cell:Int).toNat).Next).get d.Dir,(d.Dir + (gi ([1,0,3,2]:List Int) i.toNat)).tmod 4⟩:Zz)) (by rw [(zp (v:=.n (((gi l (d.Cell:Int).toNat).Next).get d.Dir)) rfl (zp (v:=.n ((d.Dir + (gi ([1,0,3,2]:List Int) i.toNat)).tmod 4)) rfl ZaN))]; rfl)) (zz (a.stb (cs':=Zl.c (⟨((gi l (d.Cell:Int).toNat).Next).get d.Dir,(d.Dir + (gi ([1,0,3,2]:List Int) i.toNat)).tmod 4⟩:Zz)) 1 rfl t rfl rfl ⟨rfl,Nat.le_of_ble_eq_true rfl,rfl⟩ rfl) ?_))))
    rintro _ aj ⟨rfl,ab,al,U⟩
    refine Ze (Zar (Zbv (zE ?_)))
    cases hp
    exact ⟨nofun,rfl,t,(U.pk [1])⟩
   ·refine Zc2 (Zaf (Zo (zI (Zb _ A (ckk hp fun R hp=>Zc (zc rfl rfl R) (Zb (.n (i + 1)) rfl (Zg ?_)))))))
    cases hp
    exact ⟨rfl,M,w,t,y,N,rfl,(a.pk [0,1,2])⟩
  ·refine Zbq (zM ?_)
   cases hp
   exact ⟨nofun,rfl,w,t,(K.pk [0,1])⟩
 rintro (_ | x) hp _ aq ah I
 ·obtain ⟨rfl,W,s,j⟩:=I
  refine Zav (Zo (Zi (Zc (Zbz (j.box 0 rfl) W rfl) (zz (j.stb (cs':=Zl.c d) 1 rfl s rfl rfl ⟨rfl,Nat.le_of_ble_eq_true rfl,rfl⟩ rfl) ?_))))
  rintro _ ak ⟨rfl,ac,am,L⟩
  refine Ze (Zar (z4 (Zgs s (L.box 1 rfl) rfl ZK) ?_))
  cases hp
  exact ⟨rfl,(L.pk [])⟩
 ·obtain ⟨rfl,s,j⟩:=I
  refine Zbv (zE (z4 (Zgs s (j.box 0 rfl) rfl ZK) ?_))
  cases hp
  exact ⟨rfl,(j.pk [])⟩

theorem ZX.ok {h:Hp} {l:List Za} {v_l:V} (s_l:Sl Zd h v_l l) {r:(List (List Zz))} (hp:ZX l=some r) :
  ∃ u k',Is G 177 [v_l] h u k'∧∃ av ay,av=u∧Own (fun r=>r < h.n) h k' [eSl eV av ay,ZbW Zl ay r]:=by
 refine WC.is (ZaP Zec ?_)
 unfold ZX at hp
 let B:Nat→Prop:=(fun r=>r < h.n)
 have hO:Own B h h []:=Own.start0 h
 refine Zi (Zb (.sn) rfl (Ze (Zi (Zb v_l rfl (Zc (Zae (hO.rd0 s_l.rd) rfl) ?_)))))
 refine ckk hp fun aD hp=>Zc (ZhO rfl rfl aD) (ckk hp fun aI hp=>zz (hO.mks (E:=e_bool) (y:=false) (bytes:=1) (z:=(4 * (l.length:Int))) hO.fr rfl rfl rfl aI (by decide)) ?_)
 rintro g bq ⟨bS,bg,aO⟩
 refine Zb g rfl (Ze (Zi (Zb (.sn) rfl (Ze (ZB ?_)))))
 refine Zi (Zb (.n 0) rfl (Ze (Zaa ?_)))
 have aV:=aO.nil eV
 have aW:=aV.allNil Zl 0
 refine Zb7 hp (fun | (met,out,v),fr,k=>∃ H J,fr 0=v_l∧fr 3=g∧fr 4=H∧fr 5=.n v∧Own B h k [eSl e_bool g met,eSl eV H J,ZbW Zl J out]) (fun out1 e fr k=>e=(.exit 0)∧∃ I R,fr 4=I∧Own B h k [eSl eV I R,ZbW Zl R out1]) ⟨V.sn,[],rfl,rfl,rfl,rfl,(aW.pk [0,1,2])⟩ ?_ ?_
 ·rintro ⟨met,out,v⟩ bN bz ⟨H,J,am,a5,an,ao,ab⟩ bJ hp
  dsimp only [ZX.s0] at hp
  refine ZB (Zi (Zb _ ao (Zb _ am (Zc (Zae (ab.rd0 s_l.rd) rfl) (Zc (zF rfl rfl) (Ze (zD hp rfl (fun az hp=>?_) (fun az hp=>?_))))))))
  ·refine Zas (ZB (Zaa (Zi (Zb (.n 0) rfl (Ze ?_)))))
   refine Zaa (Zb7 hp (fun | (met1,out2,e_),fr,k=>∃ m i,fr 0=v_l∧fr 3=g∧fr 4=m∧fr 5=.n v∧fr 6=.n e_∧Own B h k [eSl e_bool g met1,eSl eV m i,ZbW Zl i out2]) (fun | (met2,out3),e,fr,k=>e=(.exit 2)∧∃ P S,fr 0=v_l∧fr 3=g∧fr 4=P∧fr 5=.n v∧Own B h k [eSl e_bool g met2,eSl eV P S,ZbW Zl S out3]) ⟨H,J,am,a5,an,ao,rfl,(ab.pk [0,1,2])⟩ ?_ ?_)
   ·rintro ⟨met1,out2,e_⟩ bP a3 ⟨m,i,M,N,ac,D,F,j⟩ bK hp
    dsimp only [ZX.s1] at hp
    refine ZB (Zi (Zb _ F (Zc (zF rfl rfl) (Ze (zD hp rfl (fun aA hp=>?_) (fun aA hp=>?_))))))
    ·refine Zas (ZB (Zaa (ZB (Zi (Zb _ M (Zb _ D ?_))))))
     refine Zb _ F (ckk hp fun L hp=>Zc (ZZ (j.rd0 s_l.rd) rfl rfl L) (Zc (Zbo (j.rd0 s_l.rd) (Zf L) rfl rfl) (ckk hp fun af hp=>Zc (ZaZ (j.rd0 s_l.rd) (Zf L) rfl rfl af rfl) (Zc (zN (j.rd0 s_l.rd) rfl (Zf L) (zx af)) (Zc (zF rfl rfl) (Zb (.b (decide ((((gi l v.toNat).Next).get e_) < 0))) rfl ?_))))))
     obtain ⟨t,a1,hp⟩:=ZaH hp
     refine zK 8 (fun f k=>a3=k∧f 39=.b t∧f 0=v_l∧f 3=g∧f 4=m∧f 5=.n v∧f 6=.n e_) ?_ ?_
     ·clear hp; rcases ZaR a1 with ⟨a,hp⟩ | ⟨a,hp⟩
      ·refine Zh rfl a (Zh rfl a (Zh rfl a (Zh rfl a (Zh rfl a (Zh rfl a (Zh rfl a (Zc (ZaF (v:=.b t) rfl a (Eq.trans (b:=V.b true) rfl (congrArg V.b (Option.some.inj hp)))) (Zg ?_))))))))
       exact ⟨rfl,rfl,M,N,ac,D,F⟩
      ·refine Zp rfl a (Zb _ N (Zp rfl a (Zb _ D (Zp rfl a (ckk hp fun aJ hp=>Zc (ZhO rfl rfl aJ) (Zp rfl a (Zb _ F ?_)))))))
       refine Zp rfl a (ckk hp fun aK hp=>Zc (zc rfl rfl aK) (Zp rfl a (ckk hp fun ah hp=>Zc (ZZ (j.sl 0 rfl) rfl rfl ah) (Zp rfl a (Zc (zN (j.sl 0 rfl) rfl (Zf ah) rfl) (Zc (Za5 (v:=.b t) rfl a (Eq.trans (b:=V.b (gi met1 ((4 * v) + e_:Int).toNat)) rfl (congrArg V.b (Option.some.inj hp)))) ?_))))))
       refine Zg ?_
       exact ⟨rfl,rfl,M,N,ac,D,F⟩
     rintro bp _ ⟨rfl,aN,aj,ak,al,T,U⟩
     refine Ze (zD hp aN (fun aB hp=>?_) (fun aB hp=>?_))
     ·refine Zbq (zM (Zav (Zo (zI (Zb _ U (ckk hp fun aL hp=>Zc (zc rfl rfl aL) (Zb (.n (e_ + 1)) rfl ?_)))))))
      refine Zg ?_
      cases hp
      exact ⟨rfl,m,i,aj,ak,al,T,rfl,(j.pk [0,1,2])⟩
     ·refine Zas (Zi (Zb (.sn) rfl (Ze (Zi ?_))))
      refine Zb _ T (Zb _ U (Zc (Zc4 (cs:=Zl.c (⟨v,e_⟩:Zz)) (by rw [(zp (v:=.n v) rfl (zp (v:=.n e_) rfl ZaN))]; rfl)) (zz (j.alloc (cs:=Zl.c (⟨0,0⟩:Zz)) j.fr) ?_)))
      rintro _ bB ⟨w,rfl,bI,bh,aY⟩
      refine zz (aY.stb (cs':=Zl.c (⟨v,e_⟩:Zz)) 3 rfl rfl rfl rfl ⟨rfl,Nat.le_of_ble_eq_true rfl,rfl⟩ rfl) ?_
      rintro _ bC ⟨rfl,bi,bF,aZ⟩
      refine Ze (ZB (Zaa ?_))
      have aP:=aZ.nil Zl
      refine Zb7 hp (fun | (met3,f,d),fr,k=>∃ Q,fr 0=v_l∧fr 3=g∧fr 4=m∧fr 5=.n v∧fr 6=.n e_∧fr 7=Q∧fr 8=.p w 0∧Own B h k [eSl e_bool g met3,eSl eV m i,ZbW Zl i out2,eSl Zl Q f,zP w (Zl.c d)]) (fun | (met4,f1),e,fr,k=>e=(.exit 4)∧∃ A,fr 0=v_l∧fr 3=g∧fr 4=m∧fr 5=.n v∧fr 6=.n e_∧fr 7=A∧Own B h k [eSl e_bool g met4,eSl eV m i,ZbW Zl i out2,eSl Zl A f1]) ⟨V.sn,aj,ak,al,T,U,rfl,rfl,(aP.pk [0,1,2,4,3])⟩ ?_ ?_
      ·rintro ⟨met3,f,d⟩ bR bE ⟨Q,ad,O,ap,aq,ar,au,s,q⟩ bL hp
       dsimp only [ZX.s2] at hp
       refine ZB (Zi (Zb _ O (Zc (zG (r:=w) (o:=0) s rfl) (Zc (ZU (q.box 4 rfl) rfl rfl) (ckk hp fun ai hp=>Zc (ZhO rfl rfl ai) (Zc (zG (r:=w) (o:=0) s rfl) ?_))))))
       refine Zc (ZU (q.box 4 rfl) rfl rfl) (ckk hp fun ae hp=>Zc (zc rfl rfl ae) (ckk hp fun K hp=>Zc (ZZ (q.sl 0 rfl) rfl rfl K) (Zc (zN (q.sl 0 rfl) rfl (Zf K) rfl) (Zc (ZcO rfl) (Ze (zD hp rfl (fun aC hp=>?_) (fun aC hp=>?_)))))))
       ·refine Zas (Zaa (Zi (Zb _ O (Zc (zG (r:=w) (o:=0) s rfl) (Zc (ZU (q.box 4 rfl) rfl rfl) (Zc (ZhO rfl rfl ai) ?_))))))
        refine Zc (zG (r:=w) (o:=0) s rfl) (Zc (ZU (q.box 4 rfl) rfl rfl) (Zc (zc rfl rfl ae) (Zc (ZZ (q.sl 0 rfl) rfl rfl K) (zz (q.ste (y:=true) 0 rfl rfl (Zf K) rfl rfl ⟨rfl,Nat.le_of_ble_eq_true rfl,rfl⟩ rfl) ?_))))
        rintro _ br ⟨rfl,bj,bG,X⟩
        refine Ze (Zi (Zb _ au (Zc (Zbz (X.box 4 rfl) s rfl) (zz (X.bsl (E:=Zl) (l:=[d]) X.fr (by rw [(zp (v:=.ag (Zl.c d)) rfl ZaN)]; rfl) rfl) ?_))))
        rintro bX bs ⟨bT,bk,Y⟩
        refine ckk hp fun aE hp=>zz (Y.app (bytes:=16) 3 Y.fr rfl (Y.sl 5 rfl) rfl rfl (fun _=>rfl) aE (by decide)) ?_
        rintro aw a2 ⟨bl,aa⟩
        refine Zb aw rfl (Ze (zI (Zb _ ad (Zc (Zbz (aa.box 4 rfl) s rfl) ?_))))
        obtain ⟨x,⟨bV,bt,aM,rfl,a0⟩,hp⟩:=bdk hp fun _=>Zat.ok (h:=a2)  (aa.rd0 s_l.rd)
        refine ZaI rfl rfl aM ?_
        have aQ:=aa.call a0 rfl
        refine zz (aQ.stb (cs':=Zl.c x) 4 rfl s rfl rfl ⟨rfl,Nat.le_of_ble_eq_true rfl,rfl⟩ rfl) ?_
        rintro _ bu ⟨rfl,bm,bH,aR⟩
        refine Zg (Zaf ?_)
        cases hp
        exact ⟨rfl,aw,ad,O,ap,aq,ar,rfl,s,(aR.pk [0,1,2,3,4])⟩
       ·refine Zbq (zM ?_)
        cases hp
        exact ⟨nofun,rfl,Q,ad,O,ap,aq,ar,au,(q.pk [0,1,2,3])⟩
      rintro ⟨met4,f1⟩ hp _ bQ bD ⟨rfl,A,ba,bb,bc,bd,be,bf,W⟩
      refine Zav (Zo (zI (Zb _ bc (Zb _ bf (zz (W.bsl (E:=eV) (l:=[A]) W.fr (by rw [(zp (v:=A) rfl ZaN)]; simp only [fill,(W.sl 3 rfl).cells]; simp [over]) rfl) ?_)))))
      rintro bW bv ⟨bU,bn,C⟩
      refine ckk hp fun aF hp=>zz (C.appV (bytes:=24) 1 C.fr rfl (C.sl 4 rfl) rfl rfl (by simp only [List.all_cons,List.all_nil,Bool.and_true]; exact (C.sl 3 rfl).oneV) (by rw [(C.allLen 2 rfl:(i).length=(out2).length)]; exact aF) (by decide)) ?_
      rintro ax bw ⟨bo,aS⟩
      have aU:=aS.absorb 2 3 rfl rfl (by decide)
      refine Zb ax rfl (Zg (Zaf (Zo (zI (Zb _ be (ckk hp fun aG hp=>Zc (zc rfl rfl aG) (Zb (.n (e_ + 1)) rfl ?_)))))))
      refine Zg ?_
      cases hp
      exact ⟨rfl,ax,i++[A],ba,bb,rfl,bd,rfl,(aU.pk [0,1,2])⟩
    ·refine Zbq (zM ?_)
     cases hp
     exact ⟨nofun,rfl,m,i,M,N,ac,D,(j.pk [0,1,2])⟩
   rintro ⟨met2,out3⟩ hp _ bO bA ⟨rfl,P,S,a6,a7,a8,a9,aX⟩
   refine Zav (Zaf (Zo (zI (Zb _ a9 (ckk hp fun aH hp=>Zc (zc rfl rfl aH) (Zb (.n (v + 1)) rfl (Zg ?_)))))))
   cases hp
   exact ⟨rfl,P,S,a6,a7,a8,rfl,(aX.pk [0,1,2])⟩
  ·refine Zbq (zM ?_)
   cases hp
   exact ⟨nofun,rfl,H,J,an,(ab.pk [1,2])⟩
 rintro out1 hp _ bM bx ⟨rfl,I,R,a4,aT⟩
 refine Zav (Zo (Zi (Zb _ a4 (Zb I rfl (Ze (Zar ?_))))))
 refine z4 (zX rfl ZK) ?_
 cases hp
 exact ⟨I,R,rfl,(aT.pk [0,1])⟩

theorem ZbF.ok {h:Hp} {d:Int}   {r:Bool} (hp:ZbF d=some r) :
  ∃ u k',Is G 223 [.n d] h u k'∧V.b r=u∧Own (fun r=>r < h.n) h k' []:=by
 refine WC.is (ZaP Zet ?_)
 unfold ZbF at hp
 let B:Nat→Prop:=(fun r=>r < h.n)
 have hO:Own B h h []:=Own.start0 h
 refine Zi (Zb (.b false) rfl (Ze (Zi (Zb (.n d) rfl (Zc (ZcV rfl rfl) ?_)))))
 refine Zb (.b (decide (0≤d))) rfl (zK 3 (fun f k=>h=k∧f 8=.b ((decide (0≤d)) && (decide (d≤3)))) ?_ ?_)
 ·rcases bc (decide (0≤d)) with a | a
  ·refine Zp rfl a (Zb (.n d) rfl (Zp rfl a (Zc (ZkH rfl rfl) (Zc (ZcN rfl a rfl) (Zg ?_)))))
   exact ⟨rfl,rfl⟩
  ·refine Zh rfl a (Zh rfl a (Zc (ZcM (w:=(decide (0≤d)) && (decide (d≤3))) rfl a rfl) (Zg ?_)))
   exact ⟨rfl,rfl⟩
 rintro e _ ⟨rfl,c⟩
 refine Zb _ c (Ze (Zar (z4 (zX rfl ZK) ?_)))
 cases hp
 exact ⟨rfl,(hO.pk [])⟩

theorem Zcg.ok {h:Hp} {d:Int} {times:Int}   {r:Int} (hp:Zcg d times=some r) :
  ∃ u k',Is G 224 [.n d,.n times] h u k'∧V.n r=u∧Own (fun r=>r < h.n) h k' []:=by
 refine WC.is (ZaP Zeu ?_)
 unfold Zcg at hp
 let B:Nat→Prop:=(fun r=>r < h.n)
 have hO:Own B h h []:=Own.start0 h
 refine Zi (Zb (.n 0) rfl (Ze (Zi (Zb (.n d) rfl ?_))))
 obtain ⟨x,⟨m,l,j,rfl,k⟩,hp⟩:=bdk hp fun _=>ZbF.ok (h:=h)  
 refine ZaI rfl rfl j ?_
 have a:=hO.call k rfl
 refine Zb (.b x) rfl (Ze (ZB (Zi (Zb (.b x) rfl (Zc (ZcO rfl) (Zg ?_))))))
 refine Zo (zD hp rfl (fun c hp=>?_) (fun c hp=>?_))
 ·refine Zi (Zb (.n 0) rfl (Ze (Zar (zE (z4 (zX rfl ZK) ?_)))))
  cases hp
  exact ⟨rfl,(a.pk [])⟩
 ·refine Zas (Zi (Zb (.n times) rfl (Zc (Zc6 rfl rfl (by decide)) (Zb (.n (times.tmod 4)) rfl (Ze ?_)))))
  refine ZB (Zi (Zb (.n (times.tmod 4)) rfl (Zc (zF rfl rfl) (Ze (zD hp rfl (fun e hp=>?_) (fun e hp=>?_))))))
  ·refine zI (Zb (.n (times.tmod 4)) rfl (ckk hp fun f hp=>Zc (zc rfl rfl f) (Zb (.n ((times.tmod 4) + 4)) rfl (Ze (Zi ?_)))))
   refine Zb (.n d) rfl (Zb (.n ((times.tmod 4) + 4)) rfl (ckk hp fun g hp=>Zc (zc rfl rfl g) (Zc (Zc6 rfl rfl (by decide)) (Zb (.n ((d + ((times.tmod 4) + 4)).tmod 4)) rfl (Ze (Zar ?_))))))
   refine z4 (zX rfl ZK) ?_
   cases hp
   exact ⟨rfl,(a.pk [])⟩
  ·refine Zas (Zi (Zb (.n d) rfl (Zb (.n (times.tmod 4)) rfl (ckk hp fun i hp=>Zc (zc rfl rfl i) (Zc (Zc6 rfl rfl (by decide)) ?_)))))
   refine Zb (.n ((d + (times.tmod 4)).tmod 4)) rfl (Ze (Zar (z4 (zX rfl ZK) ?_)))
   cases hp
   exact ⟨rfl,(a.pk [])⟩

theorem Zch.ok {h:Hp} {d:Int} {e_:Int}   {r:Int} (hp:Zch d e_=some r) :
  ∃ u k',Is G 207 [.n d,.n e_] h u k'∧V.n r=u∧Own (fun r=>r < h.n) h k' []:=by
 refine WC.is (ZaP Zev ?_)
 unfold Zch at hp
 let B:Nat→Prop:=(fun r=>r < h.n)
 have hO:Own B h h []:=Own.start0 h
 refine Zi (Zb (.n 0) rfl (Ze (Zi (Zb (.n d) rfl ?_))))
 obtain ⟨x,⟨Q,L,v,rfl,H⟩,hp⟩:=bdk hp fun _=>ZbF.ok (h:=h)  
 refine ZaI rfl rfl v ?_
 have F:=hO.call H rfl
 refine Zb (.b x) rfl (Ze (Zi (Zb (.n e_) rfl ?_)))
 obtain ⟨x1,⟨R,i,y,rfl,I⟩,hp⟩:=bdk hp fun _=>ZbF.ok (h:=L)  
 refine ZaI rfl rfl y ?_
 have m:=F.call I rfl
 refine Zb (.b x1) rfl (Ze (ZB (Zi (Zb (.b x) rfl (Zc (ZcO rfl) (Zb (.b (!x)) rfl (zK 3 (fun f k=>i=k∧f 17=.b ((!x) || (!x1))∧f 0=.n d∧f 1=.n e_) ?_ ?_)))))))
 ·rcases bc (!x) with c | c
  ·refine Zh rfl c (Zh rfl c (Zc (Zcb (w:=(!x) || (!x1)) rfl c rfl) (Zg ?_)))
   exact ⟨rfl,rfl,rfl,rfl⟩
  ·refine Zp rfl c (Zb (.b x1) rfl (Zp rfl c (Zc (ZcO rfl) (Zc (Zcc rfl c rfl) (Zg ?_)))))
   exact ⟨rfl,rfl,rfl,rfl⟩
 rintro N _ ⟨rfl,D,e,g⟩
 refine Zb _ D (zK 4 (fun f k=>i=k∧f 22=.b (((!x) || (!x1)) || (decide (d=e_)))∧f 0=.n d∧f 1=.n e_) ?_ ?_)
 ·rcases bc ((!x) || (!x1)) with a | a
  ·refine Zh rfl a (Zh rfl a (Zh rfl a (Zc (Zcb (w:=((!x) || (!x1)) || (decide (d=e_))) rfl a rfl) (Zg ?_))))
   exact ⟨rfl,rfl,e,g⟩
  ·refine Zp rfl a (Zb _ e (Zp rfl a (Zb _ g (Zp rfl a (Zc (Zbl rfl rfl) (Zc (Zcc rfl a rfl) (Zg ?_)))))))
   exact ⟨rfl,rfl,e,g⟩
 rintro O _ ⟨rfl,E,j,l⟩
 refine Ze (zD hp E (fun q hp=>?_) (fun q hp=>?_))
 ·refine Zi (Zb (.n 0) rfl (Ze (Zar (zE (z4 (zX rfl ZK) ?_)))))
  cases hp
  exact ⟨rfl,(m.pk [])⟩
 ·refine Zas (Zi (Zb _ j ?_))
  obtain ⟨x2,⟨S,M,A,rfl,J⟩,hp⟩:=bdk hp fun _=>Zcg.ok (h:=i)  
  refine ZaI rfl rfl A ?_
  have o:=m.call J rfl
  refine Zb (.n x2) rfl (Ze (ZB (Zi (Zb (.n x2) rfl (Zb _ l (Zc (Zbl rfl rfl) ?_))))))
  refine Ze (zD hp rfl (fun s hp=>?_) (fun s hp=>?_))
  ·refine Zi (Zb (.n 1) rfl (Ze (Zar (zE (z4 (zX rfl ZK) ?_)))))
   cases hp
   exact ⟨rfl,(o.pk [])⟩
  ·refine Zas (Zi (Zb _ j ?_))
   obtain ⟨x3,⟨T,P,C,rfl,K⟩,hp⟩:=bdk hp fun _=>Zcg.ok (h:=M)  
   refine ZaI rfl rfl C ?_
   have p:=o.call K rfl
   refine Zb (.n x3) rfl (Ze (ZB (Zi (Zb (.n x3) rfl (Zb _ l (Zc (Zbl rfl rfl) ?_))))))
   refine Ze (zD hp rfl (fun t hp=>?_) (fun t hp=>?_))
   ·refine Zi (Zb (.n (-1)) rfl (Ze (Zar (zE (z4 (zX rfl ZK) ?_)))))
    cases hp
    exact ⟨rfl,(p.pk [])⟩
   ·refine Zas (Zi (Zb (.n (-2)) rfl (Ze (Zar (z4 (zX rfl ZK) ?_)))))
    cases hp
    exact ⟨rfl,(p.pk [])⟩

theorem Zaz.ok {h:Hp} {l:List Za} {f:List Zz} {v_l:V} {v_f:V} (s_l:Sl Zd h v_l l) (s_f:Sl Zl h v_f f) {r:(List Int)} (hp:Zaz l f=some r) :
  ∃ u k',Is G 182 [v_l,v_f] h u k'∧∃ H,H=u∧Own (fun r=>r < h.n) h k' [eSl zT H r]:=by
 refine WC.is (ZaP Zed ?_)
 unfold Zaz at hp
 let B:Nat→Prop:=(fun r=>r < h.n)
 have hO:Own B h h []:=Own.start0 h
 refine Zi (Zb (.sn) rfl (Ze (Zi (Zb (.sn) rfl (Zg ?_)))))
 refine Zo (ZB (Zi (Zb (.n 0) rfl (Ze (Zaa ?_)))))
 have R:=hO.nil zT
 refine Zb7 hp (fun | (out,i),fr,k=>∃ p,fr 0=v_l∧fr 1=v_f∧fr 5=p∧fr 6=.n i∧Own B h k [eSl zT p out]) (fun out1 e fr k=>e=(.exit 0)∧∃ g,fr 5=g∧Own B h k [eSl zT g out1]) ⟨V.sn,rfl,rfl,rfl,rfl,(R.pk [0])⟩ ?_ ?_
 ·rintro ⟨out,i⟩ ap U ⟨p,D,j,F,m,a⟩ an hp
  dsimp only [Zaz.s0] at hp
  refine ZB (Zi (Zb _ m (Zb _ j (Zc (Zae (a.rd0 s_f.rd) rfl) (Zc (zF rfl rfl) (Ze (zD hp rfl (fun J hp=>?_) (fun J hp=>?_))))))))
  ·refine Zas (ZB (Zaa (Zi (Zb _ D (Zb _ j (Zb _ m ?_))))))
   refine ckk hp fun b hp=>Zc (ZZ (a.rd0 s_f.rd) rfl rfl b) (Zc (Zdb (a.rd0 s_f.rd) rfl (Zf b)) ?_)
   obtain ⟨x,⟨ar,af,M,rfl,T⟩,hp⟩:=bdk hp fun _=>Zat.ok (h:=U)  (a.rd0 s_l.rd)
   refine ZaI rfl rfl M ?_
   have w:=a.call T rfl
   refine zz (w.alloc (cs:=Zl.c (⟨0,0⟩:Zz)) w.fr) ?_
   rintro _ ag ⟨X,rfl,al,Y,S⟩
   refine zz (S.stb (cs':=Zl.c x) 1 rfl rfl rfl rfl ⟨rfl,Nat.le_of_ble_eq_true rfl,rfl⟩ rfl) ?_
   rintro _ t ⟨rfl,aa,ak,y⟩
   refine Ze (ZB (ZeH ?_))
   have d:=y.bump 9
   have O:=Fresh.start t 9
   have am:∀ {i:Nat},h.n≤t.n + i:=Nat.le_trans y.n (Nat.le_add_right _ _)
   refine ZaU _ j (ZaU _ m (ZT (ZZ (d.rd0 s_f.rd) rfl rfl b) (ZT (Zbo (d.rd0 s_f.rd) (Zf b) rfl rfl) (ZT (zN (d.rd0 s_f.rd) rfl (Zf b) rfl) (ZT (zG (r:=X) (o:=0) rfl rfl) (ZT (ZU (d.box 1 rfl) rfl rfl) ?_))))))
   obtain ⟨x1,⟨au,ah,N,rfl,C⟩,hp⟩:=bdk hp fun _=>Zch.ok (h:=(t.bump 9))  
   refine Zi0 rfl rfl N ?_
   have ad:=O.call C
   have A:=d.call C rfl
   refine ZaU (.n x1) rfl (Zcv ?_)
   refine And.intro ?_ ?_
   ·intro q hq
    simp only [List.mem_cons,List.not_mem_nil,or_false] at hq
    rcases hq with rfl
    ·refine z9 ?_ ?_
     ·exact (fun h=>nomatch h)
     ·exact (fun h=>nomatch h)
   refine Zo (zI (Zb _ F (Zb (.n x1) rfl (zz (A.bsl (E:=zT) (l:=[x1]) A.fr (by rw [(zp (v:=.n x1) rfl ZaN)]; rfl) rfl) ?_))))
   rintro av ai ⟨aq,ab,s⟩
   refine ckk hp fun K hp=>zz (s.app (bytes:=8) 0 s.fr rfl (s.sl 2 rfl) rfl rfl (fun _=>rfl) K (by decide)) ?_
   rintro I aj ⟨ac,Q⟩
   refine Zb I rfl (Zg (Zaf (Zo (zI (Zb _ m (ckk hp fun L hp=>Zc (zc rfl rfl L) (Zb (.n (i + 1)) rfl ?_)))))))
   refine Zg ?_
   cases hp
   exact ⟨rfl,I,D,j,rfl,rfl,(Q.pk [0])⟩
  ·refine Zbq (zM ?_)
   cases hp
   exact ⟨nofun,rfl,p,F,(a.pk [0])⟩
 rintro out1 hp _ ao ae ⟨rfl,g,W,P⟩
 refine Zav (Zo (Zi (Zb _ W (Zb g rfl (Ze (Zar ?_))))))
 refine z4 (zX rfl ZK) ?_
 cases hp
 exact ⟨g,rfl,(P.pk [0])⟩

theorem Za9.ok {h:Hp} {t:List Int} {v_t:V} (s_t:Sl zT h v_t t) {r:Int} (hp:Za9 t=some r) :
  ∃ u k',Is G 206 [v_t] h u k'∧V.n r=u∧Own (fun r=>r < h.n) h k' []:=by
 refine WC.is (ZaP Zdz ?_)
 unfold Za9 at hp
 let B:Nat→Prop:=(fun r=>r < h.n)
 have hO:Own B h h []:=Own.start0 h
 refine Zi (Zb (.n 0) rfl (Ze (Zi (Zb (.n 0) rfl (Zg ?_)))))
 refine Zo (ZB (Zi (Zb (.n 0) rfl (Ze (Zaa (Zb7 hp (fun | (n,i),fr,k=>fr 0=v_t∧fr 3=.n n∧fr 4=.n i∧Own B h k []) (fun n1 e fr k=>e=(.exit 0)∧fr 3=.n n1∧Own B h k []) ⟨rfl,rfl,rfl,(hO.pk [])⟩ ?_ ?_))))))
 ·rintro ⟨n,i⟩ K D ⟨g,o,j,c⟩ I hp
  dsimp only [Za9.s0] at hp
  refine ZB (Zi (Zb _ j (Zb _ g (Zc (Zae (c.rd0 s_t.rd) rfl) (Zc (zF rfl rfl) (Ze (zD hp rfl (fun q hp=>?_) (fun q hp=>?_))))))))
  ·refine Zas (ZB (Zaa (Zi (Zb _ g (Zb _ j (ckk hp fun d hp=>?_))))))
   refine Zc (ZZ (c.rd0 s_t.rd) rfl rfl d) (Zc (zN (c.rd0 s_t.rd) rfl (Zf d) rfl) (Zc (ZcV rfl rfl) (Zb (.b (decide ((-2)≤(gi t i.toNat)))) rfl (zK 6 (fun f k=>D=k∧f 22=.b ((decide ((-2)≤(gi t i.toNat))) && (decide ((gi t i.toNat)≤1)))∧f 0=v_t∧f 3=.n n∧f 4=.n i) ?_ ?_))))
   ·rcases bc (decide ((-2)≤(gi t i.toNat))) with a | a
    ·refine Zp rfl a (Zb _ g (Zp rfl a (Zb _ j (Zp rfl a (Zc (ZZ (c.rd0 s_t.rd) rfl rfl d) (Zp rfl a (Zc (zN (c.rd0 s_t.rd) rfl (Zf d) rfl) (Zp rfl a ?_))))))))
     refine Zc (ZkH rfl rfl) (Zc (ZcN rfl a rfl) (Zg ?_))
     exact ⟨rfl,rfl,g,o,j⟩
    ·refine Zh rfl a (Zh rfl a (Zh rfl a (Zh rfl a (Zh rfl a (Zc (ZcM (w:=(decide ((-2)≤(gi t i.toNat))) && (decide ((gi t i.toNat)≤1))) rfl a rfl) (Zg ?_))))))
     exact ⟨rfl,rfl,g,o,j⟩
   rintro F _ ⟨rfl,A,l,p,m⟩
   refine Ze (zD hp A (fun s hp=>?_) (fun s hp=>?_))
   ·refine zI (Zb _ p (Zb _ l (Zb _ m (Zc (ZZ (c.rd0 s_t.rd) rfl rfl d) (Zc (zN (c.rd0 s_t.rd) rfl (Zf d) rfl) (ckk hp fun v hp=>Zc (zc rfl rfl v) (Zb (.n (n + (gi t i.toNat))) rfl ?_)))))))
    refine Zg (Zaf (Zo (zI (Zb _ m (ckk hp fun x hp=>Zc (zc rfl rfl x) (Zb (.n (i + 1)) rfl (Zg ?_)))))))
    cases hp
    exact ⟨rfl,l,rfl,rfl,(c.pk [])⟩
   ·refine Zc2 (Zaf (Zo (zI (Zb _ m (ckk hp fun y hp=>Zc (zc rfl rfl y) (Zb (.n (i + 1)) rfl (Zg ?_)))))))
    cases hp
    exact ⟨rfl,l,p,rfl,(c.pk [])⟩
  ·refine Zbq (zM ?_)
   cases hp
   exact ⟨nofun,rfl,o,(c.pk [])⟩
 rintro n1 hp _ J H ⟨rfl,E,C⟩
 refine Zav (Zo (Zi (Zb _ E (Zb (.n n1) rfl (Ze (Zar ?_))))))
 refine z4 (zX rfl ZK) ?_
 cases hp
 exact ⟨rfl,(C.pk [])⟩

theorem ZaC.ok {h:Hp} {l:List Za} {v_l:V} (s_l:Sl Zd h v_l l) {r:Int × Int} (hp:ZaC l=some r) :
  ∃ u k',Is G 181 [v_l] h u k'∧V.tu [.n r.1,.n r.2]=u∧Own (fun r=>r < h.n) h k' []:=by
 refine WC.is (ZaP Zef ?_)
 unfold ZaC at hp
 let B:Nat→Prop:=(fun r=>r < h.n)
 have hO:Own B h h []:=Own.start0 h
 refine Zi (Zb (.n 0) rfl (Zb (.n 0) rfl (Ze (Zi (Zb v_l rfl ?_)))))
 obtain ⟨x,⟨aQ,aC,ae,rfl,ax⟩,hp⟩:=bdk hp fun _=>zA.ok (h:=h)  (hO.rd0 s_l.rd)
 refine ZaI rfl rfl ae ?_
 have F:=hO.call ax rfl
 refine Zb (.n x) rfl (Ze (ZB (Zi (Zb (.n x) rfl (Zc (Zc5 rfl rfl) (Zg ?_))))))
 refine Zo (zD hp rfl (fun T hp=>?_) (fun T hp=>?_))
 ·refine Zi (Zb (.n x) rfl (Zb (.n (-1)) rfl (Zb (.n x) rfl (Ze (Zar (zE ?_))))))
  refine z4 (zX rfl (zX rfl ZK)) ?_
  cases hp
  exact ⟨rfl,(F.pk [])⟩
 ·refine Zas (Zi (Zb v_l rfl ?_))
  obtain ⟨x1,⟨aR,aD,af,R,aH,rfl,ay⟩,hp⟩:=bdk hp fun _=>zY.ok (h:=aC)  (F.rd0 s_l.rd)
  refine ZaI rfl rfl af ?_
  have j:=F.call ay rfl
  refine Zb R rfl (Ze (ZB (Zi (Zb R rfl (Zc (Zg4 (n:=(x1).length) (j.sl 0 rfl) (j.allLen 1 rfl:(aH).length=(x1).length) rfl) (Zc (Zc5 rfl rfl) ?_))))))
  refine Ze (zD hp rfl (fun W hp=>?_) (fun W hp=>?_))
  ·refine Zi (Zb (.n (-1)) rfl (Zb (.n 13) rfl (Ze (Zar (zE (z4 (zX rfl (zX rfl ZK)) ?_))))))
   cases hp
   exact ⟨rfl,(j.pk [])⟩
  ·refine Zas (ZB (Zi (Zb v_l rfl (Zc (Zae (j.rd0 s_l.rd) rfl) (Zc (Zbl rfl rfl) (Zg ?_))))))
   refine Zo (zD hp rfl (fun X hp=>?_) (fun X hp=>?_))
   ·refine Zi (Zb (.n (-1)) rfl (Zb (.n 0) rfl (Ze (Zar (zE (z4 (zX rfl (zX rfl ZK)) ?_))))))
    cases hp
    exact ⟨rfl,(j.pk [])⟩
   ·refine Zas (Zi (Zb v_l rfl ?_))
    obtain ⟨x2,⟨aS,aL,ag,m,o,rfl,az⟩,hp⟩:=bdk hp fun _=>ZX.ok (h:=aD)  (j.rd0 s_l.rd)
    refine ZaI rfl rfl ag ?_
    have aw:=j.call az rfl
    refine Zb m rfl (Ze (Zi (Zb (.n (-1)) rfl (Ze (ZB ?_)))))
    refine Zi (Zb (.n 0) rfl (Ze (Zaa (Zb7 hp (fun | (at_,i),fr,k=>fr 0=v_l∧fr 6=m∧fr 7=.n at_∧fr 8=.n i∧Own B h k [eSl eV m o,ZbW Zl o x2]) (fun | .inl at_1,e,fr,k=>e=(.exit 0)∧fr 7=.n at_1∧Own B h k [] | .inr _,e,fr,k=>e=.ret∧fr 2=.n (-1)∧fr 3=.n 10∧Own B h k []) ⟨rfl,rfl,rfl,rfl,(aw.pk [2,3])⟩ ?_ ?_))))
    ·rintro ⟨at_,i⟩ aP P ⟨J,t,K,v,c⟩ aN hp
     dsimp only [ZaC.s0] at hp
     refine ZB (Zi (Zb _ v (Zb _ t (Zc (Zg4 (n:=(x2).length) (c.sl 0 rfl) (c.allLen 1 rfl:(o).length=(x2).length) rfl) (Zc (zF rfl rfl) (Ze (zD hp rfl (fun Y hp=>?_) (fun Y hp=>?_))))))))
     ·refine Zas (ZB (Zaa (Zi (Zb _ J (Zb _ t (Zb _ v ?_))))))
      refine ckk hp fun y hp=>Zc (ZZ (c.sl 0 rfl) rfl rfl (by rw [(c.allLen 1 rfl:(o).length=(x2).length)]; exact y)) (Zc (zN (c.sl 0 rfl) rfl (by rw [(c.allLen 1 rfl:(o).length=(x2).length)]; exact Zf y) rfl) ?_)
      obtain ⟨x3,⟨aT,aE,ah,S,rfl,aA⟩,hp⟩:=bdk hp fun _=>Zaz.ok (h:=P)  (c.rd0 s_l.rd) (c.inn 1 rfl (Zf y):Sl Zl P (gi o i.toNat) (gi x2 i.toNat))
      refine ZaI rfl rfl ah ?_
      have O:=c.call aA rfl
      refine Zb S rfl (Ze (Zi (Zb S rfl ?_)))
      obtain ⟨x4,⟨aU,I,ai,rfl,aB⟩,hp⟩:=bdk hp fun _=>Za9.ok (h:=aE)  (O.sl 2 rfl)
      refine ZaI rfl rfl ai ?_
      have H:=O.call aB rfl
      refine Zb (.n x4) rfl (Ze (ZB (Zi (Zb (.n x4) rfl (Zc (Zc5 rfl rfl) (Zb (.b (!(decide (x4=4)))) rfl (zK 3 (fun f k=>I=k∧f 45=.b ((!(decide (x4=4))) && (!(decide (x4=(-4)))))∧f 0=v_l∧f 10=.n x4∧f 6=m∧f 7=.n at_∧f 8=.n i) ?_ ?_)))))))
      ·rcases bc (!(decide (x4=4))) with d | d
       ·refine Zp rfl d (Zb (.n x4) rfl (Zp rfl d (Zc (Zc5 rfl rfl) (Zc (ZcN rfl d rfl) (Zg ?_)))))
        exact ⟨rfl,rfl,J,rfl,t,K,v⟩
       ·refine Zh rfl d (Zh rfl d (Zc (ZcM (w:=(!(decide (x4=4))) && (!(decide (x4=(-4))))) rfl d rfl) (Zg ?_)))
        exact ⟨rfl,rfl,J,rfl,t,K,v⟩
      rintro aI _ ⟨rfl,aj,A,p,C,q,D⟩
      refine Zb _ aj (zK 7 (fun f k=>I=k∧f 53=.b (((!(decide (x4=4))) && (!(decide (x4=(-4))))) || ((decide (x4=(-4))) && (decide (0≤at_))))∧f 0=v_l∧f 10=.n x4∧f 6=m∧f 7=.n at_∧f 8=.n i) ?_ ?_)
      ·rcases bc ((!(decide (x4=4))) && (!(decide (x4=(-4))))) with a | a
       ·refine Zh rfl a (Zh rfl a (Zh rfl a (ZeQ rfl (ZeQ rfl (Zh rfl a (Zc (Zcb (w:=((!(decide (x4=4))) && (!(decide (x4=(-4))))) || ((decide (x4=(-4))) && (decide (0≤at_)))) rfl a rfl) (Zg ?_)))))))
        exact ⟨rfl,rfl,A,p,C,q,D⟩
       ·refine Zp rfl a (Zb _ p (Zp rfl a (Zc (Zbl rfl rfl) (Zp rfl a (Zb (.b (decide (x4=(-4)))) rfl (zK 3 (fun f k=>I=k∧f 52=.b ((decide (x4=(-4))) && (decide (0≤at_)))∧f 0=v_l∧f 10=.n x4∧f 46=.b ((!(decide (x4=4))) && (!(decide (x4=(-4)))))∧f 6=m∧f 7=.n at_∧f 8=.n i) ?_ ?_))))))
        ·rcases bc (decide (x4=(-4))) with g | g
         ·refine Zp rfl g (Zb _ q (Zp rfl g (Zc (ZcV rfl rfl) (Zp rfl a (Zc (ZcN rfl g rfl) (Zg ?_))))))
          exact ⟨rfl,rfl,A,p,rfl,C,q,D⟩
         ·refine Zh rfl g (Zh rfl g (Zp rfl a (Zc (ZcM (w:=(decide (x4=(-4))) && (decide (0≤at_))) rfl g rfl) (Zg ?_))))
          exact ⟨rfl,rfl,A,p,rfl,C,q,D⟩
        rintro aJ _ ⟨rfl,an,ak,al,am,ao,ap,aq⟩
        refine Zc (Zcc am a an) (Zg ?_)
        exact ⟨rfl,rfl,ak,al,ao,ap,aq⟩
      rintro aK _ ⟨rfl,au,L,ar,M,av,E⟩
      refine Ze (zD hp au (fun aa hp=>?_) (fun aa hp=>?_))
      ·refine Zi (Zb (.n (-1)) rfl (Zb (.n 10) rfl (Ze (Zar (zE (Zbv ?_))))))
       refine zE ?_
       cases hp
       exact ⟨nofun,rfl,rfl,rfl,(H.pk [])⟩
      ·refine Zas (Zi (Zb _ ar (Zc (Zbl rfl rfl) (Ze (zD hp rfl (fun ab hp=>?_) (fun ab hp=>?_))))))
       ·refine zI (Zb _ E (Zb (.n i) rfl (Zg (Zaf (Zo (zI (Zb _ E (ckk hp fun ac hp=>?_))))))))
        refine Zc (zc rfl rfl ac) (Zb (.n (i + 1)) rfl (Zg ?_))
        cases hp
        exact ⟨rfl,L,M,rfl,rfl,(H.pk [0,1])⟩
       ·refine Zc2 (Zaf (Zo (zI (Zb _ E (ckk hp fun ad hp=>Zc (zc rfl rfl ad) (Zb (.n (i + 1)) rfl (Zg ?_)))))))
        cases hp
        exact ⟨rfl,L,M,av,rfl,(H.pk [0,1])⟩
     ·refine Zbq (zM ?_)
      cases hp
      exact ⟨nofun,rfl,K,(c.pk [])⟩
    rintro (at_1 | _) hp _ aO aM N
    ·obtain ⟨rfl,Q,s⟩:=N
     refine Zav (Zo (ZB (Zi (Zb _ Q (Zc (zF rfl rfl) (Ze (zD hp rfl (fun U hp=>?_) (fun U hp=>?_))))))))
     ·refine Zi (Zb (.n (-1)) rfl (Zb (.n 10) rfl (Ze (Zar (zE (z4 (zX rfl (zX rfl ZK)) ?_))))))
      cases hp
      exact ⟨rfl,(s.pk [])⟩
     ·refine Zas (Zi (Zb _ Q (Zb (.n at_1) rfl (Zb (.n 0) rfl (Ze ?_)))))
      refine Zar (z4 (zX rfl (zX rfl ZK)) ?_)
      cases hp
      exact ⟨rfl,(s.pk [])⟩
    ·obtain ⟨rfl,aF,aG,s⟩:=N
     refine Zbv (zE (z4 (zX aF (zX aG ZK)) ?_))
     cases hp
     exact ⟨rfl,(s.pk [])⟩

theorem Zaw.ok {h:Hp} {t:List Int} {v_t:V} (s_t:Sl zT h v_t t) {r:(List Zq)} (hp:Zaw t=some r) :
  ∃ u k',Is G 20 [v_t] h u k'∧∃ K,K=u∧Own (fun r=>r < h.n) h k' [eSl Zm K r]:=by
 refine WC.is (ZaP ZdE ?_)
 unfold Zaw at hp
 let B:Nat→Prop:=(fun r=>r < h.n)
 have hO:Own B h h []:=Own.start0 h
 refine Zi (Zb (.sn) rfl (Ze (Zi (Zb (.sn) rfl (Zg ?_)))))
 refine Zo (ZB (Zi (Zb (.n 0) rfl (Ze (Zaa ?_)))))
 have X:=hO.nil Zm
 refine Zb7 hp (fun | (l,i),fr,k=>∃ j,fr 0=v_t∧fr 3=j∧fr 4=.n i∧Own B h k [eSl Zm j l]) (fun l1 e fr k=>e=(.exit 0)∧∃ q,fr 3=q∧Own B h k [eSl Zm q l1]) ⟨V.sn,rfl,rfl,rfl,(X.pk [0])⟩ ?_ ?_
 ·rintro ⟨l,i⟩ au ab ⟨j,o,D,p,d⟩ aq hp
  dsimp only [Zaw.s0] at hp
  refine ZB (Zi (Zb _ p (Zb _ o (Zc (Zae (d.rd0 s_t.rd) rfl) (Zc (zF rfl rfl) (Ze (zD hp rfl (fun N hp=>?_) (fun N hp=>?_))))))))
  ·refine Zas (ZB (Zaa (ZB (Zi (Zb _ o (Zb _ p ?_))))))
   refine ckk hp fun g hp=>Zc (ZZ (d.rd0 s_t.rd) rfl rfl g) (Zc (zN (d.rd0 s_t.rd) rfl (Zf g) rfl) (Zc (Zbl rfl rfl) (Zb (.b (decide (gi t i.toNat=(-1)))) rfl (zK 6 (fun f k=>ab=k∧f 22=.b ((decide (gi t i.toNat=(-1))) || (decide (gi t i.toNat=(-2))))∧f 0=v_t∧f 3=j∧f 4=.n i) ?_ ?_))))
   ·rcases bc (decide (gi t i.toNat=(-1))) with a | a
    ·refine Zh rfl a (Zh rfl a (Zh rfl a (Zh rfl a (Zh rfl a (Zc (Zcb (w:=(decide (gi t i.toNat=(-1))) || (decide (gi t i.toNat=(-2)))) rfl a rfl) (Zg ?_))))))
     exact ⟨rfl,rfl,o,D,p⟩
    ·refine Zp rfl a (Zb _ o (Zp rfl a (Zb _ p (Zp rfl a (Zc (ZZ (d.rd0 s_t.rd) rfl rfl g) (Zp rfl a (Zc (zN (d.rd0 s_t.rd) rfl (Zf g) rfl) (Zp rfl a ?_))))))))
     refine Zc (Zbl rfl rfl) (Zc (Zcc rfl a rfl) (Zg ?_))
     exact ⟨rfl,rfl,o,D,p⟩
   rintro ak _ ⟨rfl,U,H,I,y⟩
   refine Ze (Zgd hp (fun l2 e fr k=>e=.normal∧∃ x,fr 0=v_t∧fr 3=x∧fr 4=.n i∧Own B h k [eSl Zm x l2]) (fun _ hp=>?_) ?_)
   ·refine zD hp U (fun O hp=>?_) (fun O hp=>?_)
    ·refine zI (Zb _ I (Zb _ y (Zc (Zc4 (cs:=Zm.c (⟨i,(0:Int)⟩:Zq)) (by rw [(zp (v:=.n i) rfl ZaN)]; rfl)) (zz (d.bsl (E:=Zm) (l:=[(⟨i,(0:Int)⟩:Zq)]) d.fr (by rw [(zp (v:=.ag (Zm.c (⟨i,(0:Int)⟩:Zq))) rfl ZaN)]; rfl) rfl) ?_))))
     rintro ae ac ⟨aw,af,A⟩
     refine ckk hp fun Q hp=>zz (A.app (bytes:=16) 0 A.fr rfl (A.sl 1 rfl:Sl Zm ac ae [(⟨i,(0:Int)⟩:Zq)]) rfl rfl (fun _=>rfl) Q (by decide)) ?_
     rintro L an ⟨ah,Y⟩
     refine Zb L rfl (Zg ?_)
     cases hp
     exact ⟨rfl,L,H,rfl,y,(Y.pk [0])⟩
    ·refine Zc2 ?_
     cases hp
     exact ⟨rfl,j,H,I,y,(d.pk [0])⟩
   rintro l2 hp _ av am ⟨rfl,x,F,J,s,m⟩
   refine Zo (Zi (Zb _ F (Zb _ s (Zc (ZZ (m.rd0 s_t.rd) rfl rfl g) (Zc (zN (m.rd0 s_t.rd) rfl (Zf g) rfl) (Zc (Zbl rfl rfl) (Zg ?_)))))))
   refine Zo (zD hp rfl (fun P hp=>?_) (fun P hp=>?_))
   ·refine zI (Zb _ J (Zb _ s (Zc (Zc4 (cs:=Zm.c (⟨i,1⟩:Zq)) (by rw [(zp (v:=.n i) rfl (zp (v:=.n 1) rfl ZaN))]; rfl)) (zz (m.bsl (E:=Zm) (l:=[(⟨i,1⟩:Zq)]) m.fr (by rw [(zp (v:=.ag (Zm.c (⟨i,1⟩:Zq))) rfl ZaN)]; rfl) rfl) ?_))))
    rintro ay ao ⟨ax,ai,C⟩
    refine ckk hp fun R hp=>zz (C.app (bytes:=16) 0 C.fr rfl (C.sl 1 rfl) rfl rfl (fun _=>rfl) R (by decide)) ?_
    rintro M ap ⟨aj,aa⟩
    refine Zb M rfl (Zg (Zaf (Zo (zI (Zb _ s (ckk hp fun S hp=>Zc (zc rfl rfl S) (Zb (.n (i + 1)) rfl ?_)))))))
    refine Zg ?_
    cases hp
    exact ⟨rfl,M,F,rfl,rfl,(aa.pk [0])⟩
   ·refine Zc2 (Zaf (Zo (zI (Zb _ s (ckk hp fun T hp=>Zc (zc rfl rfl T) (Zb (.n (i + 1)) rfl (Zg ?_)))))))
    cases hp
    exact ⟨rfl,x,F,J,rfl,(m.pk [0])⟩
  ·refine Zbq (zM ?_)
   cases hp
   exact ⟨nofun,rfl,j,D,(d.pk [0])⟩
 rintro l1 hp _ ar al ⟨rfl,q,ad,W⟩
 refine Zav (Zo (Zi (Zb _ ad (Zb q rfl (Ze (Zar ?_))))))
 refine z4 (zX rfl ZK) ?_
 cases hp
 exact ⟨q,rfl,(W.pk [0])⟩

theorem Zad.ok {h:Hp} {t:List Int} {a:Zq} {b:Zq} {v_t:V} (s_t:Sl zT h v_t t) {r:Int} (hp:Zad t a b=some r) :
  ∃ u k',Is G 23 [v_t,.ag (Zm.c a),.ag (Zm.c b)] h u k'∧V.n r=u∧Own (fun r=>r < h.n) h k' []:=by
 refine WC.is (ZaP ZeF ?_)
 unfold Zad at hp
 let B:Nat→Prop:=(fun r=>r < h.n)
 have hO:Own B h h []:=Own.start0 h
 refine Zi (zz (hO.boxd (cs:=Zm.c a) hO.fr rfl rfl) ?_)
 rintro _ aS ⟨f,rfl,a3,aM,R⟩
 refine zz (R.boxd (cs:=Zm.c b) R.fr rfl rfl) ?_
 rintro _ aW ⟨g,rfl,a4,aN,aB⟩
 refine Zb (.n 0) rfl (Ze (Zi (Zb (.sn) rfl (Ze (ZB ?_)))))
 refine zI (Zb (.n 0) rfl (Ze (Zi (Zb (.n 0) rfl (Ze ?_)))))
 refine ZB (Zi (Zb (.n 0) rfl (Ze (Zaa ?_))))
 have aD:=aB.nil zT
 refine Zb7 hp (fun | (single,from_,to_,i),fr,k=>∃ j,fr 0=v_t∧fr 4=.p f 0∧fr 5=.p g 0∧fr 7=j∧fr 8=.n from_∧fr 9=.n to_∧fr 10=.n i∧Own B h k [zP f (Zm.c a),zP g (Zm.c b),eSl zT j single]) (fun | (single1,from_1,to_1),e,fr,k=>e=(.exit 0)∧∃ w,fr 7=w∧fr 8=.n from_1∧fr 9=.n to_1∧Own B h k [eSl zT w single1]) ⟨V.sn,rfl,rfl,rfl,rfl,rfl,rfl,rfl,(aD.pk [0,1,2])⟩ ?_ ?_
 ·rintro ⟨single,from_,to_,i⟩ a8 aY ⟨j,K,A,S,C,T,L,y,m⟩ a5 hp
  dsimp only [Zad.s0] at hp
  refine ZB (Zi (Zb _ y (Zb _ K (Zc (Zae (m.rd0 s_t.rd) rfl) (Zc (zF rfl rfl) (Ze (zD hp rfl (fun aj hp=>?_) (fun aj hp=>?_))))))))
  ·refine Zas (ZB (Zaa (ZB (Zi (Zb _ y (Zc (zG (r:=f) (o:=0) A rfl) ?_))))))
   refine Zc (ZU (m.box 0 rfl) rfl rfl) (Zc (Zbl rfl rfl) (Ze (Zgd hp (fun from_2 e fr k=>e=.normal∧fr 0=v_t∧fr 4=.p f 0∧fr 5=.p g 0∧fr 7=j∧fr 8=.n from_2∧fr 9=.n to_∧fr 10=.n i∧Own B h k [zP f (Zm.c a),zP g (Zm.c b),eSl zT j single]) (fun _ hp=>?_) ?_)))
   ·refine zD hp rfl (fun ak hp=>?_) (fun ak hp=>?_)
    ·refine zI (Zb _ C (Zc (Zae (m.sl 2 rfl) rfl) (Zc (zG (r:=f) (o:=0) A rfl) (Zc (ZU (m.box 0 rfl) rfl rfl) (ckk hp fun ao hp=>Zc (zc rfl rfl ao) (Zb (.n ((single.length:Int) + a.Part)) rfl (Zg ?_)))))))
     cases hp
     exact ⟨rfl,K,A,S,C,rfl,L,y,(m.pk [0,1,2])⟩
    ·refine Zc2 ?_
     cases hp
     exact ⟨rfl,K,A,S,C,T,L,y,(m.pk [0,1,2])⟩
   rintro from_2 hp _ a9 aZ ⟨rfl,U,W,D,N,X,aJ,M,s⟩
   refine Zo (ZB (Zi (Zb _ M (Zc (zG (r:=g) (o:=0) D rfl) (Zc (ZU (s.box 1 rfl) rfl rfl) (Zc (Zbl rfl rfl) (Zg ?_)))))))
   refine Zo (Zgd hp (fun to_2 e fr k=>e=.normal∧fr 0=v_t∧fr 4=.p f 0∧fr 5=.p g 0∧fr 7=j∧fr 8=.n from_2∧fr 9=.n to_2∧fr 10=.n i∧Own B h k [zP f (Zm.c a),zP g (Zm.c b),eSl zT j single]) (fun _ hp=>?_) ?_)
   ·refine zD hp rfl (fun al hp=>?_) (fun al hp=>?_)
    ·refine zI (Zb _ N (Zc (Zae (s.sl 2 rfl) rfl) (Zc (zG (r:=g) (o:=0) D rfl) (Zc (ZU (s.box 1 rfl) rfl rfl) (ckk hp fun ar hp=>Zc (zc rfl rfl ar) (Zb (.n ((single.length:Int) + b.Part)) rfl (Zg ?_)))))))
     cases hp
     exact ⟨rfl,U,W,D,N,X,rfl,M,(s.pk [0,1,2])⟩
    ·refine Zc2 ?_
     cases hp
     exact ⟨rfl,U,W,D,N,X,aJ,M,(s.pk [0,1,2])⟩
   rintro to_2 hp _ ba a0 ⟨rfl,F,Y,aa,ab,ac,ad,H,d⟩
   refine Zo (Zi (Zb _ F (Zb _ H (ckk hp fun x hp=>Zc (ZZ (d.rd0 s_t.rd) rfl rfl x) (Zc (zN (d.rd0 s_t.rd) rfl (Zf x) rfl) (Zc (Zbl rfl rfl) ?_))))))
   refine Ze (zD hp rfl (fun am hp=>?_) (fun am hp=>?_))
   ·refine zI (Zb _ ab (zz (d.bsl (E:=zT) (l:=([(-1),(-1)]:List Int)) d.fr (by rw [(zp (v:=.n (-1)) rfl (zp (v:=.n (-1)) rfl ZaN))]; rfl) rfl) ?_))
    rintro aL aF ⟨bd,aO,J⟩
    refine ckk hp fun au hp=>zz (J.app (bytes:=8) 2 J.fr rfl (J.sl 3 rfl:Sl zT aF aL ([(-1),(-1)]:List Int)) rfl rfl (fun _=>rfl) au (by decide)) ?_
    rintro ah a1 ⟨aP,aE⟩
    refine Zb ah rfl (Zg (Zaf (Zo (zI (Zb _ H (ckk hp fun av hp=>Zc (zc rfl rfl av) (Zb (.n (i + 1)) rfl ?_)))))))
    refine Zg ?_
    cases hp
    exact ⟨rfl,ah,F,Y,aa,rfl,ac,ad,rfl,(aE.pk [0,1,2])⟩
   ·refine zI (Zb _ ab (Zb _ F (Zb _ H (Zc (ZZ (d.rd0 s_t.rd) rfl rfl x) (Zc (zN (d.rd0 s_t.rd) rfl (Zf x) rfl) (zz (d.bsl (E:=zT) (l:=[gi t i.toNat]) d.fr (by rw [(zp (v:=.n (gi t i.toNat)) rfl ZaN)]; rfl) rfl) ?_))))))
    rintro bf a2 ⟨be,aQ,I⟩
    refine ckk hp fun aw hp=>zz (I.app (bytes:=8) 2 I.fr rfl (I.sl 3 rfl) rfl rfl (fun _=>rfl) aw (by decide)) ?_
    rintro ai aT ⟨aR,az⟩
    refine Zb ai rfl (Zg (Zaf (Zo (zI (Zb _ H (ckk hp fun ax hp=>Zc (zc rfl rfl ax) (Zb (.n (i + 1)) rfl ?_)))))))
    refine Zg ?_
    cases hp
    exact ⟨rfl,ai,F,Y,aa,rfl,ac,ad,rfl,(az.pk [0,1,2])⟩
  ·refine Zbq (zM ?_)
   cases hp
   exact ⟨nofun,rfl,j,C,T,L,(m.pk [2])⟩
 rintro ⟨single1,from_1,to_1⟩ hp _ a7 aX ⟨rfl,w,aG,aH,aI,aC⟩
 refine Zav (Zo (Zi (Zb (.n 0) rfl (Ze (ZB (ZB ?_))))))
 refine zI (Zb _ aH (Zb (.n from_1) rfl (Ze (Zaa (Zb7 hp (fun | (sum,k_),fr,k=>fr 7=w∧fr 9=.n to_1∧fr 11=.n sum∧fr 12=.n k_∧Own B h k [eSl zT w single1]) (fun sum1 e fr k=>e=(.exit 2)∧fr 11=.n sum1∧Own B h k []) ⟨aG,aI,rfl,rfl,(aC.pk [0])⟩ ?_ ?_)))))
 ·rintro ⟨sum,k_⟩ bc aV ⟨P,af,ae,O,q⟩ a6 hp
  dsimp only [Zad.s1] at hp
  refine ZB (Zi (Zb _ O (Zb _ af (Zc (Zc5 rfl rfl) (Ze (zD hp rfl (fun an hp=>?_) (fun an hp=>?_)))))))
  ·refine Zas (ZB (Zaa (zI (Zb _ ae (Zb _ P (Zb _ O (ckk hp fun Q hp=>?_)))))))
   refine Zc (ZZ (q.sl 0 rfl) rfl rfl Q) (Zc (zN (q.sl 0 rfl) rfl (Zf Q) rfl) (ckk hp fun ay hp=>Zc (zc rfl rfl ay) (Zb (.n (sum + (gi single1 k_.toNat))) rfl (Zg (Zaf (Zo (zI ?_)))))))
   refine Zb _ O (ckk hp fun ap hp=>Zc (zc rfl rfl ap) (Zb _ P (Zc (Zae (q.sl 0 rfl) rfl) (ckk hp fun aq hp=>Zc (Zc6 rfl rfl aq) (Zb (.n ((k_ + 1).tmod (single1.length:Int))) rfl (Zg ?_))))))
   cases hp
   exact ⟨rfl,P,af,rfl,rfl,(q.pk [0])⟩
  ·refine Zbq (zM ?_)
   cases hp
   exact ⟨nofun,rfl,ae,(q.pk [])⟩
 rintro sum1 hp _ bb aU ⟨rfl,aK,aA⟩
 refine Zav (Zo (Zi (Zb _ aK (Zb (.n sum1) rfl (Ze (Zar ?_))))))
 refine z4 (zX rfl ZK) ?_
 cases hp
 exact ⟨rfl,(aA.pk [])⟩

theorem zS.ok {h:Hp} {t:List Int} {v_t:V} (s_t:Sl zT h v_t t) {r:Zq × Zq × Bool} (hp:zS t=some r) :
  ∃ u k',Is G 25 [v_t] h u k'∧V.tu [.ag (Zm.c r.1),.ag (Zm.c r.2.1),.b r.2.2]=u∧Own (fun r=>r < h.n) h k' []:=by
 refine WC.is (ZaP Ze2 ?_)
 unfold zS at hp
 let B:Nat→Prop:=(fun r=>r < h.n)
 have hO:Own B h h []:=Own.start0 h
 refine Zi (zz (hO.alloc (cs:=Zm.c (⟨0,0⟩:Zq)) hO.fr) ?_)
 rintro _ aI ⟨a,rfl,aV,aC,R⟩
 refine zz (R.alloc (cs:=Zm.c (⟨0,0⟩:Zq)) R.fr) ?_
 rintro _ av ⟨d,rfl,aW,aD,S⟩
 refine Zb (.b false) rfl (Ze (Zi (Zb v_t rfl ?_)))
 obtain ⟨x,⟨a5,aN,ah,g,rfl,au⟩,hp⟩:=bdk hp fun _=>Zaw.ok (h:=av)  (S.rd0 s_t.rd)
 refine ZaI rfl rfl ah ?_
 have ar:=S.call au rfl
 refine Zb g rfl (Ze (ZB (Zi (Zb (.n 0) rfl (Ze ?_)))))
 refine Zaa (Zb7 hp (fun i fr k=>fr 0=v_t∧fr 2=.p a 0∧fr 3=.p d 0∧fr 5=g∧fr 6=.n i∧Own B h k [zP a (Zm.c (⟨0,0⟩:Zq)),zP d (Zm.c (⟨0,0⟩:Zq)),eSl Zm g x]) (fun | .inl _,e,fr,k=>e=(.exit 0)∧fr 2=.p a 0∧fr 3=.p d 0∧Own B h k [zP a (Zm.c (⟨0,0⟩:Zq)),zP d (Zm.c (⟨0,0⟩:Zq))] | .inr (x1,x2),e,fr,k=>e=.ret∧fr 2=.p a 0∧fr 3=.p d 0∧fr 4=.b true∧Own B h k [zP a (Zm.c x1),zP d (Zm.c x2)]) ⟨rfl,rfl,rfl,rfl,rfl,(ar.pk [0,1,2])⟩ ?_ ?_)
 ·rintro i a2 aP ⟨ax,W,X,Y,aa,J⟩ aZ hp
  dsimp only [zS.s0] at hp
  refine ZB (Zi (Zb _ aa (Zb _ Y (Zc (Zae (J.sl 2 rfl) rfl) (Zc (zF rfl rfl) (Ze (zD hp rfl (fun ab hp=>?_) (fun ab hp=>?_))))))))
  ·refine Zas (ZB (Zaa (Zi (Zb (.n 0) rfl (Ze ?_)))))
   refine Zaa (Zb7 hp (fun k_ fr k=>fr 0=v_t∧fr 2=.p a 0∧fr 3=.p d 0∧fr 5=g∧fr 6=.n i∧fr 7=.n k_∧Own B h k [zP a (Zm.c (⟨0,0⟩:Zq)),zP d (Zm.c (⟨0,0⟩:Zq)),eSl Zm g x]) (fun | .inl _,e,fr,k=>e=(.exit 2)∧fr 0=v_t∧fr 2=.p a 0∧fr 3=.p d 0∧fr 5=g∧fr 6=.n i∧Own B h k [zP a (Zm.c (⟨0,0⟩:Zq)),zP d (Zm.c (⟨0,0⟩:Zq)),eSl Zm g x] | .inr x3,e,fr,k=>e=.ret∧fr 2=.p a 0∧fr 3=.p d 0∧fr 4=.b true∧Own B h k [zP a (Zm.c (gi x i.toNat)),zP d (Zm.c x3)]) ⟨ax,W,X,Y,aa,rfl,(J.pk [0,1,2])⟩ ?_ ?_)
   ·rintro k_ a4 L ⟨O,v,E,f,F,H,A⟩ a0 hp
    dsimp only [zS.s1] at hp
    refine ZB (Zi (Zb _ H (Zb _ f (Zc (Zae (A.sl 2 rfl) rfl) (Zc (zF rfl rfl) (Ze (zD hp rfl (fun ac hp=>?_) (fun ac hp=>?_))))))))
    ·refine Zas (ZB (Zaa (ZB (ZeH ?_))))
     have l:=A.bump 11
     have al:=Fresh.start L 11
     have aX:∀ {i:Nat},h.n≤L.n + i:=Nat.le_trans A.n (Nat.le_add_right _ _)
     refine ZaU _ O (ZaU _ f (ZaU _ F (ckk hp fun w hp=>ZT (ZZ (l.sl 2 rfl) rfl rfl w) (ZT (Zdb (l.sl 2 rfl) rfl (Zf w)) (ZaU _ f (ZaU _ H (ckk hp fun y hp=>?_)))))))
     refine ZT (ZZ (l.sl 2 rfl) rfl rfl y) (ZT (Zdb (l.sl 2 rfl) rfl (Zf y)) ?_)
     obtain ⟨x4,⟨a6,U,ai,rfl,T⟩,hp⟩:=bdk hp fun _=>Zad.ok (h:=(L.bump 11))  (l.rd0 s_t.rd)
     refine Zi0 rfl rfl ai ?_
     have aG:=al.call T
     have s:=l.call T rfl
     refine ZaU (.n x4) rfl (Zcv ?_)
     refine And.intro ?_ ?_
     ·intro q hq
      simp only [List.mem_cons,List.not_mem_nil,or_false] at hq
      rcases hq with rfl
      ·refine z9 ?_ ?_
       ·exact (fun h=>nomatch h)
       ·exact (fun h=>nomatch h)
     refine Zo (Zi (Zb (.n x4) rfl (Zc (Zbl rfl rfl) (Ze (zD hp rfl (fun ad hp=>?_) (fun ad hp=>?_))))))
     ·refine ZB (ZeH ?_)
      have m:=s.bump 11
      have am:=Fresh.start U 11
      have aY:∀ {i:Nat},h.n≤U.n + i:=Nat.le_trans s.n (Nat.le_add_right _ _)
      refine ZaU _ f (ZaU _ F (ZT (ZZ (m.sl 2 rfl) rfl rfl w) (ZT (Zdb (m.sl 2 rfl) rfl (Zf w)) (ZaU _ f (ZaU _ H (ZT (ZZ (m.sl 2 rfl) rfl rfl y) (ZT (Zdb (m.sl 2 rfl) rfl (Zf y)) (Zd1 (m.stb (cs':=Zm.c (gi x i.toNat)) 0 rfl v rfl rfl ⟨rfl,Nat.le_of_ble_eq_true rfl,rfl⟩ rfl) ?_))))))))
      rintro _ aJ a7 ⟨rfl,aj,aR,ao⟩
      have an:=am.kept aj (by decide)
      refine Zd1 (ao.stb (cs':=Zm.c (gi x k_.toNat)) 1 rfl E rfl rfl ⟨rfl,Nat.le_of_ble_eq_true rfl,rfl⟩ rfl) ?_
      rintro _ aK a8 ⟨rfl,ak,aS,ap⟩
      have aH:=an.kept ak (by decide)
      refine ZaU (.b true) rfl (Zcv ?_)
      refine And.intro ?_ ?_
      ·intro q hq
       simp only [List.mem_cons,List.not_mem_nil,or_false] at hq
       rcases hq with rfl | rfl
       ·refine z9 ?_ ?_
        ·exact (fun h=>nomatch h)
        ·exact (fun h=>nomatch h)
       ·refine ZkL ?_ ?_ ?_
        ·exact (fun r h1 h2=>s.apartAt (i:=2) (j:=0) rfl rfl (by decide) r (ZbU (tch (ZbN h1) rfl)) (tch (Zlf h2) v))
        ·exact (fun h=>nomatch h)
        ·exact (fun _ hm=>Nat.lt_irrefl _ (Nat.lt_of_lt_of_le (s.ltAt 2 rfl _ (ZbU (tch (ZbN hm) rfl))) (Nat.le_add_right _ _)))
      refine Zo (Zar (Zbv (zE ?_)))
      cases hp
      exact ⟨nofun,rfl,v,E,rfl,(ap.pk [0,1])⟩
     ·refine Zc2 (Zaf (Zo (zI (Zb _ H (ckk hp fun ae hp=>Zc (zc rfl rfl ae) (Zb (.n (k_ + 1)) rfl (Zg ?_)))))))
      cases hp
      exact ⟨rfl,O,v,E,f,F,rfl,(s.pk [0,1,2])⟩
    ·refine Zbq (zM ?_)
     cases hp
     exact ⟨nofun,rfl,O,v,E,f,F,(A.pk [0,1,2])⟩
   rintro (_ | x3) hp _ a3 aQ Q
   ·obtain ⟨rfl,ay,M,N,aA,aB,K⟩:=Q
    refine Zav (Zaf (Zo (zI (Zb _ aB (ckk hp fun af hp=>Zc (zc rfl rfl af) (Zb (.n (i + 1)) rfl (Zg ?_)))))))
    cases hp
    exact ⟨rfl,ay,M,N,aA,rfl,(K.pk [0,1,2])⟩
   ·obtain ⟨rfl,M,N,az,K⟩:=Q
    refine Zbv (Zbv (zE ?_))
    cases hp
    exact ⟨nofun,rfl,M,N,az,(K.pk [0,1])⟩
  ·refine Zbq (zM ?_)
   cases hp
   exact ⟨nofun,rfl,W,X,(J.pk [0,1])⟩
 rintro (_ | ⟨x1,x2⟩) hp _ a1 aO P
 ·obtain ⟨rfl,C,D,o⟩:=P
  refine Zav (Zo (Zi (Zc (Zc4 (cs:=Zm.c (⟨(0:Int),(0:Int)⟩:Zq)) (by rw [ZaN]; rfl)) (Zc (Zc4 (cs:=Zm.c (⟨(0:Int),(0:Int)⟩:Zq)) (by rw [ZaN]; rfl)) (zz (o.stb (cs':=Zm.c (⟨(0:Int),(0:Int)⟩:Zq)) 0 rfl C rfl rfl ⟨rfl,Nat.le_of_ble_eq_true rfl,rfl⟩ rfl) ?_)))))
  rintro _ aL ⟨rfl,aE,aT,aq⟩
  refine zz (aq.stb (cs':=Zm.c (⟨(0:Int),(0:Int)⟩:Zq)) 1 rfl D rfl rfl ⟨rfl,Nat.le_of_ble_eq_true rfl,rfl⟩ rfl) ?_
  rintro _ aM ⟨rfl,aF,aU,I⟩
  refine Zb (.b false) rfl (Ze (Zar (z4 (Zgs C (I.box 0 rfl) rfl (Zgs D (I.box 1 rfl) rfl (zX rfl ZK))) ?_)))
  cases hp
  exact ⟨rfl,(I.pk [])⟩
 ·obtain ⟨rfl,C,D,aw,o⟩:=P
  refine Zbv (zE (z4 (Zgs C (o.box 0 rfl) rfl (Zgs D (o.box 1 rfl) rfl (zX aw ZK))) ?_))
  cases hp
  exact ⟨rfl,(o.pk [])⟩

end Mu
