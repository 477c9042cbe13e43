/- The code comes to what was worked out. -/
import Derived.Test.YtdefkboekpjiiaaMuDf
import Derived.Test.YtdefkboekpjiiaaMuPa
set_option linter.unusedVariables false
set_option linter.unnecessarySimpa false
set_option linter.unusedSimpArgs false
set_option maxHeartbeats 2000000
set_option maxRecDepth 10000
namespace Mu
open Go (IntKind BinOp UnOp)
theorem zS {x:Za} {i:Int} (h:0≤i∧i < 4):(Zd.c x)[0 + i.toNat * 1]?=some (.n ((x.Next).get i)):=by
 rcases (show i=0∨i=1∨i=2∨i=3 by omega) with rfl | rfl | rfl | rfl <;> rfl
theorem Zb2 {x:Za} {i:Int} {w:Int} (h:0≤i∧i < 4):over (Zd.c x) (0 + i.toNat * 1) [.n w]=Zd.c ({ x with Next:=(x.Next).set i w }):=by
 rcases (show i=0∨i=1∨i=2∨i=3 by omega) with rfl | rfl | rfl | rfl <;> rfl
theorem Zbe {x:Za} {i:Int} (h:0≤i∧i < 4):(Zd.c x)[4 + i.toNat * 1]?=some (.n ((x.Owner).get i)):=by
 rcases (show i=0∨i=1∨i=2∨i=3 by omega) with rfl | rfl | rfl | rfl <;> rfl
theorem ZbM {x:Za} {i:Int} {w:Int} (h:0≤i∧i < 4):over (Zd.c x) (4 + i.toNat * 1) [.n w]=Zd.c ({ x with Owner:=(x.Owner).set i w }):=by
 rcases (show i=0∨i=1∨i=2∨i=3 by omega) with rfl | rfl | rfl | rfl <;> rfl
theorem Zmg {x:A2 Int} {i:Int} (h:0≤i∧i < 2):(zZ.c x)[0 + i.toNat * 1]?=some (.n ((x).get i)):=by
 rcases (show i=0∨i=1 by omega) with rfl | rfl <;> rfl
theorem Zmf {x:A2 Int} {i:Int} (h:0≤i∧i < 2):Zb6 false (zZ.c x) (i.toNat * 1) 1=some (.n ((x).get i)):=by
 rcases (show i=0∨i=1 by omega) with rfl | rfl <;> rfl
theorem Zgr {x:A2 Int} {i:Int} {w:Int} (h:0≤i∧i < 2):over (zZ.c x) (0 + i.toNat * 1) [.n w]=zZ.c ((x).set i w):=by
 rcases (show i=0∨i=1 by omega) with rfl | rfl <;> rfl
theorem Zmh {x:A4 Int} {i:Int} (h:0≤i∧i < 4):(Zb9.c x)[0 + i.toNat * 1]?=some (.n ((x).get i)):=by
 rcases (show i=0∨i=1∨i=2∨i=3 by omega) with rfl | rfl | rfl | rfl <;> rfl
theorem Zgj {x:A4 Int} {i:Int} (h:0≤i∧i < 4):Zb6 false (Zb9.c x) (i.toNat * 1) 1=some (.n ((x).get i)):=by
 rcases (show i=0∨i=1∨i=2∨i=3 by omega) with rfl | rfl | rfl | rfl <;> rfl
theorem Zmi {x:A4 Int} {i:Int} {w:Int} (h:0≤i∧i < 4):over (Zb9.c x) (0 + i.toNat * 1) [.n w]=Zb9.c ((x).set i w):=by
 rcases (show i=0∨i=1∨i=2∨i=3 by omega) with rfl | rfl | rfl | rfl <;> rfl
theorem Zh3 (cs:List Go.Value) (h:OkL [some .u8] cs):∃ x:Int,Zfi.c x=cs.map toV∧Zek x:=by
 obtain ⟨n0,cs0,rfl,w0,h0⟩:=h.inv_i
 obtain rfl:=h0.inv_n
 exact ⟨n0,rfl,w0⟩
theorem Zl4 (cs:List Go.Value) (h:OkL [some .i8] cs):∃ x:Int,Zi2.c x=cs.map toV∧ZhP x:=by
 obtain ⟨n0,cs0,rfl,w0,h0⟩:=h.inv_i
 obtain rfl:=h0.inv_n
 exact ⟨n0,rfl,w0⟩
theorem Zjr (cs:List Go.Value) (h:OkL [none] cs):∃ x:Bool,e_bool.c x=cs.map toV∧Zgt x:=by
 obtain ⟨n0,cs0,rfl,h0⟩:=h.inv_b
 obtain rfl:=h0.inv_n
 exact ⟨n0,rfl,trivial⟩
theorem Zi1 (cs:List Go.Value) (h:OkL [some .u8,some .u8,some .u8] cs):∃ x:A3 Int,Zeb.c x=cs.map toV∧Zey x:=by
 obtain ⟨n0,cs0,rfl,w0,h0⟩:=h.inv_i
 obtain ⟨n1,cs1,rfl,w1,h1⟩:=h0.inv_i
 obtain ⟨n2,cs2,rfl,w2,h2⟩:=h1.inv_i
 obtain rfl:=h2.inv_n
 exact ⟨⟨n0,n1,n2⟩,rfl,⟨w0,w1,w2⟩⟩
theorem Zi0 (cs:List Go.Value) (h:OkL [some .u8,some .u8] cs):∃ x:A2 Int,Zdf.c x=cs.map toV∧Zfv x:=by
 obtain ⟨n0,cs0,rfl,w0,h0⟩:=h.inv_i
 obtain ⟨n1,cs1,rfl,w1,h1⟩:=h0.inv_i
 obtain rfl:=h1.inv_n
 exact ⟨⟨n0,n1⟩,rfl,⟨w0,w1⟩⟩
theorem Z3.ok {h:Hp} {n:Int}   {r:(List Za)} (hp:Z3 n=some r) :
  ∃ u k',Is G 46 [.n n] h u k'∧∃ t,t=u∧Own (fun r=>r < h.n) h k' [eSl Zd t r]:=by
 refine WC.is (ZaI ZcF ?_)
 unfold Z3 at hp
 let B:Nat→Prop:=(fun r=>r < h.n)
 have hO:Own B h h []:=Own.start0 h
 refine Zl (Zb (.sn) rfl (Zg (Zl (Zb (.n n) rfl (ckk hp fun A hp=>?_)))))
 refine zq (hO.mks (E:=Zd) (y:=(⟨⟨0,0,0,0⟩,⟨0,0,0,0⟩⟩:Za)) (bytes:=64) (z:=n) hO.fr rfl rfl rfl A (by decide)) ?_
 rintro a Q ⟨ae,O,F⟩
 refine Zb a rfl (Zg (ZN (Zl (Zb (.n 0) rfl (Zg ?_)))))
 refine zW (Zbf hp (fun | (l,v),fr,k=>fr 0=.n n∧fr 3=a∧fr 4=.n v∧Own B h k [eSl Zd a l]) (fun l1 e fr k=>e=(.exit 0)∧fr 3=a∧Own B h k [eSl Zd a l1]) ⟨rfl,rfl,rfl,(F.pk [0])⟩ ?_ ?_)
 ·rintro ⟨l,v⟩ ab S ⟨o,p,q,m⟩ X hp
  dsimp only [Z3.s0] at hp
  refine ZN (Zl (Zb _ q (Zb _ o (Zc (z3 rfl rfl) (Zg (zB hp rfl (fun w hp=>?_) (fun w hp=>?_)))))))
  ·refine Zal (ZN (zW (Zl (Zb (.n 0) rfl (Zg ?_)))))
   refine zW (Zbf hp (fun | (l2,d),fr,k=>fr 0=.n n∧fr 3=a∧fr 4=.n v∧fr 5=.n d∧Own B h k [eSl Zd a l2]) (fun l3 e fr k=>e=(.exit 2)∧fr 0=.n n∧fr 3=a∧fr 4=.n v∧Own B h k [eSl Zd a l3]) ⟨o,p,q,rfl,(m.pk [0])⟩ ?_ ?_)
   ·rintro ⟨l2,d⟩ ad U ⟨s,g,i,j,b⟩ Y hp
    dsimp only [Z3.s1] at hp
    refine ZN (Zl (Zb _ j (Zc (z3 rfl rfl) (Zg (zB hp rfl (fun x hp=>?_) (fun x hp=>?_))))))
    ·refine Zal (ZN (zW (zF (Zb _ g (Zb _ i (Zb _ j (ckk hp fun c hp=>?_)))))))
     refine Zc (zm (b.sl 0 rfl) rfl rfl c) (Zc (Za9 (b.sl 0 rfl) (Zh c) rfl rfl) (ckk hp fun f hp=>Zc (ZaE (b.sl 0 rfl) (Zh c) rfl rfl f rfl) (zq (b.ste (y:=({ gi l2 v.toNat with Next:=((gi l2 v.toNat).Next).set d (-1) })) 0 rfl rfl (Zh c) rfl rfl ⟨rfl,(by have:=f; exact (show 0 + d.toNat * 1 + 1≤8 by omega)),rfl⟩ (Zb2 f)) ?_)))
     rintro _ V ⟨rfl,P,W,J⟩
     refine Zj (zV (Zs (zF (Zb _ j (ckk hp fun C hp=>Zc (zn rfl rfl C) (Zb (.n (d + 1)) rfl (Zj ?_)))))))
     cases hp
     exact ⟨rfl,s,g,i,rfl,(J.pk [0])⟩
    ·refine ZaZ (zM ?_)
     cases hp
     exact ⟨nofun,rfl,s,g,i,(b.pk [0])⟩
   rintro l3 hp _ ac T ⟨rfl,L,M,N,I⟩
   refine Zav (zV (Zs (zF (Zb _ N (ckk hp fun D hp=>Zc (zn rfl rfl D) (Zb (.n (v + 1)) rfl (Zj ?_)))))))
   cases hp
   exact ⟨rfl,L,M,rfl,(I.pk [0])⟩
  ·refine ZaZ (zM ?_)
   cases hp
   exact ⟨nofun,rfl,p,(m.pk [0])⟩
 rintro l1 hp _ aa R ⟨rfl,K,H⟩
 refine Zav (Zs (Zl (Zb _ K (Zb a rfl (Zg (Zak ?_))))))
 refine z6 (zJ rfl ze) ?_
 cases hp
 exact ⟨a,rfl,(H.pk [0])⟩

theorem ZE.ok {h:Hp} {at_:List Zv} {i:Int} {d:Int} {v_at_:V} (s_at_:Sl Z1 h v_at_ at_) {r:Int} (hp:ZE at_ i d=some r) :
  ∃ u k',Is G 63 [v_at_,.n i,.n d] h u k'∧V.n r=u∧Own (fun r=>r < h.n) h k' []:=by
 refine WC.is (ZaI ZbT ?_)
 unfold ZE at hp
 let B:Nat→Prop:=(fun r=>r < h.n)
 have hO:Own B h h []:=Own.start0 h
 refine Zl (Zb (.n 0) rfl (Zg (Zl (Zb (.n (-1)) rfl (Zj ?_)))))
 refine Zs (ZN (Zl (Zb (.n 0) rfl (Zg (zW (Zbf hp (fun | (best,k_),fr,k=>fr 0=v_at_∧fr 1=.n i∧fr 2=.n d∧fr 7=.n best∧fr 8=.n k_∧Own B h k []) (fun best1 e fr k=>e=(.exit 0)∧fr 7=.n best1∧Own B h k []) ⟨rfl,rfl,rfl,rfl,rfl,(hO.pk [])⟩ ?_ ?_))))))
 ·rintro ⟨best,k_⟩ bt I ⟨C,an,ao,ap,K,am⟩ br hp
  dsimp only [ZE.s0] at hp
  refine ZN (Zl (Zb _ K (Zb _ C (Zc (zP (am.rd0 s_at_.rd) rfl) (Zc (z3 rfl rfl) (Zg (zB hp rfl (fun aG hp=>?_) (fun aG hp=>?_))))))))
  ·refine Zal (ZN (zW (ZN (ZN (Zhy ?_)))))
   have o:=am.bump 45
   refine Zaj _ ao (ZY rfl (ZaX rfl rfl) (Zaj (.b (decide (d=0))) rfl ?_))
   obtain ⟨t,a9,hp⟩:=Zan hp
   refine Zby 12 (fun f k=>(I.bump 45)=k∧f 29=.b t∧f 0=v_at_∧f 1=.n i∧f 2=.n d∧f 7=.n best∧f 8=.n k_) ?_ ?_
   ·clear hp; rcases Zaw a9 with ⟨c,hp⟩ | ⟨c,hp⟩
    ·refine ZA rfl c (Zaj _ C (ZA rfl c (Zaj _ K (ZA rfl c (ckk hp fun M hp=>ZY rfl (zm (o.rd0 s_at_.rd) rfl rfl M) (ZA rfl c (ZY rfl (Za9 (o.rd0 s_at_.rd) (Zh M) rfl rfl) ?_)))))))
     refine ZA rfl c (ZY rfl (zE (o.rd0 s_at_.rd) rfl (Zh M) rfl) (ZA rfl c (Zaj _ C (ZA rfl c (Zaj _ an (ZA rfl c (ckk hp fun Q hp=>ZY rfl (zm (o.rd0 s_at_.rd) rfl rfl Q) ?_)))))))
     refine ZA rfl c (ZY rfl (Za9 (o.rd0 s_at_.rd) (Zh Q) rfl rfl) (ZA rfl c (ZY rfl (zE (o.rd0 s_at_.rd) rfl (Zh Q) rfl) (ZA rfl c (ZY rfl (ZaX rfl rfl) (ZY rfl (Zag (v:=.b t) rfl c (Eq.trans (b:=V.b (decide ((gi at_ k_.toNat).Y=(gi at_ i.toNat).Y))) rfl (congrArg V.b (Option.some.inj hp)))) (Zae ?_)))))))
     exact ⟨rfl,rfl,C,an,ao,ap,K⟩
    ·refine Zu rfl c (Zu rfl c (Zu rfl c (Zu rfl c (Zu rfl c (Zu rfl c (Zu rfl c (Zu rfl c (Zu rfl c ?_))))))))
     refine Zu rfl c (Zu rfl c (ZY rfl (Zab (v:=.b t) rfl c (Eq.trans (b:=V.b false) rfl (congrArg V.b (Option.some.inj hp)))) (Zae ?_)))
     exact ⟨rfl,rfl,C,an,ao,ap,K⟩
   rintro bi _ ⟨rfl,aL,D,ac,av,aw,ad⟩
   refine Zaj _ aL ?_
   obtain ⟨t1,ba,hp⟩:=Zan hp
   refine Zby 12 (fun f k=>(I.bump 45)=k∧f 42=.b t1∧f 0=v_at_∧f 1=.n i∧f 2=.n d∧f 7=.n best∧f 8=.n k_) ?_ ?_
   ·clear hp; rcases Zaw ba with ⟨g,hp⟩ | ⟨g,hp⟩
    ·refine ZA rfl g (Zaj _ D (ZA rfl g (Zaj _ ad (ZA rfl g (ckk hp fun R hp=>ZY rfl (zm (o.rd0 s_at_.rd) rfl rfl R) (ZA rfl g (ZY rfl (Za9 (o.rd0 s_at_.rd) (Zh R) rfl rfl) ?_)))))))
     refine ZA rfl g (ZY rfl (zE (o.rd0 s_at_.rd) rfl (Zh R) rfl) (ZA rfl g (Zaj _ D (ZA rfl g (Zaj _ ac (ZA rfl g (ckk hp fun S hp=>ZY rfl (zm (o.rd0 s_at_.rd) rfl rfl S) ?_)))))))
     refine ZA rfl g (ZY rfl (Za9 (o.rd0 s_at_.rd) (Zh S) rfl rfl) (ZA rfl g (ZY rfl (zE (o.rd0 s_at_.rd) rfl (Zh S) rfl) (ZA rfl g (ZY rfl (Zc6 rfl rfl) (ZY rfl (Zag (v:=.b t1) rfl g (Eq.trans (b:=V.b (decide (((gi at_ i.toNat).X) < ((gi at_ k_.toNat).X)))) rfl (congrArg V.b (Option.some.inj hp)))) (Zae ?_)))))))
     exact ⟨rfl,rfl,D,ac,av,aw,ad⟩
    ·refine Zu rfl g (Zu rfl g (Zu rfl g (Zu rfl g (Zu rfl g (Zu rfl g (Zu rfl g (Zu rfl g (Zu rfl g ?_))))))))
     refine Zu rfl g (Zu rfl g (ZY rfl (Zab (v:=.b t1) rfl g (Eq.trans (b:=V.b false) rfl (congrArg V.b (Option.some.inj hp)))) (Zae ?_)))
     exact ⟨rfl,rfl,D,ac,av,aw,ad⟩
   rintro bj _ ⟨rfl,aM,w,ae,af,x,E⟩
   refine Zaj _ aM ?_
   obtain ⟨t2,bb,hp⟩:=Zan hp
   refine Zby 16 (fun f k=>(I.bump 45)=k∧f 59=.b t2∧f 0=v_at_∧f 1=.n i∧f 2=.n d∧f 7=.n best∧f 8=.n k_) ?_ ?_
   ·clear hp; rcases Zaw bb with ⟨q,hp⟩ | ⟨q,hp⟩
    ·refine ZA rfl q (Zaj _ x (ZA rfl q (ZY rfl (z3 rfl rfl) (ZA rfl q (Zaj (.b (decide (best < 0))) rfl ?_)))))
     obtain ⟨t3,bc,hp⟩:=Zan hp
     refine Zby 12 (fun f k=>(I.bump 45)=k∧f 58=.b t3∧f 0=v_at_∧f 1=.n i∧f 2=.n d∧f 43=.b t1∧f 7=.n best∧f 8=.n k_) ?_ ?_
     ·clear hp; rcases Zaw bc with ⟨j,hp⟩ | ⟨j,hp⟩
      ·refine Zu rfl j (Zu rfl j (Zu rfl j (Zu rfl j (Zu rfl j (Zu rfl j (Zu rfl j (Zu rfl j (Zu rfl j ?_))))))))
       refine Zu rfl j (Zu rfl j (ZA rfl q (ZY rfl (Zag (v:=.b t3) rfl j (Eq.trans (b:=V.b true) rfl (congrArg V.b (Option.some.inj hp)))) (Zae ?_))))
       exact ⟨rfl,rfl,w,ae,af,rfl,x,E⟩
      ·refine ZA rfl j (Zaj _ w (ZA rfl j (Zaj _ E (ZA rfl j (ckk hp fun T hp=>ZY rfl (zm (o.rd0 s_at_.rd) rfl rfl T) (ZA rfl j (ZY rfl (Za9 (o.rd0 s_at_.rd) (Zh T) rfl rfl) ?_)))))))
       refine ZA rfl j (ZY rfl (zE (o.rd0 s_at_.rd) rfl (Zh T) rfl) (ZA rfl j (Zaj _ w (ZA rfl j (Zaj _ x (ZA rfl j (ckk hp fun U hp=>ZY rfl (zm (o.rd0 s_at_.rd) rfl rfl U) ?_)))))))
       refine ZA rfl j (ZY rfl (Za9 (o.rd0 s_at_.rd) (Zh U) rfl rfl) (ZA rfl j (ZY rfl (zE (o.rd0 s_at_.rd) rfl (Zh U) rfl) (ZA rfl j (ZY rfl (z3 rfl rfl) (ZA rfl q (ZY rfl (Zab (v:=.b t3) rfl j (Eq.trans (b:=V.b (decide (((gi at_ k_.toNat).X) < ((gi at_ best.toNat).X)))) rfl (congrArg V.b (Option.some.inj hp)))) (Zae ?_))))))))
       exact ⟨rfl,rfl,w,ae,af,rfl,x,E⟩
     rintro bk _ ⟨rfl,aR,aN,aO,aP,aQ,aS,aT⟩
     refine ZY rfl (Zag (v:=.b t2) aQ q (Eq.trans (b:=V.b t3) aR (congrArg V.b (Option.some.inj hp)))) (Zae ?_)
     exact ⟨rfl,rfl,aN,aO,aP,aS,aT⟩
    ·refine Zu rfl q (Zu rfl q (Zu rfl q (ZbK rfl (ZbK rfl (ZbK rfl (ZbK rfl (ZbK rfl (ZbK rfl ?_))))))))
     refine ZbK rfl (ZbK rfl (ZbK rfl (ZbK rfl (ZbK rfl (Zu rfl q (ZY rfl (Zab (v:=.b t2) rfl q (Eq.trans (b:=V.b false) rfl (congrArg V.b (Option.some.inj hp)))) (Zae ?_)))))))
     exact ⟨rfl,rfl,w,ae,af,x,E⟩
   rintro bl _ ⟨rfl,aU,ax,ay,az,aV,ag⟩
   refine Zae (Zs (Zgw hp (fun best2 e fr k=>e=.normal∧fr 0=v_at_∧fr 1=.n i∧fr 2=.n d∧fr 7=.n best2∧fr 8=.n k_∧Own B h k []) (fun _ hp=>?_) ?_))
   ·refine zB hp aU (fun aI hp=>?_) (fun aI hp=>?_)
    ·refine zF (Zb _ ag (Zb (.n k_) rfl (Zj ?_)))
     cases hp
     exact ⟨rfl,ax,ay,az,rfl,ag,(o.pk [])⟩
    ·refine ZbN ?_
     cases hp
     exact ⟨rfl,ax,ay,az,aV,ag,(o.pk [])⟩
   rintro best2 hp _ bu J ⟨rfl,L,aq,ar,aF,au,a8⟩
   refine Zs (ZN (Zhy ?_))
   have p:=a8.bump 45
   refine Zaj _ ar (ZY rfl (ZaX rfl rfl) (Zaj (.b (decide (d=1))) rfl ?_))
   obtain ⟨t4,bd,hp⟩:=Zan hp
   refine Zby 12 (fun f k=>(J.bump 45)=k∧f 75=.b t4∧f 0=v_at_∧f 1=.n i∧f 2=.n d∧f 7=.n best2∧f 8=.n k_) ?_ ?_
   ·clear hp; rcases Zaw bd with ⟨l,hp⟩ | ⟨l,hp⟩
    ·refine ZA rfl l (Zaj _ L (ZA rfl l (Zaj _ au (ZA rfl l (ckk hp fun W hp=>ZY rfl (zm (p.rd0 s_at_.rd) rfl rfl W) (ZA rfl l (ZY rfl (Za9 (p.rd0 s_at_.rd) (Zh W) rfl rfl) ?_)))))))
     refine ZA rfl l (ZY rfl (zE (p.rd0 s_at_.rd) rfl (Zh W) rfl) (ZA rfl l (Zaj _ L (ZA rfl l (Zaj _ aq (ZA rfl l (ckk hp fun aa hp=>ZY rfl (zm (p.rd0 s_at_.rd) rfl rfl aa) ?_)))))))
     refine ZA rfl l (ZY rfl (Za9 (p.rd0 s_at_.rd) (Zh aa) rfl rfl) (ZA rfl l (ZY rfl (zE (p.rd0 s_at_.rd) rfl (Zh aa) rfl) (ZA rfl l (ZY rfl (ZaX rfl rfl) (ZY rfl (Zag (v:=.b t4) rfl l (Eq.trans (b:=V.b (decide ((gi at_ k_.toNat).X=(gi at_ i.toNat).X))) rfl (congrArg V.b (Option.some.inj hp)))) (Zae ?_)))))))
     exact ⟨rfl,rfl,L,aq,ar,aF,au⟩
    ·refine Zu rfl l (Zu rfl l (Zu rfl l (Zu rfl l (Zu rfl l (Zu rfl l (Zu rfl l (Zu rfl l (Zu rfl l ?_))))))))
     refine Zu rfl l (Zu rfl l (ZY rfl (Zab (v:=.b t4) rfl l (Eq.trans (b:=V.b false) rfl (congrArg V.b (Option.some.inj hp)))) (Zae ?_)))
     exact ⟨rfl,rfl,L,aq,ar,aF,au⟩
   rintro bm _ ⟨rfl,aW,F,ah,aA,aB,ai⟩
   refine Zaj _ aW ?_
   obtain ⟨t5,be,hp⟩:=Zan hp
   refine Zby 12 (fun f k=>(J.bump 45)=k∧f 88=.b t5∧f 0=v_at_∧f 1=.n i∧f 2=.n d∧f 7=.n best2∧f 8=.n k_) ?_ ?_
   ·clear hp; rcases Zaw be with ⟨m,hp⟩ | ⟨m,hp⟩
    ·refine ZA rfl m (Zaj _ F (ZA rfl m (Zaj _ ai (ZA rfl m (ckk hp fun ab hp=>ZY rfl (zm (p.rd0 s_at_.rd) rfl rfl ab) (ZA rfl m (ZY rfl (Za9 (p.rd0 s_at_.rd) (Zh ab) rfl rfl) ?_)))))))
     refine ZA rfl m (ZY rfl (zE (p.rd0 s_at_.rd) rfl (Zh ab) rfl) (ZA rfl m (Zaj _ F (ZA rfl m (Zaj _ ah (ZA rfl m (ckk hp fun N hp=>ZY rfl (zm (p.rd0 s_at_.rd) rfl rfl N) ?_)))))))
     refine ZA rfl m (ZY rfl (Za9 (p.rd0 s_at_.rd) (Zh N) rfl rfl) (ZA rfl m (ZY rfl (zE (p.rd0 s_at_.rd) rfl (Zh N) rfl) (ZA rfl m (ZY rfl (Zc6 rfl rfl) (ZY rfl (Zag (v:=.b t5) rfl m (Eq.trans (b:=V.b (decide (((gi at_ i.toNat).Y) < ((gi at_ k_.toNat).Y)))) rfl (congrArg V.b (Option.some.inj hp)))) (Zae ?_)))))))
     exact ⟨rfl,rfl,F,ah,aA,aB,ai⟩
    ·refine Zu rfl m (Zu rfl m (Zu rfl m (Zu rfl m (Zu rfl m (Zu rfl m (Zu rfl m (Zu rfl m (Zu rfl m ?_))))))))
     refine Zu rfl m (Zu rfl m (ZY rfl (Zab (v:=.b t5) rfl m (Eq.trans (b:=V.b false) rfl (congrArg V.b (Option.some.inj hp)))) (Zae ?_)))
     exact ⟨rfl,rfl,F,ah,aA,aB,ai⟩
   rintro bn _ ⟨rfl,aX,y,aj,ak,A,H⟩
   refine Zaj _ aX ?_
   obtain ⟨t6,bf,hp⟩:=Zan hp
   refine Zby 16 (fun f k=>(J.bump 45)=k∧f 105=.b t6∧f 0=v_at_∧f 1=.n i∧f 2=.n d∧f 7=.n best2∧f 8=.n k_) ?_ ?_
   ·clear hp; rcases Zaw bf with ⟨s,hp⟩ | ⟨s,hp⟩
    ·refine ZA rfl s (Zaj _ A (ZA rfl s (ZY rfl (z3 rfl rfl) (ZA rfl s (Zaj (.b (decide (best2 < 0))) rfl ?_)))))
     obtain ⟨t7,bg,hp⟩:=Zan hp
     refine Zby 12 (fun f k=>(J.bump 45)=k∧f 104=.b t7∧f 0=v_at_∧f 1=.n i∧f 2=.n d∧f 7=.n best2∧f 8=.n k_∧f 89=.b t5) ?_ ?_
     ·clear hp; rcases Zaw bg with ⟨a,hp⟩ | ⟨a,hp⟩
      ·refine Zu rfl a (Zu rfl a (Zu rfl a (Zu rfl a (Zu rfl a (Zu rfl a (Zu rfl a (Zu rfl a (Zu rfl a ?_))))))))
       refine Zu rfl a (Zu rfl a (ZA rfl s (ZY rfl (Zag (v:=.b t7) rfl a (Eq.trans (b:=V.b true) rfl (congrArg V.b (Option.some.inj hp)))) (Zae ?_))))
       exact ⟨rfl,rfl,y,aj,ak,A,H,rfl⟩
      ·refine ZA rfl a (Zaj _ y (ZA rfl a (Zaj _ H (ZA rfl a (ckk hp fun O hp=>ZY rfl (zm (p.rd0 s_at_.rd) rfl rfl O) (ZA rfl a (ZY rfl (Za9 (p.rd0 s_at_.rd) (Zh O) rfl rfl) ?_)))))))
       refine ZA rfl a (ZY rfl (zE (p.rd0 s_at_.rd) rfl (Zh O) rfl) (ZA rfl a (Zaj _ y (ZA rfl a (Zaj _ A (ZA rfl a (ckk hp fun P hp=>ZY rfl (zm (p.rd0 s_at_.rd) rfl rfl P) ?_)))))))
       refine ZA rfl a (ZY rfl (Za9 (p.rd0 s_at_.rd) (Zh P) rfl rfl) (ZA rfl a (ZY rfl (zE (p.rd0 s_at_.rd) rfl (Zh P) rfl) (ZA rfl a (ZY rfl (z3 rfl rfl) (ZA rfl s (ZY rfl (Zab (v:=.b t7) rfl a (Eq.trans (b:=V.b (decide (((gi at_ k_.toNat).Y) < ((gi at_ best2.toNat).Y)))) rfl (congrArg V.b (Option.some.inj hp)))) (Zae ?_))))))))
       exact ⟨rfl,rfl,y,aj,ak,A,H,rfl⟩
     rintro bo _ ⟨rfl,a0,aY,aZ,a1,a2,a3,a4⟩
     refine ZY rfl (Zag (v:=.b t6) a4 s (Eq.trans (b:=V.b t7) a0 (congrArg V.b (Option.some.inj hp)))) (Zae ?_)
     exact ⟨rfl,rfl,aY,aZ,a1,a2,a3⟩
    ·refine Zu rfl s (Zu rfl s (Zu rfl s (ZbK rfl (ZbK rfl (ZbK rfl (ZbK rfl (ZbK rfl (ZbK rfl ?_))))))))
     refine ZbK rfl (ZbK rfl (ZbK rfl (ZbK rfl (ZbK rfl (Zu rfl s (ZY rfl (Zab (v:=.b t6) rfl s (Eq.trans (b:=V.b false) rfl (congrArg V.b (Option.some.inj hp)))) (Zae ?_)))))))
     exact ⟨rfl,rfl,y,aj,ak,A,H⟩
   rintro bp _ ⟨rfl,a5,aC,aD,aE,a6,al⟩
   refine Zae (Zs (zB hp a5 (fun aH hp=>?_) (fun aH hp=>?_)))
   ·refine zF (Zb _ al (Zb (.n k_) rfl (Zj (zV (Zs (zF (Zb _ al (ckk hp fun aJ hp=>?_))))))))
    refine Zc (zn rfl rfl aJ) (Zb (.n (k_ + 1)) rfl (Zj ?_))
    cases hp
    exact ⟨rfl,aC,aD,aE,rfl,rfl,(p.pk [])⟩
   ·refine ZbN (zV (Zs (zF (Zb _ al (ckk hp fun aK hp=>Zc (zn rfl rfl aK) (Zb (.n (k_ + 1)) rfl (Zj ?_)))))))
    cases hp
    exact ⟨rfl,aC,aD,aE,a6,rfl,(p.pk [])⟩
  ·refine ZaZ (zM ?_)
   cases hp
   exact ⟨nofun,rfl,ap,(am.pk [])⟩
 rintro best1 hp _ bs bq ⟨rfl,bh,a7⟩
 refine Zav (Zs (Zl (Zb _ bh (Zb (.n best1) rfl (Zg (Zak ?_))))))
 refine z6 (zJ rfl ze) ?_
 cases hp
 exact ⟨rfl,(a7.pk [])⟩

theorem ZD.ok {h:Hp} {at_:List Zv} {l:List Za} {i:Int} {w:Int} {v_at_:V} {v_l:V} (s_at_:Sl Z1 h v_at_ at_) (s_l:Sl Zd h v_l l) {r:Bool} (hp:ZD at_ l i w=some r) :
  ∃ u k',Is G 64 [v_at_,v_l,.n i,.n w] h u k'∧V.b r=u∧Own (fun r=>r < h.n) h k' []:=by
 refine WC.is (ZaI ZbS ?_)
 unfold ZD at hp
 let B:Nat→Prop:=(fun r=>r < h.n)
 have hO:Own B h h []:=Own.start0 h
 refine Zl (Zb (.b false) rfl (Zg (ZN (Zl (Zb (.n 0) rfl ?_)))))
 refine Zg (zW (Zbf hp (fun a fr k=>fr 0=v_at_∧fr 1=v_l∧fr 2=.n i∧fr 3=.n w∧fr 9=.n a∧Own B h k []) (fun | .inl _,e,fr,k=>e=(.exit 0)∧Own B h k [] | .inr _,e,fr,k=>e=.ret∧fr 8=.b true∧Own B h k []) ⟨rfl,rfl,rfl,rfl,rfl,(hO.pk [])⟩ ?_ ?_))
 ·rintro a cT cG ⟨ch,bB,ci,cj,bC,aN⟩ cQ hp
  dsimp only [ZD.s0] at hp
  refine ZN (Zl (Zb _ bC (Zb _ bB (Zc (zP (aN.rd0 s_l.rd) rfl) (Zc (z3 rfl rfl) (Zg (zB hp rfl (fun bD hp=>?_) (fun bD hp=>?_))))))))
  ·refine Zal (ZN (zW (Zl (Zb (.n 0) rfl (Zg ?_)))))
   refine zW (Zbf hp (fun d fr k=>fr 0=v_at_∧fr 1=v_l∧fr 2=.n i∧fr 3=.n w∧fr 9=.n a∧fr 10=.n d∧Own B h k []) (fun | .inl _,e,fr,k=>e=(.exit 2)∧fr 0=v_at_∧fr 1=v_l∧fr 2=.n i∧fr 3=.n w∧fr 9=.n a∧Own B h k [] | .inr _,e,fr,k=>e=.ret∧fr 8=.b true∧Own B h k []) ⟨ch,bB,ci,cj,bC,rfl,(aN.pk [])⟩ ?_ ?_)
   ·rintro d cV cI ⟨L,N,P,Q,M,O,K⟩ cR hp
    dsimp only [ZD.s1] at hp
    refine ZN (Zl (Zb _ O (Zc (z3 rfl rfl) (Zg (zB hp rfl (fun bF hp=>?_) (fun bF hp=>?_))))))
    ·refine Zal (ZN (zW (Zl (Zb _ N (Zb _ M (Zb _ O ?_))))))
     refine ckk hp fun R hp=>Zc (zm (K.rd0 s_l.rd) rfl rfl R) (Zc (Za9 (K.rd0 s_l.rd) (Zh R) rfl rfl) (ckk hp fun aP hp=>Zc (ZaE (K.rd0 s_l.rd) (Zh R) rfl rfl aP rfl) (Zc (zE (K.rd0 s_l.rd) rfl (Zh R) (zS aP)) (Zb (.n (((gi l a.toNat).Next).get d)) rfl (Zg ?_)))))
     refine ZN (Zl (Zb (.n (((gi l a.toNat).Next).get d)) rfl (Zc (z3 rfl rfl) (Zg (zB hp rfl (fun bG hp=>?_) (fun bG hp=>?_))))))
     ·refine ZaZ (zM (Zav (Zs (zF (Zb _ O (ckk hp fun bK hp=>Zc (zn rfl rfl bK) (Zb (.n (d + 1)) rfl ?_)))))))
      refine Zj ?_
      cases hp
      exact ⟨rfl,L,N,P,Q,M,rfl,(K.pk [])⟩
     ·refine Zal (Zl (Zb _ L (Zb _ M (ckk hp fun aQ hp=>Zc (zm (K.rd0 s_at_.rd) rfl rfl aQ) (Zc (ZdQ (K.rd0 s_at_.rd) rfl (Zh aQ)) ?_)))))
      refine zq (K.alloc (cs:=Z1.c (⟨0,0⟩:Zv)) K.fr) ?_
      rintro _ cJ ⟨I,rfl,cO,cq,b3⟩
      refine zq (b3.stb (cs':=Z1.c (gi at_ a.toNat)) 0 rfl rfl rfl rfl ⟨rfl,Nat.le_of_ble_eq_true rfl,rfl⟩ rfl) ?_
      rintro _ cK ⟨rfl,cr,cM,T⟩
      refine Zg (Zl (Zb _ L (Zb (.n (((gi l a.toNat).Next).get d)) rfl (ckk hp fun aR hp=>Zc (zm (T.rd0 s_at_.rd) rfl rfl aR) (Zc (ZdQ (T.rd0 s_at_.rd) rfl (Zh aR)) ?_)))))
      refine zq (T.alloc (cs:=Z1.c (⟨0,0⟩:Zv)) T.fr) ?_
      rintro _ cL ⟨J,rfl,cP,ct,b4⟩
      refine zq (b4.stb (cs':=Z1.c (gi at_ (((gi l a.toNat).Next).get d:Int).toNat)) 1 rfl rfl rfl rfl ⟨rfl,Nat.le_of_ble_eq_true rfl,rfl⟩ rfl) ?_
      rintro _ g ⟨rfl,cu,cN,b5⟩
      refine Zg (ZN (ZN (Zhy ?_)))
      have m:=b5.bump 58
      refine ZY rfl (zy (r:=I) (o:=0) rfl rfl) (ZY rfl (zd (m.box 0 rfl) rfl rfl) (ZY rfl (zy (r:=J) (o:=0) rfl rfl) (ZY rfl (zd (m.box 1 rfl) rfl rfl) (ZY rfl (ZaX rfl rfl) (Zaj (.b (decide ((gi at_ a.toNat).Y=(gi at_ (((gi l a.toNat).Next).get d:Int).toNat).Y))) rfl ?_)))))
      obtain ⟨t,b6,hp⟩:=Zan hp
      refine Zby 12 (fun f k=>(g.bump 58)=k∧f 58=.b t∧f 0=v_at_∧f 1=v_l∧f 10=.n d∧f 12=.p I 0∧f 13=.p J 0∧f 2=.n i∧f 3=.n w∧f 9=.n a) ?_ ?_
      ·clear hp; rcases Zaw b6 with ⟨s,hp⟩ | ⟨s,hp⟩
       ·refine ZA rfl s (Zaj _ L (ZA rfl s (Zaj _ P (ZA rfl s (ckk hp fun ag hp=>ZY rfl (zm (m.rd0 s_at_.rd) rfl rfl ag) (ZA rfl s (ZY rfl (Za9 (m.rd0 s_at_.rd) (Zh ag) rfl rfl) ?_)))))))
        refine ZA rfl s (ZY rfl (zE (m.rd0 s_at_.rd) rfl (Zh ag) rfl) (ZA rfl s (Zaj _ L (ZA rfl s (Zaj _ Q (ZA rfl s (ckk hp fun ah hp=>ZY rfl (zm (m.rd0 s_at_.rd) rfl rfl ah) ?_)))))))
        refine ZA rfl s (ZY rfl (Za9 (m.rd0 s_at_.rd) (Zh ah) rfl rfl) (ZA rfl s (ZY rfl (zE (m.rd0 s_at_.rd) rfl (Zh ah) rfl) (ZA rfl s (ZY rfl (ZaX rfl rfl) (ZY rfl (Zag (v:=.b t) rfl s (Eq.trans (b:=V.b (decide ((gi at_ i.toNat).X=(gi at_ w.toNat).X))) rfl (congrArg V.b (Option.some.inj hp)))) (Zae ?_)))))))
        exact ⟨rfl,rfl,L,N,O,rfl,rfl,P,Q,M⟩
       ·refine Zu rfl s (Zu rfl s (Zu rfl s (Zu rfl s (Zu rfl s (Zu rfl s (Zu rfl s (Zu rfl s (Zu rfl s ?_))))))))
        refine Zu rfl s (Zu rfl s (ZY rfl (Zab (v:=.b t) rfl s (Eq.trans (b:=V.b false) rfl (congrArg V.b (Option.some.inj hp)))) (Zae ?_)))
        exact ⟨rfl,rfl,L,N,O,rfl,rfl,P,Q,M⟩
      rintro cv _ ⟨rfl,bS,ak,aS,aT,al,aU,am,aV,aW⟩
      refine Zaj _ bS ?_
      obtain ⟨t1,b8,hp⟩:=Zan hp
      refine Zby 9 (fun f k=>(g.bump 58)=k∧f 68=.b t1∧f 0=v_at_∧f 1=v_l∧f 10=.n d∧f 12=.p I 0∧f 13=.p J 0∧f 2=.n i∧f 3=.n w∧f 9=.n a) ?_ ?_
      ·clear hp; rcases Zaw b8 with ⟨D,hp⟩ | ⟨D,hp⟩
       ·refine ZA rfl D (ZY rfl (zy (r:=I) (o:=0) al rfl) (ZA rfl D (ZY rfl (zd (m.box 0 rfl) rfl rfl) (ZA rfl D (Zaj _ ak (ZA rfl D (Zaj _ am (ZA rfl D ?_))))))))
        refine ckk hp fun ai hp=>ZY rfl (zm (m.rd0 s_at_.rd) rfl rfl ai) (ZA rfl D (ZY rfl (Za9 (m.rd0 s_at_.rd) (Zh ai) rfl rfl) (ZA rfl D (ZY rfl (zE (m.rd0 s_at_.rd) rfl (Zh ai) rfl) (ZA rfl D (ZY rfl (z3 rfl rfl) (ZY rfl (Zag (v:=.b t1) rfl D (Eq.trans (b:=V.b (decide (((gi at_ a.toNat).X) < ((gi at_ i.toNat).X)))) rfl (congrArg V.b (Option.some.inj hp)))) ?_)))))))
        refine Zae ?_
        exact ⟨rfl,rfl,ak,aS,aT,al,aU,am,aV,aW⟩
       ·refine Zu rfl D (Zu rfl D (Zu rfl D (Zu rfl D (Zu rfl D (Zu rfl D (Zu rfl D (Zu rfl D (ZY rfl (Zab (v:=.b t1) rfl D (Eq.trans (b:=V.b false) rfl (congrArg V.b (Option.some.inj hp)))) ?_))))))))
        refine Zae ?_
        exact ⟨rfl,rfl,ak,aS,aT,al,aU,am,aV,aW⟩
      rintro cx _ ⟨rfl,bT,an,aX,aY,aZ,ao,ap,a0,a1⟩
      refine Zaj _ bT ?_
      obtain ⟨t2,b9,hp⟩:=Zan hp
      refine Zby 9 (fun f k=>(g.bump 58)=k∧f 78=.b t2∧f 0=v_at_∧f 1=v_l∧f 10=.n d∧f 12=.p I 0∧f 13=.p J 0∧f 2=.n i∧f 3=.n w∧f 9=.n a) ?_ ?_
      ·clear hp; rcases Zaw b9 with ⟨E,hp⟩ | ⟨E,hp⟩
       ·refine ZA rfl E (Zaj _ an (ZA rfl E (Zaj _ ap (ZA rfl E (ckk hp fun aj hp=>ZY rfl (zm (m.rd0 s_at_.rd) rfl rfl aj) (ZA rfl E (ZY rfl (Za9 (m.rd0 s_at_.rd) (Zh aj) rfl rfl) ?_)))))))
        refine ZA rfl E (ZY rfl (zE (m.rd0 s_at_.rd) rfl (Zh aj) rfl) (ZA rfl E (ZY rfl (zy (r:=J) (o:=0) ao rfl) (ZA rfl E (ZY rfl (zd (m.box 1 rfl) rfl rfl) (ZA rfl E (ZY rfl (z3 rfl rfl) (ZY rfl (Zag (v:=.b t2) rfl E (Eq.trans (b:=V.b (decide (((gi at_ i.toNat).X) < ((gi at_ (((gi l a.toNat).Next).get d:Int).toNat).X)))) rfl (congrArg V.b (Option.some.inj hp)))) ?_))))))))
        refine Zae ?_
        exact ⟨rfl,rfl,an,aX,aY,aZ,ao,ap,a0,a1⟩
       ·refine Zu rfl E (Zu rfl E (Zu rfl E (Zu rfl E (Zu rfl E (Zu rfl E (Zu rfl E (Zu rfl E (ZY rfl (Zab (v:=.b t2) rfl E (Eq.trans (b:=V.b false) rfl (congrArg V.b (Option.some.inj hp)))) ?_))))))))
        refine Zae ?_
        exact ⟨rfl,rfl,an,aX,aY,aZ,ao,ap,a0,a1⟩
      rintro cy _ ⟨rfl,bU,aq,a2,a3,ar,a4,au,a5,a6⟩
      refine Zaj _ bU ?_
      obtain ⟨t3,ca,hp⟩:=Zan hp
      refine Zby 9 (fun f k=>(g.bump 58)=k∧f 88=.b t3∧f 0=v_at_∧f 1=v_l∧f 10=.n d∧f 12=.p I 0∧f 13=.p J 0∧f 2=.n i∧f 3=.n w∧f 9=.n a) ?_ ?_
      ·clear hp; rcases Zaw ca with ⟨F,hp⟩ | ⟨F,hp⟩
       ·refine ZA rfl F (Zaj _ aq (ZA rfl F (Zaj _ au (ZA rfl F (ckk hp fun U hp=>ZY rfl (zm (m.rd0 s_at_.rd) rfl rfl U) (ZA rfl F (ZY rfl (Za9 (m.rd0 s_at_.rd) (Zh U) rfl rfl) ?_)))))))
        refine ZA rfl F (ZY rfl (zE (m.rd0 s_at_.rd) rfl (Zh U) rfl) (ZA rfl F (ZY rfl (zy (r:=I) (o:=0) ar rfl) (ZA rfl F (ZY rfl (zd (m.box 0 rfl) rfl rfl) (ZA rfl F (ZY rfl (z3 rfl rfl) (ZY rfl (Zag (v:=.b t3) rfl F (Eq.trans (b:=V.b (decide (((gi at_ i.toNat).Y) < ((gi at_ a.toNat).Y)))) rfl (congrArg V.b (Option.some.inj hp)))) ?_))))))))
        refine Zae ?_
        exact ⟨rfl,rfl,aq,a2,a3,ar,a4,au,a5,a6⟩
       ·refine Zu rfl F (Zu rfl F (Zu rfl F (Zu rfl F (Zu rfl F (Zu rfl F (Zu rfl F (Zu rfl F (ZY rfl (Zab (v:=.b t3) rfl F (Eq.trans (b:=V.b false) rfl (congrArg V.b (Option.some.inj hp)))) ?_))))))))
        refine Zae ?_
        exact ⟨rfl,rfl,aq,a2,a3,ar,a4,au,a5,a6⟩
      rintro cz _ ⟨rfl,bV,av,a7,a8,aw,a9,ba,ax,bb⟩
      refine Zaj _ bV ?_
      obtain ⟨t4,cb,hp⟩:=Zan hp
      refine Zby 9 (fun f k=>(g.bump 58)=k∧f 98=.b t4∧f 0=v_at_∧f 1=v_l∧f 10=.n d∧f 12=.p I 0∧f 13=.p J 0∧f 2=.n i∧f 3=.n w∧f 9=.n a) ?_ ?_
      ·clear hp; rcases Zaw cb with ⟨H,hp⟩ | ⟨H,hp⟩
       ·refine ZA rfl H (ZY rfl (zy (r:=I) (o:=0) aw rfl) (ZA rfl H (ZY rfl (zd (m.box 0 rfl) rfl rfl) (ZA rfl H (Zaj _ av (ZA rfl H (Zaj _ ax (ZA rfl H ?_))))))))
        refine ckk hp fun W hp=>ZY rfl (zm (m.rd0 s_at_.rd) rfl rfl W) (ZA rfl H (ZY rfl (Za9 (m.rd0 s_at_.rd) (Zh W) rfl rfl) (ZA rfl H (ZY rfl (zE (m.rd0 s_at_.rd) rfl (Zh W) rfl) (ZA rfl H (ZY rfl (z3 rfl rfl) (ZY rfl (Zag (v:=.b t4) rfl H (Eq.trans (b:=V.b (decide (((gi at_ a.toNat).Y) < ((gi at_ w.toNat).Y)))) rfl (congrArg V.b (Option.some.inj hp)))) ?_)))))))
        refine Zae ?_
        exact ⟨rfl,rfl,av,a7,a8,aw,a9,ba,ax,bb⟩
       ·refine Zu rfl H (Zu rfl H (Zu rfl H (Zu rfl H (Zu rfl H (Zu rfl H (Zu rfl H (Zu rfl H (ZY rfl (Zab (v:=.b t4) rfl H (Eq.trans (b:=V.b false) rfl (congrArg V.b (Option.some.inj hp)))) ?_))))))))
        refine Zae ?_
        exact ⟨rfl,rfl,av,a7,a8,aw,a9,ba,ax,bb⟩
      rintro cA _ ⟨rfl,bW,S,bc,bd,ay,az,aA,aB,be⟩
      refine Zae (Zs (zB hp bW (fun bH hp=>?_) (fun bH hp=>?_)))
      ·refine Zl (Zb (.b true) rfl (Zg (Zak (zG (Zbh (zG ?_))))))
       cases hp
       exact ⟨nofun,rfl,rfl,(m.pk [])⟩
      ·refine Zal (ZN (Zhy ?_))
       have j:=m.bump 58
       refine ZY rfl (zy (r:=I) (o:=0) ay rfl) (ZY rfl (zd (j.box 0 rfl) rfl rfl) (ZY rfl (zy (r:=J) (o:=0) az rfl) (ZY rfl (zd (j.box 1 rfl) rfl rfl) (ZY rfl (ZaX rfl rfl) (Zaj (.b (decide ((gi at_ a.toNat).X=(gi at_ (((gi l a.toNat).Next).get d:Int).toNat).X))) rfl ?_)))))
       obtain ⟨t5,cc,hp⟩:=Zan hp
       refine Zby 12 (fun f k=>((g.bump 58).bump 58)=k∧f 116=.b t5∧f 0=v_at_∧f 1=v_l∧f 10=.n d∧f 12=.p I 0∧f 13=.p J 0∧f 2=.n i∧f 3=.n w∧f 9=.n a) ?_ ?_
       ·clear hp; rcases Zaw cc with ⟨q,hp⟩ | ⟨q,hp⟩
        ·refine ZA rfl q (Zaj _ S (ZA rfl q (Zaj _ aA (ZA rfl q (ckk hp fun aa hp=>ZY rfl (zm (j.rd0 s_at_.rd:Sl Z1 ((g.bump 58).bump 58) v_at_ at_) rfl rfl aa) (ZA rfl q (ZY rfl (Za9 (j.rd0 s_at_.rd:Sl Z1 ((g.bump 58).bump 58) v_at_ at_) (Zh aa) rfl rfl) ?_)))))))
         refine ZA rfl q (ZY rfl (zE (j.rd0 s_at_.rd:Sl Z1 ((g.bump 58).bump 58) v_at_ at_) rfl (Zh aa) rfl) (ZA rfl q (Zaj _ S (ZA rfl q (Zaj _ aB (ZA rfl q (ckk hp fun ab hp=>ZY rfl (zm (j.rd0 s_at_.rd:Sl Z1 ((g.bump 58).bump 58) v_at_ at_) rfl rfl ab) ?_)))))))
         refine ZA rfl q (ZY rfl (Za9 (j.rd0 s_at_.rd:Sl Z1 ((g.bump 58).bump 58) v_at_ at_) (Zh ab) rfl rfl) (ZA rfl q (ZY rfl (zE (j.rd0 s_at_.rd:Sl Z1 ((g.bump 58).bump 58) v_at_ at_) rfl (Zh ab) rfl) (ZA rfl q (ZY rfl (ZaX rfl rfl) (ZY rfl (Zag (v:=.b t5) rfl q (Eq.trans (b:=V.b (decide ((gi at_ i.toNat).Y=(gi at_ w.toNat).Y))) rfl (congrArg V.b (Option.some.inj hp)))) (Zae ?_)))))))
         exact ⟨rfl,rfl,S,bc,bd,ay,az,aA,aB,be⟩
        ·refine Zu rfl q (Zu rfl q (Zu rfl q (Zu rfl q (Zu rfl q (Zu rfl q (Zu rfl q (Zu rfl q (Zu rfl q ?_))))))))
         refine Zu rfl q (Zu rfl q (ZY rfl (Zab (v:=.b t5) rfl q (Eq.trans (b:=V.b false) rfl (congrArg V.b (Option.some.inj hp)))) (Zae ?_)))
         exact ⟨rfl,rfl,S,bc,bd,ay,az,aA,aB,be⟩
       rintro cB _ ⟨rfl,bX,aC,bf,bg,aD,bh,aE,bi,bj⟩
       refine Zaj _ bX ?_
       obtain ⟨t6,cd,hp⟩:=Zan hp
       refine Zby 9 (fun f k=>((g.bump 58).bump 58)=k∧f 126=.b t6∧f 0=v_at_∧f 1=v_l∧f 10=.n d∧f 12=.p I 0∧f 13=.p J 0∧f 2=.n i∧f 3=.n w∧f 9=.n a) ?_ ?_
       ·clear hp; rcases Zaw cd with ⟨x,hp⟩ | ⟨x,hp⟩
        ·refine ZA rfl x (Zaj _ aC (ZA rfl x (Zaj _ aE (ZA rfl x (ckk hp fun ac hp=>ZY rfl (zm (j.rd0 s_at_.rd:Sl Z1 ((g.bump 58).bump 58) v_at_ at_) rfl rfl ac) (ZA rfl x (ZY rfl (Za9 (j.rd0 s_at_.rd:Sl Z1 ((g.bump 58).bump 58) v_at_ at_) (Zh ac) rfl rfl) ?_)))))))
         refine ZA rfl x (ZY rfl (zE (j.rd0 s_at_.rd:Sl Z1 ((g.bump 58).bump 58) v_at_ at_) rfl (Zh ac) rfl) (ZA rfl x (ZY rfl (zy (r:=I) (o:=0) aD rfl) (ZA rfl x (ZY rfl (zd (j.box 0 rfl) rfl rfl) (ZA rfl x (ZY rfl (z3 rfl rfl) (ZY rfl (Zag (v:=.b t6) rfl x (Eq.trans (b:=V.b (decide (((gi at_ i.toNat).X) < ((gi at_ a.toNat).X)))) rfl (congrArg V.b (Option.some.inj hp)))) ?_))))))))
         refine Zae ?_
         exact ⟨rfl,rfl,aC,bf,bg,aD,bh,aE,bi,bj⟩
        ·refine Zu rfl x (Zu rfl x (Zu rfl x (Zu rfl x (Zu rfl x (Zu rfl x (Zu rfl x (Zu rfl x (ZY rfl (Zab (v:=.b t6) rfl x (Eq.trans (b:=V.b false) rfl (congrArg V.b (Option.some.inj hp)))) ?_))))))))
         refine Zae ?_
         exact ⟨rfl,rfl,aC,bf,bg,aD,bh,aE,bi,bj⟩
       rintro cC _ ⟨rfl,bY,aF,bk,bl,aG,bm,bn,aH,bo⟩
       refine Zaj _ bY ?_
       obtain ⟨t7,ce,hp⟩:=Zan hp
       refine Zby 9 (fun f k=>((g.bump 58).bump 58)=k∧f 136=.b t7∧f 0=v_at_∧f 1=v_l∧f 10=.n d∧f 12=.p I 0∧f 13=.p J 0∧f 2=.n i∧f 3=.n w∧f 9=.n a) ?_ ?_
       ·clear hp; rcases Zaw ce with ⟨y,hp⟩ | ⟨y,hp⟩
        ·refine ZA rfl y (ZY rfl (zy (r:=I) (o:=0) aG rfl) (ZA rfl y (ZY rfl (zd (j.box 0 rfl) rfl rfl) (ZA rfl y (Zaj _ aF (ZA rfl y (Zaj _ aH (ZA rfl y ?_))))))))
         refine ckk hp fun ad hp=>ZY rfl (zm (j.rd0 s_at_.rd:Sl Z1 ((g.bump 58).bump 58) v_at_ at_) rfl rfl ad) (ZA rfl y (ZY rfl (Za9 (j.rd0 s_at_.rd:Sl Z1 ((g.bump 58).bump 58) v_at_ at_) (Zh ad) rfl rfl) (ZA rfl y (ZY rfl (zE (j.rd0 s_at_.rd:Sl Z1 ((g.bump 58).bump 58) v_at_ at_) rfl (Zh ad) rfl) (ZA rfl y (ZY rfl (z3 rfl rfl) (ZY rfl (Zag (v:=.b t7) rfl y (Eq.trans (b:=V.b (decide (((gi at_ a.toNat).X) < ((gi at_ w.toNat).X)))) rfl (congrArg V.b (Option.some.inj hp)))) ?_)))))))
         refine Zae ?_
         exact ⟨rfl,rfl,aF,bk,bl,aG,bm,bn,aH,bo⟩
        ·refine Zu rfl y (Zu rfl y (Zu rfl y (Zu rfl y (Zu rfl y (Zu rfl y (Zu rfl y (Zu rfl y (ZY rfl (Zab (v:=.b t7) rfl y (Eq.trans (b:=V.b false) rfl (congrArg V.b (Option.some.inj hp)))) ?_))))))))
         refine Zae ?_
         exact ⟨rfl,rfl,aF,bk,bl,aG,bm,bn,aH,bo⟩
       rintro cD _ ⟨rfl,b0,aI,bp,bq,bZ,br,aJ,bs,bt⟩
       refine Zaj _ b0 ?_
       obtain ⟨t8,cf,hp⟩:=Zan hp
       refine Zby 9 (fun f k=>((g.bump 58).bump 58)=k∧f 146=.b t8∧f 0=v_at_∧f 1=v_l∧f 10=.n d∧f 13=.p J 0∧f 2=.n i∧f 3=.n w∧f 9=.n a) ?_ ?_
       ·clear hp; rcases Zaw cf with ⟨A,hp⟩ | ⟨A,hp⟩
        ·refine ZA rfl A (ZY rfl (zy (r:=I) (o:=0) bZ rfl) (ZA rfl A (ZY rfl (zd (j.box 0 rfl) rfl rfl) (ZA rfl A (Zaj _ aI (ZA rfl A (Zaj _ aJ (ZA rfl A ?_))))))))
         refine ckk hp fun ae hp=>ZY rfl (zm (j.rd0 s_at_.rd:Sl Z1 ((g.bump 58).bump 58) v_at_ at_) rfl rfl ae) (ZA rfl A (ZY rfl (Za9 (j.rd0 s_at_.rd:Sl Z1 ((g.bump 58).bump 58) v_at_ at_) (Zh ae) rfl rfl) (ZA rfl A (ZY rfl (zE (j.rd0 s_at_.rd:Sl Z1 ((g.bump 58).bump 58) v_at_ at_) rfl (Zh ae) rfl) (ZA rfl A (ZY rfl (z3 rfl rfl) (ZY rfl (Zag (v:=.b t8) rfl A (Eq.trans (b:=V.b (decide (((gi at_ a.toNat).Y) < ((gi at_ i.toNat).Y)))) rfl (congrArg V.b (Option.some.inj hp)))) ?_)))))))
         refine Zae ?_
         exact ⟨rfl,rfl,aI,bp,bq,br,aJ,bs,bt⟩
        ·refine Zu rfl A (Zu rfl A (Zu rfl A (Zu rfl A (Zu rfl A (Zu rfl A (Zu rfl A (Zu rfl A (ZY rfl (Zab (v:=.b t8) rfl A (Eq.trans (b:=V.b false) rfl (congrArg V.b (Option.some.inj hp)))) ?_))))))))
         refine Zae ?_
         exact ⟨rfl,rfl,aI,bp,bq,br,aJ,bs,bt⟩
       rintro cE _ ⟨rfl,b2,aK,bu,bv,b1,aL,bw,bx⟩
       refine Zaj _ b2 ?_
       obtain ⟨t9,b7,hp⟩:=Zan hp
       refine Zby 9 (fun f k=>((g.bump 58).bump 58)=k∧f 156=.b t9∧f 0=v_at_∧f 1=v_l∧f 10=.n d∧f 2=.n i∧f 3=.n w∧f 9=.n a) ?_ ?_
       ·clear hp; rcases Zaw b7 with ⟨C,hp⟩ | ⟨C,hp⟩
        ·refine ZA rfl C (Zaj _ aK (ZA rfl C (Zaj _ aL (ZA rfl C (ckk hp fun af hp=>ZY rfl (zm (j.rd0 s_at_.rd:Sl Z1 ((g.bump 58).bump 58) v_at_ at_) rfl rfl af) (ZA rfl C (ZY rfl (Za9 (j.rd0 s_at_.rd:Sl Z1 ((g.bump 58).bump 58) v_at_ at_) (Zh af) rfl rfl) ?_)))))))
         refine ZA rfl C (ZY rfl (zE (j.rd0 s_at_.rd:Sl Z1 ((g.bump 58).bump 58) v_at_ at_) rfl (Zh af) rfl) (ZA rfl C (ZY rfl (zy (r:=J) (o:=0) b1 rfl) (ZA rfl C (ZY rfl (zd (j.box 1 rfl) rfl rfl) (ZA rfl C (ZY rfl (z3 rfl rfl) (ZY rfl (Zag (v:=.b t9) rfl C (Eq.trans (b:=V.b (decide (((gi at_ i.toNat).Y) < ((gi at_ (((gi l a.toNat).Next).get d:Int).toNat).Y)))) rfl (congrArg V.b (Option.some.inj hp)))) ?_))))))))
         refine Zae ?_
         exact ⟨rfl,rfl,aK,bu,bv,aL,bw,bx⟩
        ·refine Zu rfl C (Zu rfl C (Zu rfl C (Zu rfl C (Zu rfl C (Zu rfl C (Zu rfl C (Zu rfl C (ZY rfl (Zab (v:=.b t9) rfl C (Eq.trans (b:=V.b false) rfl (congrArg V.b (Option.some.inj hp)))) ?_))))))))
         refine Zae ?_
         exact ⟨rfl,rfl,aK,bu,bv,aL,bw,bx⟩
       rintro cw _ ⟨rfl,bO,bL,bM,bN,bP,bQ,bR⟩
       refine Zae (Zs (zB hp bO (fun bE hp=>?_) (fun bE hp=>?_)))
       ·refine Zl (Zb (.b true) rfl (Zg (Zak (Zbh (zG ?_)))))
        cases hp
        exact ⟨nofun,rfl,rfl,(j.pk [])⟩
       ·refine ZbN (zV (Zs (zF (Zb _ bN (ckk hp fun bI hp=>Zc (zn rfl rfl bI) (Zb (.n (d + 1)) rfl (Zj ?_)))))))
        cases hp
        exact ⟨rfl,bL,bM,bP,bQ,bR,rfl,(j.pk [])⟩
    ·refine ZaZ (zM ?_)
     cases hp
     exact ⟨nofun,rfl,L,N,P,Q,M,(K.pk [])⟩
   rintro (_ | _) hp _ cU cH bA
   ·obtain ⟨rfl,ck,cl,cm,cn,cp,aO⟩:=bA
    refine Zav (zV (Zs (zF (Zb _ cp (ckk hp fun bJ hp=>Zc (zn rfl rfl bJ) (Zb (.n (a + 1)) rfl (Zj ?_)))))))
    cases hp
    exact ⟨rfl,ck,cl,cm,cn,rfl,(aO.pk [])⟩
   ·obtain ⟨rfl,co,aO⟩:=bA
    refine Zbh (Zbh (zG ?_))
    cases hp
    exact ⟨nofun,rfl,co,(aO.pk [])⟩
  ·refine ZaZ (zM ?_)
   cases hp
   exact ⟨nofun,rfl,(aN.pk [])⟩
 rintro (_ | _) hp _ cS cF bz
 ·obtain ⟨rfl,aM⟩:=bz
  refine Zav (Zs (Zl (Zb (.b false) rfl (Zg (Zak (z6 (zJ rfl ze) ?_))))))
  cases hp
  exact ⟨rfl,(aM.pk [])⟩
 ·obtain ⟨rfl,cg,aM⟩:=bz
  refine Zbh (zG (z6 (zJ cg ze) ?_))
  cases hp
  exact ⟨rfl,(aM.pk [])⟩

theorem ZS.ok {h:Hp} {l:List Za} {v:Int} {d:Int} {w:Int} {o:Int} {v_l:V} (s_l:Sl Zd h v_l l) {r:(List Za)} (hp:ZS l v d w o=some r) :
  ∃ u k',Is G 65 [v_l,.n v,.n d,.n w,.n o] h u k'∧∃ U,U=u∧Own (fun r=>r < h.n) h k' [eSl Zd U r]:=by
 refine WC.is (ZaI Zc4 ?_)
 unfold ZS at hp
 let B:Nat→Prop:=(fun r=>r < h.n)
 have hO:Own B h h []:=Own.start0 h
 refine Zl (Zb (.sn) rfl (Zg (Zl (Zb (.sn) rfl (Zj ?_)))))
 refine Zs (ZN (Zl (Zb (.n 0) rfl (Zg (zW ?_)))))
 have ak:=hO.nil Zd
 refine Zbf hp (fun | (out,i),fr,k=>∃ j,fr 0=v_l∧fr 1=.n v∧fr 2=.n d∧fr 3=.n w∧fr 4=.n o∧fr 11=j∧fr 12=.n i∧Own B h k [eSl Zd j out]) (fun out1 e fr k=>e=(.exit 0)∧∃ q,fr 11=q∧Own B h k [eSl Zd q out1]) ⟨V.sn,rfl,rfl,rfl,rfl,rfl,rfl,rfl,(ak.pk [0])⟩ ?_ ?_
 ·rintro ⟨out,i⟩ aY aI ⟨j,t,H,x,J,K,I,m,f⟩ aW hp
  dsimp only [ZS.s0] at hp
  refine ZN (Zl (Zb _ m (Zb _ t (Zc (zP (f.rd0 s_l.rd) rfl) (Zc (z3 rfl rfl) (Zg (zB hp rfl (fun Y hp=>?_) (fun Y hp=>?_))))))))
  ·refine Zal (ZN (zW (Zl (Zb _ t (Zb _ m (ckk hp fun P hp=>?_))))))
   refine Zc (zm (f.rd0 s_l.rd) rfl rfl P) (Zc (ZdQ (f.rd0 s_l.rd) rfl (Zh P)) (zq (f.alloc (cs:=Zd.c (⟨⟨0,0,0,0⟩,⟨0,0,0,0⟩⟩:Za)) f.fr) ?_))
   rintro _ aJ ⟨g,rfl,aV,au,al⟩
   refine zq (al.stb (cs':=Zd.c (gi l i.toNat)) 1 rfl rfl rfl rfl ⟨rfl,Nat.le_of_ble_eq_true rfl,rfl⟩ rfl) ?_
   rintro _ aK ⟨rfl,aw,aQ,R⟩
   refine Zg (ZN (Zl (Zb _ m (Zb _ H (Zc (ZaX rfl rfl) (Zj ?_))))))
   refine Zs (Zgw hp (fun c e fr k=>e=.normal∧fr 0=v_l∧fr 1=.n v∧fr 2=.n d∧fr 3=.n w∧fr 4=.n o∧fr 11=j∧fr 12=.n i∧fr 13=.p g 0∧Own B h k [eSl Zd j out,zI g (Zd.c c)]) (fun _ hp=>?_) ?_)
   ·refine zB hp rfl (fun aa hp=>?_) (fun aa hp=>?_)
    ·refine Zl (Zb _ x (Zb _ J (Zc (zy (r:=g) (o:=0) rfl rfl) (ckk hp fun a hp=>Zc (ZdP (o:=0) (o':=(0 + d.toNat * 1)) rfl rfl a rfl) (zq (R.stb (cs':=Zd.c ({ gi l i.toNat with Next:=((gi l i.toNat).Next).set d w })) 1 rfl rfl rfl rfl ⟨rfl,(by have:=a; exact (show 0 + d.toNat * 1 + 1≤8 by omega)),rfl⟩ (Zb2 a)) ?_)))))
     rintro _ aM ⟨rfl,ax,aR,am⟩
     refine Zg (zF (Zb _ x (Zb _ K (Zc (zy (r:=g) (o:=0) rfl rfl) (Zc (ZdP (o:=4) (o':=(4 + d.toNat * 1)) rfl rfl a rfl) (zq (am.stb (cs':=Zd.c ({ { gi l i.toNat with Next:=((gi l i.toNat).Next).set d w } with Owner:=(({ gi l i.toNat with Next:=((gi l i.toNat).Next).set d w }).Owner).set d o })) 1 rfl rfl rfl rfl ⟨rfl,(by have:=a; exact (show 4 + d.toNat * 1 + 1≤8 by omega)),rfl⟩ (ZbM a)) ?_))))))
     rintro _ aN ⟨rfl,ay,aS,an⟩
     refine Zj ?_
     cases hp
     exact ⟨rfl,t,H,x,J,K,I,m,rfl,(an.pk [0,1])⟩
    ·refine ZbN ?_
     cases hp
     exact ⟨rfl,t,H,x,J,K,I,m,rfl,(R.pk [0,1])⟩
   rintro c hp _ aZ aL ⟨rfl,S,L,A,N,O,T,M,y,s⟩
   refine Zs (ZN (Zl (Zb _ M (Zb _ N (Zc (ZaX rfl rfl) (Zg (zB hp rfl (fun ab hp=>?_) (fun ab hp=>?_))))))))
   ·refine Zl (Zb _ A (ckk hp fun Q hp=>Zc (zn rfl rfl Q) (Zc (Zbx rfl rfl (by decide)) (Zb _ L (Zc (zy (r:=g) (o:=0) y rfl) (ckk hp fun b hp=>?_))))))
    refine Zc (ZdP (o:=0) (o':=(0 + ((d + 2).tmod 4:Int).toNat * 1)) rfl rfl b rfl) (zq (s.stb (cs':=Zd.c ({ c with Next:=c.Next.set ((d + 2).tmod 4) v })) 1 rfl rfl rfl rfl ⟨rfl,(by have:=b; exact (show 0 + ((d + 2).tmod 4:Int).toNat * 1 + 1≤8 by omega)),rfl⟩ (Zb2 b)) ?_)
    rintro _ aO ⟨rfl,az,aT,ao⟩
    refine Zg (zF (Zb _ A (Zc (zn rfl rfl Q) (Zc (Zbx rfl rfl (by decide)) (Zb _ O (Zc (zy (r:=g) (o:=0) y rfl) (Zc (ZdP (o:=4) (o':=(4 + ((d + 2).tmod 4:Int).toNat * 1)) rfl rfl b rfl) ?_)))))))
    refine zq (ao.stb (cs':=Zd.c ({ { c with Next:=c.Next.set ((d + 2).tmod 4) v } with Owner:=(({ c with Next:=c.Next.set ((d + 2).tmod 4) v }).Owner).set ((d + 2).tmod 4) o })) 1 rfl rfl rfl rfl ⟨rfl,(by have:=b; exact (show 4 + ((d + 2).tmod 4:Int).toNat * 1 + 1≤8 by omega)),rfl⟩ (ZbM b)) ?_
    rintro _ aP ⟨rfl,aA,aU,C⟩
    refine Zg (zF (Zb _ T (Zc (Za7 (C.box 1 rfl) y rfl) (zq (C.bsl (E:=Zd) (l:=[{ { c with Next:=c.Next.set ((d + 2).tmod 4) v } with Owner:=(({ c with Next:=c.Next.set ((d + 2).tmod 4) v }).Owner).set ((d + 2).tmod 4) o }]) C.fr (by rw [(zp (v:=.ag (Zd.c ({ { c with Next:=c.Next.set ((d + 2).tmod 4) v } with Owner:=(({ c with Next:=c.Next.set ((d + 2).tmod 4) v }).Owner).set ((d + 2).tmod 4) o }))) rfl Za3)]; rfl) rfl) ?_))))
    rintro ar ap ⟨a0,aB,D⟩
    refine ckk hp fun ac hp=>zq (D.app (bytes:=64) 0 D.fr rfl (D.sl 2 rfl:Sl Zd ap ar [{ { c with Next:=c.Next.set ((d + 2).tmod 4) v } with Owner:=(({ c with Next:=c.Next.set ((d + 2).tmod 4) v }).Owner).set ((d + 2).tmod 4) o }]) rfl rfl (fun _=>rfl) ac (by decide)) ?_
    rintro W aF ⟨aC,ai⟩
    refine Zb W rfl (Zj (zV (Zs (zF (Zb _ M (ckk hp fun ad hp=>Zc (zn rfl rfl ad) (Zb (.n (i + 1)) rfl ?_)))))))
    refine Zj ?_
    cases hp
    exact ⟨rfl,W,S,L,A,N,O,rfl,rfl,(ai.pk [0])⟩
   ·refine Zal (zF (Zb _ T (Zc (Za7 (s.box 1 rfl) y rfl) (zq (s.bsl (E:=Zd) (l:=[c]) s.fr (by rw [(zp (v:=.ag (Zd.c c)) rfl Za3)]; rfl) rfl) ?_))))
    rintro a2 aG ⟨a1,aD,F⟩
    refine ckk hp fun ae hp=>zq (F.app (bytes:=64) 0 F.fr rfl (F.sl 2 rfl) rfl rfl (fun _=>rfl) ae (by decide)) ?_
    rintro X aH ⟨av,aj⟩
    refine Zb X rfl (Zj (zV (Zs (zF (Zb _ M (ckk hp fun af hp=>Zc (zn rfl rfl af) (Zb (.n (i + 1)) rfl ?_)))))))
    refine Zj ?_
    cases hp
    exact ⟨rfl,X,S,L,A,N,O,rfl,rfl,(aj.pk [0])⟩
  ·refine ZaZ (zM ?_)
   cases hp
   exact ⟨nofun,rfl,j,I,(f.pk [0])⟩
 rintro out1 hp _ aX aE ⟨rfl,q,aq,ah⟩
 refine Zav (Zs (Zl (Zb _ aq (Zb q rfl (Zg (Zak ?_))))))
 refine z6 (zJ rfl ze) ?_
 cases hp
 exact ⟨q,rfl,(ah.pk [0])⟩

theorem Z8.ok {h:Hp} {z:zj} {most:Int} {v_z_At:V} {v_z_Bits:V} {v_z_Own:V} (s_z_At:Sl Zfi h v_z_At z.At) (s_z_Bits:Sl Zfi h v_z_Bits z.Bits) (s_z_Own:Sl Zi2 h v_z_Own z.Own) {r:(List Za) × (List Zv)} (hp:Z8 z most=some r) :
  ∃ u k',Is G 28 [.ag [v_z_At,v_z_Bits,v_z_Own],.n most] h u k'∧∃ aZ a1,V.tu [aZ,a1]=u∧Own (fun r=>r < h.n) h k' [eSl Zd aZ r.1,eSl Z1 a1 r.2]:=by
 refine WC.is (ZaI Zc3 ?_)
 unfold Z8 at hp
 let B:Nat→Prop:=(fun r=>r < h.n)
 have hO:Own B h h []:=Own.start0 h
 refine Zl (zq (hO.boxd (cs:=[v_z_At,v_z_Bits,v_z_Own]) hO.fr rfl rfl) ?_)
 rintro _ ct ⟨a,rfl,cG,cl,bK⟩
 refine Zb (.sn) rfl (Zb (.sn) rfl (Zg (Zl (Zb (.sn) rfl (Zg ?_)))))
 refine ZN (Zl (Zb (.n 0) rfl (Zg (zW ?_))))
 have bR:=bK.nil Z1
 refine Zbf hp (fun | (at_,i),fr,k=>∃ A,fr 1=.n most∧fr 2=.p a 0∧fr 6=A∧fr 7=.n i∧Own B h k [zI a [v_z_At,v_z_Bits,v_z_Own],eSl Z1 A at_]) (fun at_1 e fr k=>e=(.exit 0)∧∃ g,fr 2=.p a 0∧fr 6=g∧Own B h k [zI a [v_z_At,v_z_Bits,v_z_Own],eSl Z1 g at_1]) ⟨V.sn,rfl,rfl,rfl,rfl,(bR.pk [0,1])⟩ ?_ ?_
 ·rintro ⟨at_,i⟩ cO au ⟨A,ay,az,aA,aB,s⟩ cJ hp
  dsimp only [Z8.s0] at hp
  refine ZN (Zl (Zb _ aB (Zc (zy (r:=a) (o:=0) az rfl) (Zc (zd (s.box 0 rfl) rfl rfl) (Zc (zP (s.rd0 s_z_At.rd) rfl) (Zc (z3 rfl rfl) (Zb (.b (decide (i < (z.At.length:Int)))) rfl (zO 5 (fun f k=>au=k∧f 28=.b ((decide (i < (z.At.length:Int))) && (decide ((at_.length:Int) < most)))∧f 1=.n most∧f 2=.p a 0∧f 6=A∧f 7=.n i) ?_ ?_))))))))
  ·rcases bc (decide (i < (z.At.length:Int))) with y | y
   ·refine Z5 rfl y (Zb _ aA (Z5 rfl y (Zc (zP (s.sl 1 rfl) rfl) (Z5 rfl y (Zb _ ay (Z5 rfl y (Zc (z3 rfl rfl) (Zc (Zda rfl y rfl) ?_))))))))
    refine Zj ?_
    exact ⟨rfl,rfl,ay,az,aA,aB⟩
   ·refine Zr rfl y (Zr rfl y (Zr rfl y (Zr rfl y (Zc (ZcZ (w:=(decide (i < (z.At.length:Int))) && (decide ((at_.length:Int) < most))) rfl y rfl) (Zj ?_)))))
    exact ⟨rfl,rfl,ay,az,aA,aB⟩
  rintro cp _ ⟨rfl,bB,bA,T,aO,al⟩
  refine Zg (zB hp bB (fun a7 hp=>?_) (fun a7 hp=>?_))
  ·refine Zal (ZN (zW (ZN (Zfy ?_))))
   have I:=s.bump 18
   have aN:=Fresh.start au 18
   have b4:∀ {i:Nat},h.n≤au.n + i:=Nat.le_trans s.n (Nat.le_add_right _ _)
   refine zA (zy (r:=a) (o:=0) T rfl) (zA (zd (I.box 0 rfl) rfl rfl) (Zbi _ al (ckk hp fun K hp=>zA (zm (I.rd0 s_z_At.rd) rfl rfl K) (zA (zE (I.rd0 s_z_At.rd) rfl (Zh K) rfl) (ckk hp fun aK hp=>zA (ZcB rfl aK) (zA (Zbx rfl rfl (by decide)) ?_))))))
   refine zA (zy (r:=a) (o:=0) T rfl) (zA (zd (I.box 0 rfl) rfl rfl) (Zbi _ al (zA (zm (I.rd0 s_z_At.rd) rfl rfl K) (zA (zE (I.rd0 s_z_At.rd) rfl (Zh K) rfl) (zA (ZcB rfl aK) (ckk hp fun bm hp=>zA (ZgY rfl rfl bm) (zA (Zbx rfl rfl (by decide)) ?_)))))))
   refine zA (Zdc (cs:=Z1.c (⟨(gi z.At i.toNat).tmod 8,((gi z.At i.toNat).tdiv 8).tmod 8⟩:Zv)) (by rw [(zp (v:=.n ((gi z.At i.toNat).tmod 8)) rfl (zp (v:=.n (((gi z.At i.toNat).tdiv 8).tmod 8)) rfl Za3))]; rfl)) (Zei (I.alloc (cs:=Z1.c (⟨0,0⟩:Zv)) ⟨aN.m 16 (by decide) (by decide),b4⟩) ?_)
   rintro _ cC c1 ⟨R,rfl,cH,bw,bS⟩
   have bz:=aN.kept bw (by decide)
   refine Zei (bS.stb (cs':=Z1.c (⟨(gi z.At i.toNat).tmod 8,((gi z.At i.toNat).tdiv 8).tmod 8⟩:Zv)) 2 rfl rfl rfl rfl ⟨rfl,Nat.le_of_ble_eq_true rfl,rfl⟩ rfl) ?_
   rintro _ cD c2 ⟨rfl,bx,cF,bT⟩
   have co:=bz.kept bx (by decide)
   refine Zcd ?_
   refine And.intro ?_ ?_
   ·intro q hq
    simp only [List.mem_cons,List.not_mem_nil,or_false] at hq
    rcases hq with rfl | rfl | rfl | rfl | rfl | rfl | rfl | rfl
    ·refine Zau ?_ ?_
     ·exact (fun h=>nomatch h)
     ·exact (fun h=>nomatch h)
    ·refine Zau ?_ ?_
     ·exact (fun h=>nomatch h)
     ·exact (fun h=>nomatch h)
    ·refine Zau ?_ ?_
     ·exact (fun h=>nomatch h)
     ·exact (fun h=>nomatch h)
    ·refine Zau ?_ ?_
     ·exact (fun h=>nomatch h)
     ·exact (fun h=>nomatch h)
    ·refine Zau ?_ ?_
     ·exact (fun h=>nomatch h)
     ·exact (fun _ hm=>Nat.lt_irrefl _ (Nat.lt_of_lt_of_le (s.ltAt 0 rfl _ (tch (ZcI hm) rfl)) (Nat.le_add_right _ _)))
    ·refine Zau ?_ ?_
     ·exact (fun h=>nomatch h)
     ·exact (fun _ hm=>Nat.lt_irrefl _ (Nat.lt_of_lt_of_le (Nat.lt_of_lt_of_le (s.lo _ (Rd.B s_z_At.rd s.lo (Zh K) _ (ZcT (tch (ZcI hm) rfl)))) s.n) (Nat.le_add_right _ _)))
    ·refine Zau ?_ ?_
     ·exact (fun h=>nomatch h)
     ·exact (fun _ hm=>Nat.lt_irrefl _ (Nat.lt_of_lt_of_le (s.ltAt 0 rfl _ (tch (ZcI hm) rfl)) (Nat.le_add_right _ _)))
    ·refine Zau ?_ ?_
     ·exact (fun h=>nomatch h)
     ·exact (fun _ hm=>Nat.lt_irrefl _ (Nat.lt_of_lt_of_le (Nat.lt_of_lt_of_le (s.lo _ (Rd.B s_z_At.rd s.lo (Zh K) _ (ZcT (tch (ZcI hm) rfl)))) s.n) (Nat.le_add_right _ _)))
   refine Zs (Zl (Zb (.b false) rfl (Zg (ZN (Zl ?_)))))
   refine Zb (.n 0) rfl (Zg (zW (Zbf hp (fun | (met,k_),fr,k=>fr 1=.n most∧fr 2=.p a 0∧fr 6=A∧fr 7=.n i∧fr 8=.p R 0∧fr 9=.b met∧fr 10=.n k_∧Own B h k [zI a [v_z_At,v_z_Bits,v_z_Own],eSl Z1 A at_,zI R (Z1.c (⟨(gi z.At i.toNat).tmod 8,((gi z.At i.toNat).tdiv 8).tmod 8⟩:Zv))]) (fun | (at_2,met1),e,fr,k=>e=(.exit 2)∧fr 1=.n most∧fr 2=.p a 0∧fr 6=A∧fr 7=.n i∧fr 8=.p R 0∧fr 9=.b met1∧Own B h k [zI a [v_z_At,v_z_Bits,v_z_Own],eSl Z1 A at_2,zI R (Z1.c (⟨(gi z.At i.toNat).tmod 8,((gi z.At i.toNat).tdiv 8).tmod 8⟩:Zv))]) ⟨bA,T,aO,al,rfl,rfl,rfl,(bT.pk [0,1,2])⟩ ?_ ?_)))
   ·rintro ⟨met,k_⟩ cQ b3 ⟨aC,aD,O,aE,ah,aY,af,ar⟩ cK hp
    dsimp only [Z8.s1] at hp
    refine ZN (Zl (Zb _ af (Zb _ O (Zc (zP (ar.sl 1 rfl) rfl) (Zc (z3 rfl rfl) (Zg (zB hp rfl (fun a8 hp=>?_) (fun a8 hp=>?_))))))))
    ·refine Zal (ZN (zW (Zhy ?_)))
     have aa:=ar.bump 10
     refine Zaj _ aY (Zaj (.b met) rfl ?_)
     obtain ⟨t,bY,hp⟩:=Zan hp
     refine Zby 7 (fun f k=>(b3.bump 10)=k∧f 61=.b t∧f 1=.n most∧f 10=.n k_∧f 2=.p a 0∧f 6=A∧f 7=.n i∧f 8=.p R 0) ?_ ?_
     ·clear hp; rcases Zaw bY with ⟨j,hp⟩ | ⟨j,hp⟩
      ·refine Zu rfl j (Zu rfl j (Zu rfl j (Zu rfl j (Zu rfl j (Zu rfl j (ZY rfl (Zag (v:=.b t) rfl j (Eq.trans (b:=V.b true) rfl (congrArg V.b (Option.some.inj hp)))) (Zae ?_)))))))
       exact ⟨rfl,rfl,aC,af,aD,O,aE,ah⟩
      ·refine ZA rfl j (Zaj _ O (ZA rfl j (Zaj _ af (ZA rfl j (ckk hp fun aL hp=>ZY rfl (zm (aa.sl 1 rfl) rfl rfl aL) (ZA rfl j (ZY rfl (ZdQ (aa.sl 1 rfl) rfl (Zh aL)) ?_)))))))
       refine ZA rfl j (ZY rfl (Za7 (aa.box 2 rfl) ah rfl) (ZA rfl j (ZY rfl (Zmw (as:=Z1.c (gi at_ k_.toNat)) (bs:=Z1.c (⟨(gi z.At i.toNat).tmod 8,((gi z.At i.toNat).tdiv 8).tmod 8⟩:Zv)) rfl rfl (Mu.Z1.same _ _)) (ZY rfl (Zab (v:=.b t) rfl j (Eq.trans (b:=V.b (decide (gi at_ k_.toNat=(⟨(gi z.At i.toNat).tmod 8,((gi z.At i.toNat).tdiv 8).tmod 8⟩:Zv)))) rfl (congrArg V.b (Option.some.inj hp)))) (Zae ?_)))))
       exact ⟨rfl,rfl,aC,af,aD,O,aE,ah⟩
     rintro cq _ ⟨rfl,bG,bC,bD,bE,bF,bH,bI⟩
     refine Zaj _ bG (Zae (zV (Zs (zF (Zb _ bD (ckk hp fun bn hp=>Zc (zn rfl rfl bn) (Zb (.n (k_ + 1)) rfl ?_)))))))
     refine Zj ?_
     cases hp
     exact ⟨rfl,bC,bE,bF,bH,bI,rfl,rfl,(aa.pk [0,1,2])⟩
    ·refine ZaZ (zM ?_)
     cases hp
     exact ⟨nofun,rfl,aC,aD,O,aE,ah,aY,(ar.pk [0,1,2])⟩
   rintro ⟨at_2,met1⟩ hp _ cP cE ⟨rfl,aU,aV,aW,aX,b6,b7,ac⟩
   refine Zav (Zs (Zl (Zb _ b7 (Zc (Zdd rfl) (Zg (zB hp rfl (fun a9 hp=>?_) (fun a9 hp=>?_)))))))
   ·refine zF (Zb _ aW (Zc (Za7 (ac.box 2 rfl) b6 rfl) (zq (ac.bsl (E:=Z1) (l:=[(⟨(gi z.At i.toNat).tmod 8,((gi z.At i.toNat).tdiv 8).tmod 8⟩:Zv)]) ac.fr (by rw [(zp (v:=.ag (Z1.c (⟨(gi z.At i.toNat).tmod 8,((gi z.At i.toNat).tdiv 8).tmod 8⟩:Zv))) rfl Za3)]; rfl) rfl) ?_)))
    rintro ck bZ ⟨cW,cm,ao⟩
    refine ckk hp fun bo hp=>zq (ao.app (bytes:=16) 1 ao.fr rfl (ao.sl 3 rfl:Sl Z1 bZ ck [(⟨(gi z.At i.toNat).tmod 8,((gi z.At i.toNat).tdiv 8).tmod 8⟩:Zv)]) rfl rfl (fun _=>rfl) bo (by decide)) ?_
    rintro a2 cu ⟨cn,bL⟩
    refine Zb a2 rfl (Zj (zV (Zs (zF (Zb _ aX (ckk hp fun bp hp=>Zc (zn rfl rfl bp) (Zb (.n (i + 1)) rfl ?_)))))))
    refine Zj ?_
    cases hp
    exact ⟨rfl,a2,aU,aV,rfl,rfl,(bL.pk [0,1])⟩
   ·refine ZbN (zV (Zs (zF (Zb _ aX (ckk hp fun bq hp=>Zc (zn rfl rfl bq) (Zb (.n (i + 1)) rfl (Zj ?_)))))))
    cases hp
    exact ⟨rfl,A,aU,aV,aW,rfl,(ac.pk [0,1])⟩
  ·refine ZaZ (zM ?_)
   cases hp
   exact ⟨nofun,rfl,A,T,aO,(s.pk [0,1])⟩
 rintro at_1 hp _ cM b1 ⟨rfl,g,b5,aT,aQ⟩
 refine Zav (Zs (Zl (Zb _ aT (Zc (zP (aQ.sl 1 rfl) rfl) ?_))))
 obtain ⟨x,⟨cX,cv,br,a3,rfl,bU⟩,hp⟩:=bdk hp fun _=>Z3.ok (h:=b1)  
 refine Zat rfl rfl br ?_
 have bM:=aQ.call bU rfl
 refine Zb a3 rfl (Zg (ZN (Zl (Zb (.n 0) rfl (Zg ?_)))))
 refine zW (Zbf hp (fun | (at_3,l,i1),fr,k=>∃ D,fr 2=.p a 0∧fr 6=g∧fr 11=D∧fr 12=.n i1∧Own B h k [zI a [v_z_At,v_z_Bits,v_z_Own],eSl Z1 g at_3,eSl Zd D l]) (fun | (at_4,l1),e,fr,k=>e=(.exit 4)∧∃ S,fr 6=g∧fr 11=S∧Own B h k [eSl Z1 g at_4,eSl Zd S l1]) ⟨a3,b5,aT,rfl,rfl,(bM.pk [0,1,2])⟩ ?_ ?_)
 ·rintro ⟨at_3,l,i1⟩ cS cx ⟨D,ai,aj,aF,P,C⟩ cL hp
  dsimp only [Z8.s2] at hp
  refine ZN (Zl (Zb _ P (Zb _ aj (Zc (zP (C.sl 1 rfl) rfl) (Zc (z3 rfl rfl) (Zg (zB hp rfl (fun ba hp=>?_) (fun ba hp=>?_))))))))
  ·refine Zal (ZN (zW (Zl (Zb (.i .u8 3) rfl (Zg ?_)))))
   refine ZN (Zl (Zb _ P (Zc (zy (r:=a) (o:=0) ai rfl) (Zc (zd (C.box 0 rfl) rfl rfl) (Zc (zP (C.rd0 s_z_Bits.rd) rfl) (Zc (z3 rfl rfl) (Zj ?_)))))))
   refine Zs (Zgw hp (fun | (at_5,l2,bits),e,fr,k=>e=.normal∧fr 2=.p a 0∧fr 6=g∧fr 11=D∧fr 12=.n i1∧fr 13=.i .u8 bits∧Own B h k [zI a [v_z_At,v_z_Bits,v_z_Own],eSl Z1 g at_5,eSl Zd D l2]) (fun _ hp=>?_) ?_)
   ·refine zB hp rfl (fun bb hp=>?_) (fun bb hp=>?_)
    ·refine zF (Zc (zy (r:=a) (o:=0) ai rfl) (Zc (zd (C.box 0 rfl) rfl rfl) (Zb _ P (ckk hp fun aM hp=>Zc (zm (C.rd0 s_z_Bits.rd) rfl rfl aM) (Zc (zE (C.rd0 s_z_Bits.rd) rfl (Zh aM) rfl) (Zb (.i .u8 (gi z.Bits i1.toNat)) rfl (Zj ?_)))))))
     cases hp
     exact ⟨rfl,ai,aj,aF,P,rfl,(C.pk [0,1,2])⟩
    ·refine ZbN ?_
     cases hp
     exact ⟨rfl,ai,aj,aF,P,rfl,(C.pk [0,1,2])⟩
   rintro ⟨at_5,l2,bits⟩ hp _ cT cy ⟨rfl,Q,aI,aG,L,aH,F⟩
   refine Zs (Zl (Zb _ L (Zb (.n i1) rfl (Zg (ZN (ZN ?_))))))
   refine zF (Zb _ L (Zc (zy (r:=a) (o:=0) Q rfl) (Zc (zd (F.box 0 rfl) rfl rfl) (Zc (zP (F.rd0 s_z_Own.rd) rfl) (Zc (z3 rfl rfl) (Zg (Zgw hp (fun | (at_6,l3,own),e,fr,k=>e=.normal∧fr 2=.p a 0∧fr 6=g∧fr 11=D∧fr 12=.n i1∧fr 13=.i .u8 bits∧fr 14=.n own∧Own B h k [zI a [v_z_At,v_z_Bits,v_z_Own],eSl Z1 g at_6,eSl Zd D l3]) (fun _ hp=>?_) ?_)))))))
   ·refine zB hp rfl (fun bd hp=>?_) (fun bd hp=>?_)
    ·refine Zl (Zc (zy (r:=a) (o:=0) Q rfl) (Zc (zd (F.box 0 rfl) rfl rfl) (Zb _ L (ckk hp fun aJ hp=>Zc (zm (F.rd0 s_z_Own.rd) rfl rfl aJ) (Zc (zE (F.rd0 s_z_Own.rd) rfl (Zh aJ) rfl) (ckk hp fun bf hp=>?_))))))
     refine Zc (ZcB rfl bf) (Zb (.n (gi z.Own i1.toNat)) rfl (Zg (Zl (Zb (.n (gi z.Own i1.toNat)) rfl (Zc (z3 rfl rfl) (Zj ?_))))))
     refine Zs (zB hp rfl (fun be hp=>?_) (fun be hp=>?_))
     ·refine zF (Zb (.n (gi z.Own i1.toNat)) rfl (ckk hp fun bg hp=>Zc (Zmz rfl bg) (Zb (.n (-(gi z.Own i1.toNat))) rfl (Zj ?_))))
      cases hp
      exact ⟨rfl,Q,aI,aG,L,aH,rfl,(F.pk [0,1,2])⟩
     ·refine ZbN ?_
      cases hp
      exact ⟨rfl,Q,aI,aG,L,aH,rfl,(F.pk [0,1,2])⟩
    ·refine ZbN ?_
     cases hp
     exact ⟨rfl,Q,aI,aG,L,aH,rfl,(F.pk [0,1,2])⟩
   rintro ⟨at_6,l3,own⟩ hp _ cU cz ⟨rfl,ce,cf,ca,cb,cc,cd,bO⟩
   refine Zs (Zl (Zb (.n 0) rfl (Zg (zW (Zbf hp (fun | (l4,d),fr,k=>∃ J,fr 2=.p a 0∧fr 6=g∧fr 11=J∧fr 12=.n i1∧fr 13=.i .u8 bits∧fr 14=.n own∧fr 15=.n d∧Own B h k [zI a [v_z_At,v_z_Bits,v_z_Own],eSl Z1 g at_6,eSl Zd J l4]) (fun l5 e fr k=>e=(.exit 6)∧∃ ak,fr 2=.p a 0∧fr 6=g∧fr 11=ak∧fr 12=.n i1∧Own B h k [zI a [v_z_At,v_z_Bits,v_z_Own],eSl Z1 g at_6,eSl Zd ak l5]) ⟨D,ce,cf,ca,cb,cc,cd,rfl,(bO.pk [0,1,2])⟩ ?_ ?_)))))
   ·rintro ⟨l4,d⟩ cN b0 ⟨J,ax,ae,av,ad,aw,aS,N,ap⟩ cI hp
    dsimp only [Z8.s3] at hp
    refine ZN (Zl (Zb _ N (Zc (z3 rfl rfl) (Zg (zB hp rfl (fun a4 hp=>?_) (fun a4 hp=>?_))))))
    ·refine Zal (ZN (zW (Zl (Zb _ ae (Zb _ ad (Zb _ N ?_))))))
     obtain ⟨x1,⟨cY,aR,bt,rfl,bV⟩,hp⟩:=bdk hp fun _=>ZE.ok (h:=b0)  (ap.sl 1 rfl)
     refine Zat rfl rfl bt ?_
     have ab:=ap.call bV rfl
     refine Zb (.n x1) rfl (Zg (ZN (Zl (Zb _ aw (Zb _ N (ckk hp fun bh hp=>?_))))))
     refine Zc (Zdz (v:=.i .u8 (ZT .u8 bits d)) rfl rfl (by decide) (Zcv bh)) (Zc (Zdb (v:=.i .u8 (Z4 .u8 (ZT .u8 bits d) 1)) rfl rfl (by decide) rfl) (Zc (ZaX rfl rfl) (Zb (.b (decide (Z4 .u8 (ZT .u8 bits d) 1=0))) rfl (zO 3 (fun f k=>aR=k∧f 119=.b ((decide (Z4 .u8 (ZT .u8 bits d) 1=0)) || (decide (x1 < 0)))∧f 11=J∧f 12=.n i1∧f 13=.i .u8 bits∧f 14=.n own∧f 15=.n d∧f 16=.n x1∧f 2=.p a 0∧f 6=g) ?_ ?_))))
     ·rcases bc (decide (Z4 .u8 (ZT .u8 bits d) 1=0)) with H | H
      ·refine Zr rfl H (Zr rfl H (Zc (Zbt (w:=(decide (Z4 .u8 (ZT .u8 bits d) 1=0)) || (decide (x1 < 0))) rfl H rfl) (Zj ?_)))
       exact ⟨rfl,rfl,av,ad,aw,aS,N,rfl,ax,ae⟩
      ·refine Z5 rfl H (Zb (.n x1) rfl (Z5 rfl H (Zc (z3 rfl rfl) (Zc (Zbu rfl H rfl) (Zj ?_)))))
       exact ⟨rfl,rfl,av,ad,aw,aS,N,rfl,ax,ae⟩
     rintro cr _ ⟨rfl,bJ,U,M,am,W,X,aP,an,Y⟩
     refine Zg (zB hp bJ (fun a5 hp=>?_) (fun a5 hp=>?_))
     ·refine ZaZ (zM (Zav (Zs (zF (Zb _ X (ckk hp fun bi hp=>Zc (zn rfl rfl bi) (Zb (.n (d + 1)) rfl ?_)))))))
      refine Zj ?_
      cases hp
      exact ⟨rfl,J,an,Y,U,M,am,W,rfl,(ab.pk [0,1,2])⟩
     ·refine Zal (Zl (Zb _ Y (Zb _ U (Zb _ M (Zb _ aP ?_)))))
      obtain ⟨x2,⟨cZ,b2,bu,rfl,bW⟩,hp⟩:=bdk hp fun _=>ZD.ok (h:=aR)  (ab.sl 1 rfl) (ab.sl 2 rfl)
      refine Zat rfl rfl bu ?_
      have aq:=ab.call bW rfl
      refine Zb (.b x2) rfl (Zg (Zl (Zb (.b x2) rfl (Zc (Zdd rfl) (Zg (zB hp rfl (fun a6 hp=>?_) (fun a6 hp=>?_)))))))
      ·refine zF (Zb _ U (Zb _ M (Zb _ X (Zb _ aP (Zb _ W ?_)))))
       obtain ⟨x3,⟨c0,cB,bv,a0,rfl,bX⟩,hp⟩:=bdk hp fun _=>ZS.ok (h:=b2)  (aq.sl 2 rfl)
       refine Zat rfl rfl bv ?_
       have bQ:=aq.call bX rfl
       refine Zb a0 rfl (Zj (zV (Zs (zF (Zb _ X (ckk hp fun bj hp=>Zc (zn rfl rfl bj) (Zb (.n (d + 1)) rfl ?_)))))))
       refine Zj ?_
       cases hp
       exact ⟨rfl,a0,an,Y,rfl,M,am,W,rfl,(bQ.pk [0,1,3])⟩
      ·refine ZbN (zV (Zs (zF (Zb _ X (ckk hp fun bk hp=>Zc (zn rfl rfl bk) (Zb (.n (d + 1)) rfl (Zj ?_)))))))
       cases hp
       exact ⟨rfl,J,an,Y,U,M,am,W,rfl,(aq.pk [0,1,2])⟩
    ·refine ZaZ (zM ?_)
     cases hp
     exact ⟨nofun,rfl,J,ax,ae,av,ad,(ap.pk [0,1,2])⟩
   rintro l5 hp _ cV cA ⟨rfl,ak,ci,cj,cg,ch,bP⟩
   refine Zav (zV (Zs (zF (Zb _ ch (ckk hp fun bl hp=>Zc (zn rfl rfl bl) (Zb (.n (i1 + 1)) rfl (Zj ?_)))))))
   cases hp
   exact ⟨rfl,ak,ci,cj,cg,rfl,(bP.pk [0,1,2])⟩
  ·refine ZaZ (zM ?_)
   cases hp
   exact ⟨nofun,rfl,D,aj,aF,(C.pk [1,2])⟩
 rintro ⟨at_4,l1⟩ hp _ cR cw ⟨rfl,S,b9,b8,bN⟩
 refine Zav (Zs (Zl (Zb _ b8 (Zb _ b9 (Zb S rfl (Zb g rfl (Zj ?_)))))))
 refine Zs (Zak (z6 (zJ rfl (zJ rfl ze)) ?_))
 cases hp
 exact ⟨S,g,rfl,(bN.pk [1,0])⟩

theorem ZV.ok {h:Hp} {z:Zaa} {most:Int} {v_z_Boxes:V} {v_z_Edges:V} {v_z_Bends:V} (s_z_Boxes:Sl e_bool h v_z_Boxes z.Boxes) (s_z_Edges:Sl Zeb h v_z_Edges z.Edges) (s_z_Bends:Sl Zfi h v_z_Bends z.Bends) {r:zc} (hp:ZV z most=some r) :
  ∃ u k',Is G 171 [.ag [v_z_Boxes,v_z_Edges,v_z_Bends],.n most] h u k'∧∃ aZ a1,V.ag [aZ,a1]=u∧Own (fun r=>r < h.n) h k' [eSl e_bool aZ r.Boxes,eSl ZP a1 r.Edges]:=by
 refine WC.is (ZaI Zcz ?_)
 unfold ZV at hp
 let B:Nat→Prop:=(fun r=>r < h.n)
 have hO:Own B h h []:=Own.start0 h
 refine Zl (zq (hO.boxd (cs:=[v_z_Boxes,v_z_Edges,v_z_Bends]) hO.fr rfl rfl) ?_)
 rintro _ cg ⟨d,rfl,cF,b1,aM⟩
 refine zq (aM.alloc (cs:=[.sn,.sn]) aM.fr) ?_
 rintro _ aQ ⟨y,rfl,cG,b8,aN⟩
 refine Zg (Zl (Zc (Zdc (cs:=[.sn,.sn]) (by rw [Za3]; simp [fill,over,Zie,Zic,Zid,Zig,Zib,Zif,(Sl.nil:Sl e_bool aQ .sn ([]:List Bool)).cells,(Sl.nil:Sl ZP aQ .sn ([]:List zH)).cells])) (zq (aN.alloc (cs:=[.sn,.sn]) aN.fr) ?_)))
 rintro _ aR ⟨g,rfl,cH,b9,bF⟩
 refine zq (bF.stb (cs':=[.sn,.sn]) 2 rfl rfl rfl rfl ⟨rfl,Nat.le_of_ble_eq_true rfl,(all_cons (Sl.nil:Sl e_bool aR .sn ([]:List Bool)).oneV (all_cons (Sl.nil:Sl ZP aR .sn ([]:List zH)).oneV all_nil))⟩ rfl) ?_
 rintro _ cv ⟨rfl,ca,cy,bG⟩
 refine Zg (ZN (Zl (Zb (.n 0) rfl (Zg (zW ?_)))))
 have bI:=bG.nil e_bool
 refine Zbf hp (fun | (s,i),fr,k=>∃ af,fr 1=.n most∧fr 2=.p d 0∧fr 4=.p y 0∧fr 5=.p g 0∧fr 6=.n i∧Own B h k [zI d [v_z_Boxes,v_z_Edges,v_z_Bends],zI y [.sn,.sn],zI g [af,.sn],eSl e_bool af s]) (fun s1 e fr k=>e=(.exit 0)∧∃ A,fr 1=.n most∧fr 2=.p d 0∧fr 4=.p y 0∧fr 5=.p g 0∧Own B h k [zI d [v_z_Boxes,v_z_Edges,v_z_Bends],zI y [.sn,.sn],zI g [A,.sn],eSl e_bool A s1]) ⟨V.sn,rfl,rfl,rfl,rfl,rfl,(bI.pk [0,1,2,3])⟩ ?_ ?_
 ·rintro ⟨s,i⟩ cN ao ⟨af,ap,aq,aU,aV,ac,O⟩ cJ hp
  dsimp only [ZV.s0] at hp
  refine ZN (Zl (Zb _ ac (Zc (zy (r:=d) (o:=0) aq rfl) (Zc (zd (O.box 0 rfl) rfl rfl) (Zc (zP (O.rd0 s_z_Boxes.rd) rfl) (Zc (z3 rfl rfl) (Zb (.b (decide (i < (z.Boxes.length:Int)))) rfl (zO 4 (fun f k=>ao=k∧f 20=.b ((decide (i < (z.Boxes.length:Int))) && (decide (i < most)))∧f 1=.n most∧f 2=.p d 0∧f 4=.p y 0∧f 5=.p g 0∧f 6=.n i) ?_ ?_))))))))
  ·rcases bc (decide (i < (z.Boxes.length:Int))) with K | K
   ·refine Z5 rfl K (Zb _ ac (Z5 rfl K (Zb _ ap (Z5 rfl K (Zc (z3 rfl rfl) (Zc (Zda rfl K rfl) (Zj ?_)))))))
    exact ⟨rfl,rfl,ap,aq,aU,aV,ac⟩
   ·refine Zr rfl K (Zr rfl K (Zr rfl K (Zc (ZcZ (w:=(decide (i < (z.Boxes.length:Int))) && (decide (i < most))) rfl K rfl) (Zj ?_))))
    exact ⟨rfl,rfl,ap,aq,aU,aV,ac⟩
  rintro cd _ ⟨rfl,bu,aE,ai,aF,W,aG⟩
  refine Zg (zB hp bu (fun a2 hp=>?_) (fun a2 hp=>?_))
  ·refine Zal (ZN (zW (Zfy ?_)))
   have Q:=O.bump 11
   have aB:=Fresh.start ao 11
   have aT:∀ {i:Nat},h.n≤ao.n + i:=Nat.le_trans O.n (Nat.le_add_right _ _)
   refine zA (zy (r:=g) (o:=0) W rfl) (zA (zd (Q.box 2 rfl) rfl rfl) (zA (zy (r:=d) (o:=0) ai rfl) (zA (zd (Q.box 0 rfl) rfl rfl) (Zbi _ aG (ckk hp fun az hp=>zA (zm (Q.rd0 s_z_Boxes.rd) rfl rfl az) (zA (zE (Q.rd0 s_z_Boxes.rd) rfl (Zh az) rfl) (Zei (Q.bsl (E:=e_bool) (l:=[gi z.Boxes i.toNat]) ⟨aB.m 7 (by decide) (by decide),aT⟩ (by rw [(zp (v:=.b (gi z.Boxes i.toNat)) rfl Za3)]; rfl) rfl) ?_)))))))
   rintro cV cx cX ⟨cT,bn,aP⟩
   have aC:=aB.kept bn (by decide)
   refine ckk hp fun bh hp=>Zei (aP.app (bytes:=1) 3 ⟨aC.m 8 (by decide) (by decide),aT⟩ rfl (aP.sl 4 rfl) rfl rfl (fun _=>rfl) bh (by decide)) ?_
   rintro ah aS cY ⟨bo,al⟩
   have bs:=aC.kept bo (by decide)
   refine zA (zy (r:=g) (o:=0) W rfl) (Zei (al.stb (cs':=[ah,.sn]) 2 rfl rfl rfl (al.sl 3 rfl:Sl e_bool aS ah (s++[gi z.Boxes i.toNat])).cells ⟨rfl,Nat.le_of_ble_eq_true rfl,(all_cons (al.sl 3 rfl:Sl e_bool aS ah (s++[gi z.Boxes i.toNat])).oneV rfl)⟩ rfl) ?_)
   rintro _ ch cZ ⟨rfl,bp,cz,bx⟩
   have cb:=bs.kept bp (by decide)
   refine Zcd ?_
   refine And.intro ?_ ?_
   ·intro q hq
    simp only [List.mem_cons,List.not_mem_nil,or_false] at hq
    rcases hq with rfl | rfl | rfl
    ·refine Zau ?_ ?_
     ·exact (fun h=>nomatch h)
     ·exact (fun h=>nomatch h)
    ·refine Zau ?_ ?_
     ·exact (fun h=>nomatch h)
     ·exact (fun h=>nomatch h)
    ·refine Zau ?_ ?_
     ·exact (fun h=>nomatch h)
     ·exact (fun _ hm=>Nat.lt_irrefl _ (Nat.lt_of_lt_of_le (O.ltAt 2 rfl _ (tch (ZcI hm) rfl)) (Nat.le_add_right _ _)))
   refine zV (Zs (zF (Zb _ aG (ckk hp fun bi hp=>Zc (zn rfl rfl bi) (Zb (.n (i + 1)) rfl (Zj ?_))))))
   cases hp
   exact ⟨rfl,ah,aE,ai,aF,W,rfl,(bx.pk [0,1,2,3])⟩
  ·refine ZaZ (zM ?_)
   cases hp
   exact ⟨nofun,rfl,af,aE,ai,aF,W,(O.pk [0,1,2,3])⟩
 rintro s1 hp _ cM cw ⟨rfl,A,bL,bM,bN,bO,bH⟩
 refine Zav (Zs (ZN (Zl (Zb (.n 0) rfl (Zg (zW ?_))))))
 have bz:=bH.nil ZP
 refine Zbf hp (fun | (s2,i1),fr,k=>∃ J,fr 1=.n most∧fr 2=.p d 0∧fr 4=.p y 0∧fr 5=.p g 0∧fr 7=.n i1∧Own B h k [zI d [v_z_Boxes,v_z_Edges,v_z_Bends],zI y [.sn,.sn],zI g [A,J],eSl e_bool A s1,eSl ZP J s2]) (fun s3 e fr k=>e=(.exit 2)∧∃ T,fr 4=.p y 0∧fr 5=.p g 0∧Own B h k [zI y [.sn,.sn],zI g [A,T],eSl e_bool A s1,eSl ZP T s3]) ⟨V.sn,bL,bM,bN,bO,rfl,(bz.pk [0,1,2,3,4])⟩ ?_ ?_
 ·rintro ⟨s2,i1⟩ cP ab ⟨J,ar,au,aX,aY,ad,j⟩ cK hp
  dsimp only [ZV.s1] at hp
  refine ZN (Zl (Zb _ ad (Zc (zy (r:=d) (o:=0) au rfl) (Zc (zd (j.box 0 rfl) rfl rfl) (Zc (zP (j.rd0 s_z_Edges.rd) rfl) (Zc (z3 rfl rfl) (Zb (.b (decide (i1 < (z.Edges.length:Int)))) rfl ?_)))))))
  obtain ⟨t,bJ,hp⟩:=Zan hp
  refine zO 5 (fun f k=>ab=k∧f 43=.b t∧f 1=.n most∧f 2=.p d 0∧f 4=.p y 0∧f 5=.p g 0∧f 7=.n i1) ?_ ?_
  ·clear hp; rcases Zaw bJ with ⟨D,hp⟩ | ⟨D,hp⟩
   ·refine Z5 rfl D (Zb _ ad (Z5 rfl D (Zb _ ar (Z5 rfl D (ckk hp fun bj hp=>Zc (Zgb rfl rfl bj) (Z5 rfl D (Zc (z3 rfl rfl) ?_)))))))
    refine Zc (Zag (v:=.b t) rfl D (Eq.trans (b:=V.b (decide (i1 < (2 * most)))) rfl (congrArg V.b (Option.some.inj hp)))) (Zj ?_)
    exact ⟨rfl,rfl,ar,au,aX,aY,ad⟩
   ·refine Zr rfl D (Zr rfl D (Zr rfl D (Zr rfl D (Zc (Zab (v:=.b t) rfl D (Eq.trans (b:=V.b false) rfl (congrArg V.b (Option.some.inj hp)))) (Zj ?_)))))
    exact ⟨rfl,rfl,ar,au,aX,aY,ad⟩
  rintro ce _ ⟨rfl,bv,aH,aI,aJ,aj,aK⟩
  refine Zb _ bv (zO 5 (fun f k=>ab=k∧f 49=.b (t && (decide (0 < (s1.length:Int))))∧f 1=.n most∧f 2=.p d 0∧f 4=.p y 0∧f 5=.p g 0∧f 7=.n i1) ?_ ?_)
  ·rcases bc t with F | F
   ·refine Z5 rfl F (Zc (zy (r:=g) (o:=0) aj rfl) (Z5 rfl F (Zc (zd (j.box 2 rfl) rfl rfl) (Z5 rfl F (Zc (zP (j.sl 3 rfl) rfl) (Z5 rfl F (Zc (Zc6 rfl rfl) (Zc (Zda rfl F rfl) ?_))))))))
    refine Zj ?_
    exact ⟨rfl,rfl,aH,aI,aJ,aj,aK⟩
   ·refine Zr rfl F (Zr rfl F (Zr rfl F (Zr rfl F (Zc (ZcZ (w:=t && (decide (0 < (s1.length:Int)))) rfl F rfl) (Zj ?_)))))
    exact ⟨rfl,rfl,aH,aI,aJ,aj,aK⟩
  rintro cf _ ⟨rfl,bw,aL,M,ak,P,N⟩
  refine Zg (zB hp bw (fun a3 hp=>?_) (fun a3 hp=>?_))
  ·refine Zal (ZN (zW (ZN (Zfy ?_))))
   have x:=j.bump 33
   have aD:=Fresh.start ab 33
   have bK:∀ {i:Nat},h.n≤ab.n + i:=Nat.le_trans j.n (Nat.le_add_right _ _)
   refine zA (zy (r:=d) (o:=0) M rfl) (zA (zd (x.box 0 rfl) rfl rfl) (Zbi _ N (ckk hp fun C hp=>zA (zm (x.rd0 s_z_Edges.rd) rfl rfl C) (zA (ZaE (x.rd0 s_z_Edges.rd) (Zh C) rfl rfl (by decide) rfl) (zA (zE (x.rd0 s_z_Edges.rd) rfl (Zh C) rfl) (ckk hp fun bk hp=>zA (ZcB rfl bk) ?_))))))
   refine zA (zy (r:=g) (o:=0) P rfl) (zA (zd (x.box 2 rfl) rfl rfl) (zA (zP (x.sl 3 rfl) rfl) (ckk hp fun aA hp=>zA (Zbx rfl rfl aA) (zA (zy (r:=d) (o:=0) M rfl) (zA (zd (x.box 0 rfl) rfl rfl) (Zbi _ N (zA (zm (x.rd0 s_z_Edges.rd) rfl rfl C) ?_)))))))
   refine zA (ZaE (x.rd0 s_z_Edges.rd) (Zh C) rfl rfl (by decide) rfl) (zA (zE (x.rd0 s_z_Edges.rd) rfl (Zh C) rfl) (ckk hp fun bl hp=>zA (ZcB rfl bl) (zA (zy (r:=g) (o:=0) P rfl) (zA (zd (x.box 2 rfl) rfl rfl) (zA (zP (x.sl 3 rfl) rfl) (zA (Zbx rfl rfl aA) (zA (zy (r:=d) (o:=0) M rfl) ?_)))))))
   refine zA (zd (x.box 0 rfl) rfl rfl) (Zbi _ N (zA (zm (x.rd0 s_z_Edges.rd) rfl rfl C) (zA (ZaE (x.rd0 s_z_Edges.rd) (Zh C) rfl rfl (by decide) rfl) (zA (zE (x.rd0 s_z_Edges.rd) rfl (Zh C) rfl) (ckk hp fun bm hp=>zA (ZcB rfl bm) (zA (Zbx rfl rfl (by decide)) (zA (Zdc (cs:=ZP.c (⟨((gi z.Edges i1.toNat).get 0).tmod (s1.length:Int),((gi z.Edges i1.toNat).get 1).tmod (s1.length:Int),((gi z.Edges i1.toNat).get 2).tmod 4,(⟨#[]⟩:ByteArray)⟩:zH)) (by rw [(zp (v:=.n (((gi z.Edges i1.toNat).get 0).tmod (s1.length:Int))) rfl (zp (v:=.n (((gi z.Edges i1.toNat).get 1).tmod (s1.length:Int))) rfl (zp (v:=.n (((gi z.Edges i1.toNat).get 2).tmod 4)) rfl Za3)))]; rfl)) ?_)))))))
   refine Zei (x.alloc (cs:=ZP.c (⟨0,0,0,(⟨#[]⟩:ByteArray)⟩:zH)) ⟨aD.m 31 (by decide) (by decide),bK⟩) ?_
   rintro _ cj c0 ⟨I,rfl,cI,bq,bA⟩
   have bt:=aD.kept bq (by decide)
   refine Zei (bA.stb (cs':=ZP.c (⟨((gi z.Edges i1.toNat).get 0).tmod (s1.length:Int),((gi z.Edges i1.toNat).get 1).tmod (s1.length:Int),((gi z.Edges i1.toNat).get 2).tmod 4,(⟨#[]⟩:ByteArray)⟩:zH)) 5 rfl rfl rfl rfl ⟨rfl,Nat.le_of_ble_eq_true rfl,rfl⟩ rfl) ?_
   rintro _ ck c1 ⟨rfl,br,cA,Y⟩
   have cc:=bt.kept br (by decide)
   refine Zcd ?_
   refine And.intro ?_ ?_
   ·intro q hq
    simp only [List.mem_cons,List.not_mem_nil,or_false] at hq
    rcases hq with rfl | rfl | rfl | rfl | rfl | rfl | rfl | rfl | rfl | rfl | rfl | rfl | rfl | rfl | rfl | rfl | rfl | rfl | rfl | rfl | rfl | rfl | rfl | rfl | rfl | rfl | rfl | rfl | rfl | rfl | rfl | rfl | rfl
    ·refine Zau ?_ ?_
     ·exact (fun h=>nomatch h)
     ·exact (fun h=>nomatch h)
    ·refine Zau ?_ ?_
     ·exact (fun h=>nomatch h)
     ·exact (fun h=>nomatch h)
    ·refine Zau ?_ ?_
     ·exact (fun h=>nomatch h)
     ·exact (fun h=>nomatch h)
    ·refine Zau ?_ ?_
     ·exact (fun h=>nomatch h)
     ·exact (fun h=>nomatch h)
    ·refine Zau ?_ ?_
     ·exact (fun h=>nomatch h)
     ·exact (fun h=>nomatch h)
    ·refine Zau ?_ ?_
     ·exact (fun h=>nomatch h)
     ·exact (fun h=>nomatch h)
    ·refine Zau ?_ ?_
     ·exact (fun h=>nomatch h)
     ·exact (fun h=>nomatch h)
    ·refine Zau ?_ ?_
     ·exact (fun h=>nomatch h)
     ·exact (fun h=>nomatch h)
    ·refine Zau ?_ ?_
     ·exact (fun h=>nomatch h)
     ·exact (fun h=>nomatch h)
    ·refine Zau ?_ ?_
     ·exact (fun h=>nomatch h)
     ·exact (fun h=>nomatch h)
    ·refine Zau ?_ ?_
     ·exact (fun h=>nomatch h)
     ·exact (fun h=>nomatch h)
    ·refine Zau ?_ ?_
     ·exact (fun h=>nomatch h)
     ·exact (fun h=>nomatch h)
    ·refine Zau ?_ ?_
     ·exact (fun h=>nomatch h)
     ·exact (fun h=>nomatch h)
    ·refine Zau ?_ ?_
     ·exact (fun h=>nomatch h)
     ·exact (fun h=>nomatch h)
    ·refine Zau ?_ ?_
     ·exact (fun h=>nomatch h)
     ·exact (fun h=>nomatch h)
    ·refine Zau ?_ ?_
     ·exact (fun h=>nomatch h)
     ·exact (fun h=>nomatch h)
    ·refine Zau ?_ ?_
     ·exact (fun h=>nomatch h)
     ·exact (fun h=>nomatch h)
    ·refine Zau ?_ ?_
     ·exact (fun h=>nomatch h)
     ·exact (fun h=>nomatch h)
    ·refine Zau ?_ ?_
     ·exact (fun h=>nomatch h)
     ·exact (fun h=>nomatch h)
    ·refine Zau ?_ ?_
     ·exact (fun h=>nomatch h)
     ·exact (fun h=>nomatch h)
    ·refine Zau ?_ ?_
     ·exact (fun h=>nomatch h)
     ·exact (fun h=>nomatch h)
    ·refine Zau ?_ ?_
     ·exact (fun h=>nomatch h)
     ·exact (fun h=>nomatch h)
    ·refine Zau ?_ ?_
     ·exact (fun h=>nomatch h)
     ·exact (fun h=>nomatch h)
    ·refine Zau ?_ ?_
     ·exact (fun h=>nomatch h)
     ·exact (fun h=>nomatch h)
    ·refine Zau ?_ ?_
     ·exact (fun h=>nomatch h)
     ·exact (fun h=>nomatch h)
    ·refine Zau ?_ ?_
     ·exact (fun h=>nomatch h)
     ·exact (fun _ hm=>Nat.lt_irrefl _ (Nat.lt_of_lt_of_le (j.ltAt 0 rfl _ (tch (ZcI hm) rfl)) (Nat.le_add_right _ _)))
    ·refine Zau ?_ ?_
     ·exact (fun h=>nomatch h)
     ·exact (fun _ hm=>Nat.lt_irrefl _ (Nat.lt_of_lt_of_le (Nat.lt_of_lt_of_le (j.lo _ (Rd.B s_z_Edges.rd j.lo (Zh C) _ (ZcT (tch (ZcI hm) rfl)))) j.n) (Nat.le_add_right _ _)))
    ·refine Zau ?_ ?_
     ·exact (fun h=>nomatch h)
     ·exact (fun _ hm=>Nat.lt_irrefl _ (Nat.lt_of_lt_of_le (j.ltAt 2 rfl _ (tch (ZcI hm) rfl)) (Nat.le_add_right _ _)))
    ·refine Zau ?_ ?_
     ·exact (fun h=>nomatch h)
     ·exact (fun _ hm=>Nat.lt_irrefl _ (Nat.lt_of_lt_of_le (j.ltAt 0 rfl _ (tch (ZcI hm) rfl)) (Nat.le_add_right _ _)))
    ·refine Zau ?_ ?_
     ·exact (fun h=>nomatch h)
     ·exact (fun _ hm=>Nat.lt_irrefl _ (Nat.lt_of_lt_of_le (Nat.lt_of_lt_of_le (j.lo _ (Rd.B s_z_Edges.rd j.lo (Zh C) _ (ZcT (tch (ZcI hm) rfl)))) j.n) (Nat.le_add_right _ _)))
    ·refine Zau ?_ ?_
     ·exact (fun h=>nomatch h)
     ·exact (fun _ hm=>Nat.lt_irrefl _ (Nat.lt_of_lt_of_le (j.ltAt 2 rfl _ (tch (ZcI hm) rfl)) (Nat.le_add_right _ _)))
    ·refine Zau ?_ ?_
     ·exact (fun h=>nomatch h)
     ·exact (fun _ hm=>Nat.lt_irrefl _ (Nat.lt_of_lt_of_le (j.ltAt 0 rfl _ (tch (ZcI hm) rfl)) (Nat.le_add_right _ _)))
    ·refine Zau ?_ ?_
     ·exact (fun h=>nomatch h)
     ·exact (fun _ hm=>Nat.lt_irrefl _ (Nat.lt_of_lt_of_le (Nat.lt_of_lt_of_le (j.lo _ (Rd.B s_z_Edges.rd j.lo (Zh C) _ (ZcT (tch (ZcI hm) rfl)))) j.n) (Nat.le_add_right _ _)))
   refine Zs (ZN (Zl (Zb _ N (Zc (zy (r:=d) (o:=0) M rfl) (Zc (zd (Y.box 0 rfl) rfl rfl) (Zc (zP (Y.rd0 s_z_Bends.rd) rfl) (Zc (z3 rfl rfl) ?_)))))))
   refine Zg (Zgw hp (fun e_ e fr k=>e=.normal∧fr 1=.n most∧fr 2=.p d 0∧fr 4=.p y 0∧fr 5=.p g 0∧fr 7=.n i1∧fr 8=.p I 0∧Own B h k [zI d [v_z_Boxes,v_z_Edges,v_z_Bends],zI y [.sn,.sn],zI g [A,J],eSl e_bool A s1,eSl ZP J s2,zI I (ZP.c e_)]) (fun _ hp=>?_) ?_)
   ·refine zB hp rfl (fun a4 hp=>?_) (fun a4 hp=>?_)
    ·refine Zl (Zb (.n 0) rfl (Zg (zW (Zbf hp (fun | (e_1,k_),fr,k=>fr 1=.n most∧fr 2=.p d 0∧fr 4=.p y 0∧fr 5=.p g 0∧fr 7=.n i1∧fr 8=.p I 0∧fr 9=.n k_∧Own B h k [zI d [v_z_Boxes,v_z_Edges,v_z_Bends],zI y [.sn,.sn],zI g [A,J],eSl e_bool A s1,eSl ZP J s2,zI I (ZP.c e_1)]) (fun e_2 e fr k=>e=(.exit 4)∧fr 1=.n most∧fr 2=.p d 0∧fr 4=.p y 0∧fr 5=.p g 0∧fr 7=.n i1∧fr 8=.p I 0∧Own B h k [zI d [v_z_Boxes,v_z_Edges,v_z_Bends],zI y [.sn,.sn],zI g [A,J],eSl e_bool A s1,eSl ZP J s2,zI I (ZP.c e_2)]) ⟨aL,M,ak,P,N,rfl,rfl,(Y.pk [0,1,2,3,4,5])⟩ ?_ ?_))))
     ·rintro ⟨e_1,k_⟩ cS cn ⟨aw,R,ax,ay,S,L,ae,H⟩ cL hp
      dsimp only [ZV.s2] at hp
      refine ZN (Zl (Zb _ ae (Zc (zy (r:=d) (o:=0) R rfl) (Zc (zd (H.box 0 rfl) rfl rfl) (Zb _ S (ckk hp fun U hp=>Zc (zm (H.rd0 s_z_Bends.rd) rfl rfl U) ?_))))))
      refine Zc (zE (H.rd0 s_z_Bends.rd) rfl (Zh U) rfl) (ckk hp fun a7 hp=>Zc (ZcB rfl a7) (Zc (Zbx rfl rfl (by decide)) (Zc (z3 rfl rfl) (Zg (zB hp rfl (fun a5 hp=>?_) (fun a5 hp=>?_))))))
      ·refine Zal (ZN (zW (Zl (Zc (zy (r:=d) (o:=0) R rfl) (Zc (zd (H.box 0 rfl) rfl rfl) (Zb _ S ?_))))))
       refine Zc (zm (H.rd0 s_z_Bends.rd) rfl rfl U) (Zc (zE (H.rd0 s_z_Bends.rd) rfl (Zh U) rfl) (Zb _ ae (ckk hp fun a8 hp=>Zc (zn rfl rfl a8) (ckk hp fun a9 hp=>Zc (Zdz (v:=.i .u8 (ZT .u8 (gi z.Bends i1.toNat) (2 + k_))) rfl rfl (by decide) (Zcv a9)) (Zc (Zdb (v:=.i .u8 (Z4 .u8 (ZT .u8 (gi z.Bends i1.toNat) (2 + k_)) 1)) rfl rfl (by decide) rfl) (Zc (ZaX rfl rfl) ?_))))))
       refine Zg (zB hp rfl (fun a6 hp=>?_) (fun a6 hp=>?_))
       ·refine zF (Zc (zy (r:=I) (o:=0) L rfl) (Zc (zd (H.box 5 rfl) rfl rfl) (ckk hp fun ba hp=>Zc (ZiW (a:=e_1.Bends) (b:=(⟨#[76]⟩:ByteArray)) rfl rfl ba) (Zc (zy (r:=I) (o:=0) L rfl) (zq (H.stb (cs':=ZP.c ({ e_1 with Bends:=e_1.Bends++(⟨#[76]⟩:ByteArray) })) 5 rfl rfl rfl rfl ⟨rfl,Nat.le_of_ble_eq_true rfl,rfl⟩ rfl) ?_)))))
        rintro _ co ⟨rfl,b2,cB,bC⟩
        refine Zj (zV (Zs (zF (Zb _ ae (ckk hp fun bb hp=>Zc (zn rfl rfl bb) (Zb (.n (k_ + 1)) rfl (Zj ?_)))))))
        cases hp
        exact ⟨rfl,aw,R,ax,ay,S,L,rfl,(bC.pk [0,1,2,3,4,5])⟩
       ·refine zF (Zc (zy (r:=I) (o:=0) L rfl) (Zc (zd (H.box 5 rfl) rfl rfl) (ckk hp fun bd hp=>Zc (ZiW (a:=e_1.Bends) (b:=(⟨#[82]⟩:ByteArray)) rfl rfl bd) (Zc (zy (r:=I) (o:=0) L rfl) (zq (H.stb (cs':=ZP.c ({ e_1 with Bends:=e_1.Bends++(⟨#[82]⟩:ByteArray) })) 5 rfl rfl rfl rfl ⟨rfl,Nat.le_of_ble_eq_true rfl,rfl⟩ rfl) ?_)))))
        rintro _ cp ⟨rfl,b3,cC,bD⟩
        refine Zj (zV (Zs (zF (Zb _ ae (ckk hp fun be hp=>Zc (zn rfl rfl be) (Zb (.n (k_ + 1)) rfl (Zj ?_)))))))
        cases hp
        exact ⟨rfl,aw,R,ax,ay,S,L,rfl,(bD.pk [0,1,2,3,4,5])⟩
      ·refine ZaZ (zM ?_)
       cases hp
       exact ⟨nofun,rfl,aw,R,ax,ay,S,L,(H.pk [0,1,2,3,4,5])⟩
     rintro e_2 hp _ cR cm ⟨rfl,bV,bW,bX,bY,bZ,b0,bB⟩
     refine Zav ?_
     cases hp
     exact ⟨rfl,bV,bW,bX,bY,bZ,b0,(bB.pk [0,1,2,3,4,5])⟩
    ·refine ZbN ?_
     cases hp
     exact ⟨rfl,aL,M,ak,P,N,rfl,(Y.pk [0,1,2,3,4,5])⟩
   rintro e_ hp _ cQ cl ⟨rfl,bQ,bR,bS,av,bT,bU,aa⟩
   refine Zs (zF (Zc (zy (r:=g) (o:=0) av rfl) (Zc (zd (aa.box 2 rfl) rfl rfl) (Zc (Za7 (aa.box 5 rfl) bU rfl) (zq (aa.bsl (E:=ZP) (l:=[e_]) aa.fr (by rw [(zp (v:=.ag (ZP.c e_)) rfl Za3)]; rfl) rfl) ?_)))))
   rintro cW cq ⟨cU,b4,am⟩
   refine ckk hp fun bf hp=>zq (am.app (bytes:=40) 4 am.fr rfl (am.sl 6 rfl) rfl rfl (fun _=>rfl) bf (by decide)) ?_
   rintro a0 cr ⟨b5,an⟩
   refine Zc (zy (r:=g) (o:=0) av rfl) (zq (an.stb (cs':=[A,a0]) 2 rfl rfl rfl (an.sl 4 rfl).cells ⟨rfl,Nat.le_of_ble_eq_true rfl,(all_cons (an.sl 4 rfl).oneV rfl)⟩ rfl) ?_)
   rintro _ ct ⟨rfl,b6,cD,bE⟩
   refine Zj (zV (Zs (zF (Zb _ bT (ckk hp fun bg hp=>Zc (zn rfl rfl bg) (Zb (.n (i1 + 1)) rfl (Zj ?_)))))))
   cases hp
   exact ⟨rfl,a0,bQ,bR,bS,av,rfl,(bE.pk [0,1,2,3,4])⟩
  ·refine ZaZ (zM ?_)
   cases hp
   exact ⟨nofun,rfl,J,ak,P,(j.pk [1,2,3,4])⟩
 rintro s3 hp _ cO ci ⟨rfl,T,aW,bP,X⟩
 refine Zav (Zs (Zl (Zc (Za7 (X.box 1 rfl) bP rfl) (zq (X.stb (cs':=[A,T]) 0 rfl aW rfl rfl ⟨rfl,Nat.le_of_ble_eq_true rfl,(all_cons (X.sl 2 rfl).oneV (all_cons (X.sl 3 rfl).oneV all_nil))⟩ rfl) ?_))))
 rintro _ cu ⟨rfl,b7,cE,aO⟩
 refine Zg (Zak (z6 (ZjN aW (aO.box 0 rfl) rfl ze) ?_))
 cases hp
 exact ⟨A,T,rfl,(aO.pk [2,3])⟩

theorem zD.ok {h:Hp} {s:ByteArray}   {r:Bool} (hp:zD s=some r) :
  ∃ u k',Is G 217 [.s s] h u k'∧V.b r=u∧Own (fun r=>r < h.n) h k' []:=by
 refine WC.is (ZaI Zcm ?_)
 unfold zD at hp
 let B:Nat→Prop:=(fun r=>r < h.n)
 have hO:Own B h h []:=Own.start0 h
 refine Zl (Zb (.b false) rfl (Zg (ZN (Zl (Zb (.n 0) rfl ?_)))))
 refine Zg (zW (Zbf hp (fun i fr k=>fr 0=.s s∧fr 3=.n i∧Own B h k []) (fun | .inl _,e,fr,k=>e=(.exit 0)∧Own B h k [] | .inr _,e,fr,k=>e=.ret∧fr 2=.b false∧Own B h k []) ⟨rfl,rfl,(hO.pk [])⟩ ?_ ?_))
 ·rintro i I A ⟨d,g,l⟩ F hp
  dsimp only [zD.s0] at hp
  refine ZN (Zl (Zb _ g (Zb _ d (Zc (Zfz rfl) (Zc (z3 rfl rfl) (Zg (zB hp rfl (fun p hp=>?_) (fun p hp=>?_))))))))
  ·refine Zal (ZN (zW (Zl (Zb _ d (Zb _ g (ckk hp fun m hp=>?_))))))
   refine Zc (ZhW (a:=s) (z:=i) rfl rfl m) (Zc (ZcH rfl rfl) (Zb (.b (!(decide (sAt s i.toNat=76)))) rfl (zO 5 (fun f k=>A=k∧f 19=.b ((!(decide (sAt s i.toNat=76))) && (!(decide (sAt s i.toNat=82))))∧f 0=.s s∧f 3=.n i) ?_ ?_)))
   ·rcases bc (!(decide (sAt s i.toNat=76))) with c | c
    ·refine Z5 rfl c (Zb _ d (Z5 rfl c (Zb _ g (Z5 rfl c (Zc (ZhW (a:=s) (z:=i) rfl rfl m) (Z5 rfl c (Zc (ZcH rfl rfl) (Zc (Zda rfl c rfl) ?_))))))))
     refine Zj ?_
     exact ⟨rfl,rfl,d,g⟩
    ·refine Zr rfl c (Zr rfl c (Zr rfl c (Zr rfl c (Zc (ZcZ (w:=(!(decide (sAt s i.toNat=76))) && (!(decide (sAt s i.toNat=82)))) rfl c rfl) (Zj ?_)))))
     exact ⟨rfl,rfl,d,g⟩
   rintro D _ ⟨rfl,x,v,y⟩
   refine Zg (zB hp x (fun q hp=>?_) (fun q hp=>?_))
   ·refine Zl (Zb (.b false) rfl (Zg (Zak (Zbh (zG ?_)))))
    cases hp
    exact ⟨nofun,rfl,rfl,(l.pk [])⟩
   ·refine ZbN (zV (Zs (zF (Zb _ y (ckk hp fun t hp=>Zc (zn rfl rfl t) (Zb (.n (i + 1)) rfl (Zj ?_)))))))
    cases hp
    exact ⟨rfl,v,rfl,(l.pk [])⟩
  ·refine ZaZ (zM ?_)
   cases hp
   exact ⟨nofun,rfl,(l.pk [])⟩
 rintro (_ | _) hp _ H E o
 ·obtain ⟨rfl,j⟩:=o
  refine Zav (Zs (Zl (Zb (.b true) rfl (Zg (Zak (z6 (zJ rfl ze) ?_))))))
  cases hp
  exact ⟨rfl,(j.pk [])⟩
 ·obtain ⟨rfl,C,j⟩:=o
  refine Zbh (zG (z6 (zJ C ze) ?_))
  cases hp
  exact ⟨rfl,(j.pk [])⟩

end Mu
