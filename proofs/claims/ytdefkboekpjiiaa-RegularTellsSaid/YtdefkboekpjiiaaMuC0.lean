/- The code comes to what was worked out. -/
import Derived.Test.YtdefkboekpjiiaaMuDf
import Derived.Test.YtdefkboekpjiiaaMuPa
set_option linter.unusedVariables false
set_option linter.unnecessarySimpa false
set_option linter.unusedSimpArgs false
set_option maxHeartbeats 2000000
set_option maxRecDepth 10000
namespace Mu
open Go (IntKind BinOp UnOp)
theorem zx {x:Za} {i:Int} (h:0≤i∧i < 4):(Zd.c x)[0 + i.toNat * 1]?=some (.n ((x.Next).get i)):=by
 rcases (show i=0∨i=1∨i=2∨i=3 by omega) with rfl | rfl | rfl | rfl <;> rfl
theorem Zcj {x:Za} {i:Int} {w:Int} (h:0≤i∧i < 4):over (Zd.c x) (0 + i.toNat * 1) [.n w]=Zd.c ({ x with Next:=(x.Next).set i w }):=by
 rcases (show i=0∨i=1∨i=2∨i=3 by omega) with rfl | rfl | rfl | rfl <;> rfl
theorem Zcs {x:Za} {i:Int} (h:0≤i∧i < 4):(Zd.c x)[4 + i.toNat * 1]?=some (.n ((x.Owner).get i)):=by
 rcases (show i=0∨i=1∨i=2∨i=3 by omega) with rfl | rfl | rfl | rfl <;> rfl
theorem Zcu {x:Za} {i:Int} {w:Int} (h:0≤i∧i < 4):over (Zd.c x) (4 + i.toNat * 1) [.n w]=Zd.c ({ x with Owner:=(x.Owner).set i w }):=by
 rcases (show i=0∨i=1∨i=2∨i=3 by omega) with rfl | rfl | rfl | rfl <;> rfl
theorem Zps {x:A4 Int} {i:Int} (h:0≤i∧i < 4):(Zdk.c x)[0 + i.toNat * 1]?=some (.n ((x).get i)):=by
 rcases (show i=0∨i=1∨i=2∨i=3 by omega) with rfl | rfl | rfl | rfl <;> rfl
theorem ZiI {x:A4 Int} {i:Int} (h:0≤i∧i < 4):Zde false (Zdk.c x) (i.toNat * 1) 1=some (.n ((x).get i)):=by
 rcases (show i=0∨i=1∨i=2∨i=3 by omega) with rfl | rfl | rfl | rfl <;> rfl
theorem Zpt {x:A4 Int} {i:Int} {w:Int} (h:0≤i∧i < 4):over (Zdk.c x) (0 + i.toNat * 1) [.n w]=Zdk.c ((x).set i w):=by
 rcases (show i=0∨i=1∨i=2∨i=3 by omega) with rfl | rfl | rfl | rfl <;> rfl
theorem Zpr {x:A2 Int} {i:Int} (h:0≤i∧i < 2):(Zbf.c x)[0 + i.toNat * 1]?=some (.n ((x).get i)):=by
 rcases (show i=0∨i=1 by omega) with rfl | rfl <;> rfl
theorem Zpq {x:A2 Int} {i:Int} (h:0≤i∧i < 2):Zde false (Zbf.c x) (i.toNat * 1) 1=some (.n ((x).get i)):=by
 rcases (show i=0∨i=1 by omega) with rfl | rfl <;> rfl
theorem ZiR {x:A2 Int} {i:Int} {w:Int} (h:0≤i∧i < 2):over (Zbf.c x) (0 + i.toNat * 1) [.n w]=Zbf.c ((x).set i w):=by
 rcases (show i=0∨i=1 by omega) with rfl | rfl <;> rfl
theorem Zki (cs:List Go.Value) (h:OkL [some .u8] cs):∃ x:Int,ZhA.c x=cs.map toV∧Zg0 x:=by
 obtain ⟨n0,cs0,rfl,w0,h0⟩:=h.inv_i
 obtain rfl:=h0.inv_n
 exact ⟨n0,rfl,w0⟩
theorem Zo7 (cs:List Go.Value) (h:OkL [some .i8] cs):∃ x:Int,Zln.c x=cs.map toV∧Zk9 x:=by
 obtain ⟨n0,cs0,rfl,w0,h0⟩:=h.inv_i
 obtain rfl:=h0.inv_n
 exact ⟨n0,rfl,w0⟩
theorem ZjE (cs:List Go.Value) (h:OkL [none] cs):∃ x:Bool,e_bool.c x=cs.map toV∧ZgI x:=by
 obtain ⟨n0,cs0,rfl,h0⟩:=h.inv_b
 obtain rfl:=h0.inv_n
 exact ⟨n0,rfl,trivial⟩
theorem Zlm (cs:List Go.Value) (h:OkL [some .u8,some .u8,some .u8] cs):∃ x:A3 Int,Zgv.c x=cs.map toV∧ZgH x:=by
 obtain ⟨n0,cs0,rfl,w0,h0⟩:=h.inv_i
 obtain ⟨n1,cs1,rfl,w1,h1⟩:=h0.inv_i
 obtain ⟨n2,cs2,rfl,w2,h2⟩:=h1.inv_i
 obtain rfl:=h2.inv_n
 exact ⟨⟨n0,n1,n2⟩,rfl,⟨w0,w1,w2⟩⟩
theorem ZhX (cs:List Go.Value) (h:OkL [some .i64,some .i64,some .i64,some .i64,some .i64,some .i64,some .i64,some .i64] cs):∃ x:Za,Zd.c x=cs.map toV∧Zfo x:=by
 obtain ⟨n0,cs0,rfl,w0,h0⟩:=h.inv_i
 obtain ⟨n1,cs1,rfl,w1,h1⟩:=h0.inv_i
 obtain ⟨n2,cs2,rfl,w2,h2⟩:=h1.inv_i
 obtain ⟨n3,cs3,rfl,w3,h3⟩:=h2.inv_i
 obtain ⟨n4,cs4,rfl,w4,h4⟩:=h3.inv_i
 obtain ⟨n5,cs5,rfl,w5,h5⟩:=h4.inv_i
 obtain ⟨n6,cs6,rfl,w6,h6⟩:=h5.inv_i
 obtain ⟨n7,cs7,rfl,w7,h7⟩:=h6.inv_i
 obtain rfl:=h7.inv_n
 exact ⟨⟨⟨n0,n1,n2,n3⟩,⟨n4,n5,n6,n7⟩⟩,rfl,⟨w0,w1,w2,w3,w4,w5,w6,w7⟩⟩
theorem zk.ok {h:Hp} {n:Int}   {r:(List Za)} (hp:zk n=some r) :
  ∃ u k',Is G 46 [.n n] h u k'∧∃ t,t=u∧Own (fun r=>r < h.n) h k' [eSl Zd t r]:=by
 refine WC.is (ZaP ZeC ?_)
 unfold zk at hp
 let B:Nat→Prop:=(fun r=>r < h.n)
 have hO:Own B h h []:=Own.start0 h
 refine Zi (Zb (.sn) rfl (Ze (Zi (Zb (.n n) rfl (ckk hp fun A hp=>?_)))))
 refine zz (hO.mks (E:=Zd) (y:=(⟨⟨0,0,0,0⟩,⟨0,0,0,0⟩⟩:Za)) (bytes:=64) (z:=n) hO.fr rfl rfl rfl A (by decide)) ?_
 rintro a Q ⟨ae,O,F⟩
 refine Zb a rfl (Ze (ZB (Zi (Zb (.n 0) rfl (Ze ?_)))))
 refine Zaa (Zb7 hp (fun | (l,v),fr,k=>fr 0=.n n∧fr 3=a∧fr 4=.n v∧Own B h k [eSl Zd a l]) (fun l1 e fr k=>e=(.exit 0)∧fr 3=a∧Own B h k [eSl Zd a l1]) ⟨rfl,rfl,rfl,(F.pk [0])⟩ ?_ ?_)
 ·rintro ⟨l,v⟩ ab S ⟨o,p,q,m⟩ X hp
  dsimp only [zk.s0] at hp
  refine ZB (Zi (Zb _ q (Zb _ o (Zc (zF rfl rfl) (Ze (zD hp rfl (fun w hp=>?_) (fun w hp=>?_)))))))
  ·refine Zas (ZB (Zaa (Zi (Zb (.n 0) rfl (Ze ?_)))))
   refine Zaa (Zb7 hp (fun | (l2,d),fr,k=>fr 0=.n n∧fr 3=a∧fr 4=.n v∧fr 5=.n d∧Own B h k [eSl Zd a l2]) (fun l3 e fr k=>e=(.exit 2)∧fr 0=.n n∧fr 3=a∧fr 4=.n v∧Own B h k [eSl Zd a l3]) ⟨o,p,q,rfl,(m.pk [0])⟩ ?_ ?_)
   ·rintro ⟨l2,d⟩ ad U ⟨s,g,i,j,b⟩ Y hp
    dsimp only [zk.s1] at hp
    refine ZB (Zi (Zb _ j (Zc (zF rfl rfl) (Ze (zD hp rfl (fun x hp=>?_) (fun x hp=>?_))))))
    ·refine Zas (ZB (Zaa (zI (Zb _ g (Zb _ i (Zb _ j (ckk hp fun c hp=>?_)))))))
     refine Zc (ZZ (b.sl 0 rfl) rfl rfl c) (Zc (Zbo (b.sl 0 rfl) (Zf c) rfl rfl) (ckk hp fun f hp=>Zc (ZaZ (b.sl 0 rfl) (Zf c) rfl rfl f rfl) (zz (b.ste (y:=({ gi l2 v.toNat with Next:=((gi l2 v.toNat).Next).set d (-1) })) 0 rfl rfl (Zf c) rfl rfl ⟨rfl,(by have:=f; exact (show 0 + d.toNat * 1 + 1≤8 by omega)),rfl⟩ (Zcj f)) ?_)))
     rintro _ V ⟨rfl,P,W,J⟩
     refine Zg (Zaf (Zo (zI (Zb _ j (ckk hp fun C hp=>Zc (zc rfl rfl C) (Zb (.n (d + 1)) rfl (Zg ?_)))))))
     cases hp
     exact ⟨rfl,s,g,i,rfl,(J.pk [0])⟩
    ·refine Zbq (zM ?_)
     cases hp
     exact ⟨nofun,rfl,s,g,i,(b.pk [0])⟩
   rintro l3 hp _ ac T ⟨rfl,L,M,N,I⟩
   refine Zav (Zaf (Zo (zI (Zb _ N (ckk hp fun D hp=>Zc (zc rfl rfl D) (Zb (.n (v + 1)) rfl (Zg ?_)))))))
   cases hp
   exact ⟨rfl,L,M,rfl,(I.pk [0])⟩
  ·refine Zbq (zM ?_)
   cases hp
   exact ⟨nofun,rfl,p,(m.pk [0])⟩
 rintro l1 hp _ aa R ⟨rfl,K,H⟩
 refine Zav (Zo (Zi (Zb _ K (Zb a rfl (Ze (Zar ?_))))))
 refine z4 (zX rfl ZK) ?_
 cases hp
 exact ⟨a,rfl,(H.pk [0])⟩

theorem zn.ok {h:Hp} {at_:List ZD} {i:Int} {d:Int} {v_at_:V} (s_at_:Sl ZH h v_at_ at_) {r:Int} (hp:zn at_ i d=some r) :
  ∃ u k',Is G 63 [v_at_,.n i,.n d] h u k'∧V.n r=u∧Own (fun r=>r < h.n) h k' []:=by
 refine WC.is (ZaP ZdD ?_)
 unfold zn at hp
 let B:Nat→Prop:=(fun r=>r < h.n)
 have hO:Own B h h []:=Own.start0 h
 refine Zi (Zb (.n 0) rfl (Ze (Zi (Zb (.n (-1)) rfl (Zg ?_)))))
 refine Zo (ZB (Zi (Zb (.n 0) rfl (Ze (Zaa (Zb7 hp (fun | (best,k_),fr,k=>fr 0=v_at_∧fr 1=.n i∧fr 2=.n d∧fr 7=.n best∧fr 8=.n k_∧Own B h k []) (fun best1 e fr k=>e=(.exit 0)∧fr 7=.n best1∧Own B h k []) ⟨rfl,rfl,rfl,rfl,rfl,(hO.pk [])⟩ ?_ ?_))))))
 ·rintro ⟨best,k_⟩ bt I ⟨C,an,ao,ap,K,am⟩ br hp
  dsimp only [zn.s0] at hp
  refine ZB (Zi (Zb _ K (Zb _ C (Zc (Zae (am.rd0 s_at_.rd) rfl) (Zc (zF rfl rfl) (Ze (zD hp rfl (fun aG hp=>?_) (fun aG hp=>?_))))))))
  ·refine Zas (ZB (Zaa (ZB (ZB (ZhN ?_)))))
   have o:=am.bump 45
   refine Zbk _ ao (z3 rfl (Zbl rfl rfl) (Zbk (.b (decide (d=0))) rfl ?_))
   obtain ⟨t,a9,hp⟩:=ZaH hp
   refine ZcW 12 (fun f k=>(I.bump 45)=k∧f 29=.b t∧f 0=v_at_∧f 1=.n i∧f 2=.n d∧f 7=.n best∧f 8=.n k_) ?_ ?_
   ·clear hp; rcases ZaR a9 with ⟨c,hp⟩ | ⟨c,hp⟩
    ·refine ZY rfl c (Zbk _ C (ZY rfl c (Zbk _ K (ZY rfl c (ckk hp fun M hp=>z3 rfl (ZZ (o.rd0 s_at_.rd) rfl rfl M) (ZY rfl c (z3 rfl (Zbo (o.rd0 s_at_.rd) (Zf M) rfl rfl) ?_)))))))
     refine ZY rfl c (z3 rfl (zN (o.rd0 s_at_.rd) rfl (Zf M) rfl) (ZY rfl c (Zbk _ C (ZY rfl c (Zbk _ an (ZY rfl c (ckk hp fun Q hp=>z3 rfl (ZZ (o.rd0 s_at_.rd) rfl rfl Q) ?_)))))))
     refine ZY rfl c (z3 rfl (Zbo (o.rd0 s_at_.rd) (Zf Q) rfl rfl) (ZY rfl c (z3 rfl (zN (o.rd0 s_at_.rd) rfl (Zf Q) rfl) (ZY rfl c (z3 rfl (Zbl rfl rfl) (z3 rfl (ZaF (v:=.b t) rfl c (Eq.trans (b:=V.b (decide ((gi at_ k_.toNat).Y=(gi at_ i.toNat).Y))) rfl (congrArg V.b (Option.some.inj hp)))) (Zbi ?_)))))))
     exact ⟨rfl,rfl,C,an,ao,ap,K⟩
    ·refine ZC rfl c (ZC rfl c (ZC rfl c (ZC rfl c (ZC rfl c (ZC rfl c (ZC rfl c (ZC rfl c (ZC rfl c ?_))))))))
     refine ZC rfl c (ZC rfl c (z3 rfl (Za5 (v:=.b t) rfl c (Eq.trans (b:=V.b false) rfl (congrArg V.b (Option.some.inj hp)))) (Zbi ?_)))
     exact ⟨rfl,rfl,C,an,ao,ap,K⟩
   rintro bi _ ⟨rfl,aL,D,ac,av,aw,ad⟩
   refine Zbk _ aL ?_
   obtain ⟨t1,ba,hp⟩:=ZaH hp
   refine ZcW 12 (fun f k=>(I.bump 45)=k∧f 42=.b t1∧f 0=v_at_∧f 1=.n i∧f 2=.n d∧f 7=.n best∧f 8=.n k_) ?_ ?_
   ·clear hp; rcases ZaR ba with ⟨g,hp⟩ | ⟨g,hp⟩
    ·refine ZY rfl g (Zbk _ D (ZY rfl g (Zbk _ ad (ZY rfl g (ckk hp fun R hp=>z3 rfl (ZZ (o.rd0 s_at_.rd) rfl rfl R) (ZY rfl g (z3 rfl (Zbo (o.rd0 s_at_.rd) (Zf R) rfl rfl) ?_)))))))
     refine ZY rfl g (z3 rfl (zN (o.rd0 s_at_.rd) rfl (Zf R) rfl) (ZY rfl g (Zbk _ D (ZY rfl g (Zbk _ ac (ZY rfl g (ckk hp fun S hp=>z3 rfl (ZZ (o.rd0 s_at_.rd) rfl rfl S) ?_)))))))
     refine ZY rfl g (z3 rfl (Zbo (o.rd0 s_at_.rd) (Zf S) rfl rfl) (ZY rfl g (z3 rfl (zN (o.rd0 s_at_.rd) rfl (Zf S) rfl) (ZY rfl g (z3 rfl (Zd2 rfl rfl) (z3 rfl (ZaF (v:=.b t1) rfl g (Eq.trans (b:=V.b (decide (((gi at_ i.toNat).X) < ((gi at_ k_.toNat).X)))) rfl (congrArg V.b (Option.some.inj hp)))) (Zbi ?_)))))))
     exact ⟨rfl,rfl,D,ac,av,aw,ad⟩
    ·refine ZC rfl g (ZC rfl g (ZC rfl g (ZC rfl g (ZC rfl g (ZC rfl g (ZC rfl g (ZC rfl g (ZC rfl g ?_))))))))
     refine ZC rfl g (ZC rfl g (z3 rfl (Za5 (v:=.b t1) rfl g (Eq.trans (b:=V.b false) rfl (congrArg V.b (Option.some.inj hp)))) (Zbi ?_)))
     exact ⟨rfl,rfl,D,ac,av,aw,ad⟩
   rintro bj _ ⟨rfl,aM,w,ae,af,x,E⟩
   refine Zbk _ aM ?_
   obtain ⟨t2,bb,hp⟩:=ZaH hp
   refine ZcW 16 (fun f k=>(I.bump 45)=k∧f 59=.b t2∧f 0=v_at_∧f 1=.n i∧f 2=.n d∧f 7=.n best∧f 8=.n k_) ?_ ?_
   ·clear hp; rcases ZaR bb with ⟨q,hp⟩ | ⟨q,hp⟩
    ·refine ZY rfl q (Zbk _ x (ZY rfl q (z3 rfl (zF rfl rfl) (ZY rfl q (Zbk (.b (decide (best < 0))) rfl ?_)))))
     obtain ⟨t3,bc,hp⟩:=ZaH hp
     refine ZcW 12 (fun f k=>(I.bump 45)=k∧f 58=.b t3∧f 0=v_at_∧f 1=.n i∧f 2=.n d∧f 43=.b t1∧f 7=.n best∧f 8=.n k_) ?_ ?_
     ·clear hp; rcases ZaR bc with ⟨j,hp⟩ | ⟨j,hp⟩
      ·refine ZC rfl j (ZC rfl j (ZC rfl j (ZC rfl j (ZC rfl j (ZC rfl j (ZC rfl j (ZC rfl j (ZC rfl j ?_))))))))
       refine ZC rfl j (ZC rfl j (ZY rfl q (z3 rfl (ZaF (v:=.b t3) rfl j (Eq.trans (b:=V.b true) rfl (congrArg V.b (Option.some.inj hp)))) (Zbi ?_))))
       exact ⟨rfl,rfl,w,ae,af,rfl,x,E⟩
      ·refine ZY rfl j (Zbk _ w (ZY rfl j (Zbk _ E (ZY rfl j (ckk hp fun T hp=>z3 rfl (ZZ (o.rd0 s_at_.rd) rfl rfl T) (ZY rfl j (z3 rfl (Zbo (o.rd0 s_at_.rd) (Zf T) rfl rfl) ?_)))))))
       refine ZY rfl j (z3 rfl (zN (o.rd0 s_at_.rd) rfl (Zf T) rfl) (ZY rfl j (Zbk _ w (ZY rfl j (Zbk _ x (ZY rfl j (ckk hp fun U hp=>z3 rfl (ZZ (o.rd0 s_at_.rd) rfl rfl U) ?_)))))))
       refine ZY rfl j (z3 rfl (Zbo (o.rd0 s_at_.rd) (Zf U) rfl rfl) (ZY rfl j (z3 rfl (zN (o.rd0 s_at_.rd) rfl (Zf U) rfl) (ZY rfl j (z3 rfl (zF rfl rfl) (ZY rfl q (z3 rfl (Za5 (v:=.b t3) rfl j (Eq.trans (b:=V.b (decide (((gi at_ k_.toNat).X) < ((gi at_ best.toNat).X)))) rfl (congrArg V.b (Option.some.inj hp)))) (Zbi ?_))))))))
       exact ⟨rfl,rfl,w,ae,af,rfl,x,E⟩
     rintro bk _ ⟨rfl,aR,aN,aO,aP,aQ,aS,aT⟩
     refine z3 rfl (ZaF (v:=.b t2) aQ q (Eq.trans (b:=V.b t3) aR (congrArg V.b (Option.some.inj hp)))) (Zbi ?_)
     exact ⟨rfl,rfl,aN,aO,aP,aS,aT⟩
    ·refine ZC rfl q (ZC rfl q (ZC rfl q (Zdw rfl (Zdw rfl (Zdw rfl (Zdw rfl (Zdw rfl (Zdw rfl ?_))))))))
     refine Zdw rfl (Zdw rfl (Zdw rfl (Zdw rfl (Zdw rfl (ZC rfl q (z3 rfl (Za5 (v:=.b t2) rfl q (Eq.trans (b:=V.b false) rfl (congrArg V.b (Option.some.inj hp)))) (Zbi ?_)))))))
     exact ⟨rfl,rfl,w,ae,af,x,E⟩
   rintro bl _ ⟨rfl,aU,ax,ay,az,aV,ag⟩
   refine Zbi (Zo (Zgd hp (fun best2 e fr k=>e=.normal∧fr 0=v_at_∧fr 1=.n i∧fr 2=.n d∧fr 7=.n best2∧fr 8=.n k_∧Own B h k []) (fun _ hp=>?_) ?_))
   ·refine zD hp aU (fun aI hp=>?_) (fun aI hp=>?_)
    ·refine zI (Zb _ ag (Zb (.n k_) rfl (Zg ?_)))
     cases hp
     exact ⟨rfl,ax,ay,az,rfl,ag,(o.pk [])⟩
    ·refine Zc2 ?_
     cases hp
     exact ⟨rfl,ax,ay,az,aV,ag,(o.pk [])⟩
   rintro best2 hp _ bu J ⟨rfl,L,aq,ar,aF,au,a8⟩
   refine Zo (ZB (ZhN ?_))
   have p:=a8.bump 45
   refine Zbk _ ar (z3 rfl (Zbl rfl rfl) (Zbk (.b (decide (d=1))) rfl ?_))
   obtain ⟨t4,bd,hp⟩:=ZaH hp
   refine ZcW 12 (fun f k=>(J.bump 45)=k∧f 75=.b t4∧f 0=v_at_∧f 1=.n i∧f 2=.n d∧f 7=.n best2∧f 8=.n k_) ?_ ?_
   ·clear hp; rcases ZaR bd with ⟨l,hp⟩ | ⟨l,hp⟩
    ·refine ZY rfl l (Zbk _ L (ZY rfl l (Zbk _ au (ZY rfl l (ckk hp fun W hp=>z3 rfl (ZZ (p.rd0 s_at_.rd) rfl rfl W) (ZY rfl l (z3 rfl (Zbo (p.rd0 s_at_.rd) (Zf W) rfl rfl) ?_)))))))
     refine ZY rfl l (z3 rfl (zN (p.rd0 s_at_.rd) rfl (Zf W) rfl) (ZY rfl l (Zbk _ L (ZY rfl l (Zbk _ aq (ZY rfl l (ckk hp fun aa hp=>z3 rfl (ZZ (p.rd0 s_at_.rd) rfl rfl aa) ?_)))))))
     refine ZY rfl l (z3 rfl (Zbo (p.rd0 s_at_.rd) (Zf aa) rfl rfl) (ZY rfl l (z3 rfl (zN (p.rd0 s_at_.rd) rfl (Zf aa) rfl) (ZY rfl l (z3 rfl (Zbl rfl rfl) (z3 rfl (ZaF (v:=.b t4) rfl l (Eq.trans (b:=V.b (decide ((gi at_ k_.toNat).X=(gi at_ i.toNat).X))) rfl (congrArg V.b (Option.some.inj hp)))) (Zbi ?_)))))))
     exact ⟨rfl,rfl,L,aq,ar,aF,au⟩
    ·refine ZC rfl l (ZC rfl l (ZC rfl l (ZC rfl l (ZC rfl l (ZC rfl l (ZC rfl l (ZC rfl l (ZC rfl l ?_))))))))
     refine ZC rfl l (ZC rfl l (z3 rfl (Za5 (v:=.b t4) rfl l (Eq.trans (b:=V.b false) rfl (congrArg V.b (Option.some.inj hp)))) (Zbi ?_)))
     exact ⟨rfl,rfl,L,aq,ar,aF,au⟩
   rintro bm _ ⟨rfl,aW,F,ah,aA,aB,ai⟩
   refine Zbk _ aW ?_
   obtain ⟨t5,be,hp⟩:=ZaH hp
   refine ZcW 12 (fun f k=>(J.bump 45)=k∧f 88=.b t5∧f 0=v_at_∧f 1=.n i∧f 2=.n d∧f 7=.n best2∧f 8=.n k_) ?_ ?_
   ·clear hp; rcases ZaR be with ⟨m,hp⟩ | ⟨m,hp⟩
    ·refine ZY rfl m (Zbk _ F (ZY rfl m (Zbk _ ai (ZY rfl m (ckk hp fun ab hp=>z3 rfl (ZZ (p.rd0 s_at_.rd) rfl rfl ab) (ZY rfl m (z3 rfl (Zbo (p.rd0 s_at_.rd) (Zf ab) rfl rfl) ?_)))))))
     refine ZY rfl m (z3 rfl (zN (p.rd0 s_at_.rd) rfl (Zf ab) rfl) (ZY rfl m (Zbk _ F (ZY rfl m (Zbk _ ah (ZY rfl m (ckk hp fun N hp=>z3 rfl (ZZ (p.rd0 s_at_.rd) rfl rfl N) ?_)))))))
     refine ZY rfl m (z3 rfl (Zbo (p.rd0 s_at_.rd) (Zf N) rfl rfl) (ZY rfl m (z3 rfl (zN (p.rd0 s_at_.rd) rfl (Zf N) rfl) (ZY rfl m (z3 rfl (Zd2 rfl rfl) (z3 rfl (ZaF (v:=.b t5) rfl m (Eq.trans (b:=V.b (decide (((gi at_ i.toNat).Y) < ((gi at_ k_.toNat).Y)))) rfl (congrArg V.b (Option.some.inj hp)))) (Zbi ?_)))))))
     exact ⟨rfl,rfl,F,ah,aA,aB,ai⟩
    ·refine ZC rfl m (ZC rfl m (ZC rfl m (ZC rfl m (ZC rfl m (ZC rfl m (ZC rfl m (ZC rfl m (ZC rfl m ?_))))))))
     refine ZC rfl m (ZC rfl m (z3 rfl (Za5 (v:=.b t5) rfl m (Eq.trans (b:=V.b false) rfl (congrArg V.b (Option.some.inj hp)))) (Zbi ?_)))
     exact ⟨rfl,rfl,F,ah,aA,aB,ai⟩
   rintro bn _ ⟨rfl,aX,y,aj,ak,A,H⟩
   refine Zbk _ aX ?_
   obtain ⟨t6,bf,hp⟩:=ZaH hp
   refine ZcW 16 (fun f k=>(J.bump 45)=k∧f 105=.b t6∧f 0=v_at_∧f 1=.n i∧f 2=.n d∧f 7=.n best2∧f 8=.n k_) ?_ ?_
   ·clear hp; rcases ZaR bf with ⟨s,hp⟩ | ⟨s,hp⟩
    ·refine ZY rfl s (Zbk _ A (ZY rfl s (z3 rfl (zF rfl rfl) (ZY rfl s (Zbk (.b (decide (best2 < 0))) rfl ?_)))))
     obtain ⟨t7,bg,hp⟩:=ZaH hp
     refine ZcW 12 (fun f k=>(J.bump 45)=k∧f 104=.b t7∧f 0=v_at_∧f 1=.n i∧f 2=.n d∧f 7=.n best2∧f 8=.n k_∧f 89=.b t5) ?_ ?_
     ·clear hp; rcases ZaR bg with ⟨a,hp⟩ | ⟨a,hp⟩
      ·refine ZC rfl a (ZC rfl a (ZC rfl a (ZC rfl a (ZC rfl a (ZC rfl a (ZC rfl a (ZC rfl a (ZC rfl a ?_))))))))
       refine ZC rfl a (ZC rfl a (ZY rfl s (z3 rfl (ZaF (v:=.b t7) rfl a (Eq.trans (b:=V.b true) rfl (congrArg V.b (Option.some.inj hp)))) (Zbi ?_))))
       exact ⟨rfl,rfl,y,aj,ak,A,H,rfl⟩
      ·refine ZY rfl a (Zbk _ y (ZY rfl a (Zbk _ H (ZY rfl a (ckk hp fun O hp=>z3 rfl (ZZ (p.rd0 s_at_.rd) rfl rfl O) (ZY rfl a (z3 rfl (Zbo (p.rd0 s_at_.rd) (Zf O) rfl rfl) ?_)))))))
       refine ZY rfl a (z3 rfl (zN (p.rd0 s_at_.rd) rfl (Zf O) rfl) (ZY rfl a (Zbk _ y (ZY rfl a (Zbk _ A (ZY rfl a (ckk hp fun P hp=>z3 rfl (ZZ (p.rd0 s_at_.rd) rfl rfl P) ?_)))))))
       refine ZY rfl a (z3 rfl (Zbo (p.rd0 s_at_.rd) (Zf P) rfl rfl) (ZY rfl a (z3 rfl (zN (p.rd0 s_at_.rd) rfl (Zf P) rfl) (ZY rfl a (z3 rfl (zF rfl rfl) (ZY rfl s (z3 rfl (Za5 (v:=.b t7) rfl a (Eq.trans (b:=V.b (decide (((gi at_ k_.toNat).Y) < ((gi at_ best2.toNat).Y)))) rfl (congrArg V.b (Option.some.inj hp)))) (Zbi ?_))))))))
       exact ⟨rfl,rfl,y,aj,ak,A,H,rfl⟩
     rintro bo _ ⟨rfl,a0,aY,aZ,a1,a2,a3,a4⟩
     refine z3 rfl (ZaF (v:=.b t6) a4 s (Eq.trans (b:=V.b t7) a0 (congrArg V.b (Option.some.inj hp)))) (Zbi ?_)
     exact ⟨rfl,rfl,aY,aZ,a1,a2,a3⟩
    ·refine ZC rfl s (ZC rfl s (ZC rfl s (Zdw rfl (Zdw rfl (Zdw rfl (Zdw rfl (Zdw rfl (Zdw rfl ?_))))))))
     refine Zdw rfl (Zdw rfl (Zdw rfl (Zdw rfl (Zdw rfl (ZC rfl s (z3 rfl (Za5 (v:=.b t6) rfl s (Eq.trans (b:=V.b false) rfl (congrArg V.b (Option.some.inj hp)))) (Zbi ?_)))))))
     exact ⟨rfl,rfl,y,aj,ak,A,H⟩
   rintro bp _ ⟨rfl,a5,aC,aD,aE,a6,al⟩
   refine Zbi (Zo (zD hp a5 (fun aH hp=>?_) (fun aH hp=>?_)))
   ·refine zI (Zb _ al (Zb (.n k_) rfl (Zg (Zaf (Zo (zI (Zb _ al (ckk hp fun aJ hp=>?_))))))))
    refine Zc (zc rfl rfl aJ) (Zb (.n (k_ + 1)) rfl (Zg ?_))
    cases hp
    exact ⟨rfl,aC,aD,aE,rfl,rfl,(p.pk [])⟩
   ·refine Zc2 (Zaf (Zo (zI (Zb _ al (ckk hp fun aK hp=>Zc (zc rfl rfl aK) (Zb (.n (k_ + 1)) rfl (Zg ?_)))))))
    cases hp
    exact ⟨rfl,aC,aD,aE,a6,rfl,(p.pk [])⟩
  ·refine Zbq (zM ?_)
   cases hp
   exact ⟨nofun,rfl,ap,(am.pk [])⟩
 rintro best1 hp _ bs bq ⟨rfl,bh,a7⟩
 refine Zav (Zo (Zi (Zb _ bh (Zb (.n best1) rfl (Ze (Zar ?_))))))
 refine z4 (zX rfl ZK) ?_
 cases hp
 exact ⟨rfl,(a7.pk [])⟩

theorem zm.ok {h:Hp} {at_:List ZD} {l:List Za} {i:Int} {w:Int} {v_at_:V} {v_l:V} (s_at_:Sl ZH h v_at_ at_) (s_l:Sl Zd h v_l l) {r:Bool} (hp:zm at_ l i w=some r) :
  ∃ u k',Is G 64 [v_at_,v_l,.n i,.n w] h u k'∧V.b r=u∧Own (fun r=>r < h.n) h k' []:=by
 refine WC.is (ZaP ZdC ?_)
 unfold zm at hp
 let B:Nat→Prop:=(fun r=>r < h.n)
 have hO:Own B h h []:=Own.start0 h
 refine Zi (Zb (.b false) rfl (Ze (ZB (Zi (Zb (.n 0) rfl ?_)))))
 refine Ze (Zaa (Zb7 hp (fun a fr k=>fr 0=v_at_∧fr 1=v_l∧fr 2=.n i∧fr 3=.n w∧fr 9=.n a∧Own B h k []) (fun | .inl _,e,fr,k=>e=(.exit 0)∧Own B h k [] | .inr _,e,fr,k=>e=.ret∧fr 8=.b true∧Own B h k []) ⟨rfl,rfl,rfl,rfl,rfl,(hO.pk [])⟩ ?_ ?_))
 ·rintro a cT cG ⟨ch,bB,ci,cj,bC,aN⟩ cQ hp
  dsimp only [zm.s0] at hp
  refine ZB (Zi (Zb _ bC (Zb _ bB (Zc (Zae (aN.rd0 s_l.rd) rfl) (Zc (zF rfl rfl) (Ze (zD hp rfl (fun bD hp=>?_) (fun bD hp=>?_))))))))
  ·refine Zas (ZB (Zaa (Zi (Zb (.n 0) rfl (Ze ?_)))))
   refine Zaa (Zb7 hp (fun d fr k=>fr 0=v_at_∧fr 1=v_l∧fr 2=.n i∧fr 3=.n w∧fr 9=.n a∧fr 10=.n d∧Own B h k []) (fun | .inl _,e,fr,k=>e=(.exit 2)∧fr 0=v_at_∧fr 1=v_l∧fr 2=.n i∧fr 3=.n w∧fr 9=.n a∧Own B h k [] | .inr _,e,fr,k=>e=.ret∧fr 8=.b true∧Own B h k []) ⟨ch,bB,ci,cj,bC,rfl,(aN.pk [])⟩ ?_ ?_)
   ·rintro d cV cI ⟨L,N,P,Q,M,O,K⟩ cR hp
    dsimp only [zm.s1] at hp
    refine ZB (Zi (Zb _ O (Zc (zF rfl rfl) (Ze (zD hp rfl (fun bF hp=>?_) (fun bF hp=>?_))))))
    ·refine Zas (ZB (Zaa (Zi (Zb _ N (Zb _ M (Zb _ O ?_))))))
     refine ckk hp fun R hp=>Zc (ZZ (K.rd0 s_l.rd) rfl rfl R) (Zc (Zbo (K.rd0 s_l.rd) (Zf R) rfl rfl) (ckk hp fun aP hp=>Zc (ZaZ (K.rd0 s_l.rd) (Zf R) rfl rfl aP rfl) (Zc (zN (K.rd0 s_l.rd) rfl (Zf R) (zx aP)) (Zb (.n (((gi l a.toNat).Next).get d)) rfl (Ze ?_)))))
     refine ZB (Zi (Zb (.n (((gi l a.toNat).Next).get d)) rfl (Zc (zF rfl rfl) (Ze (zD hp rfl (fun bG hp=>?_) (fun bG hp=>?_))))))
     ·refine Zbq (zM (Zav (Zo (zI (Zb _ O (ckk hp fun bK hp=>Zc (zc rfl rfl bK) (Zb (.n (d + 1)) rfl ?_)))))))
      refine Zg ?_
      cases hp
      exact ⟨rfl,L,N,P,Q,M,rfl,(K.pk [])⟩
     ·refine Zas (Zi (Zb _ L (Zb _ M (ckk hp fun aQ hp=>Zc (ZZ (K.rd0 s_at_.rd) rfl rfl aQ) (Zc (Zdb (K.rd0 s_at_.rd) rfl (Zf aQ)) ?_)))))
      refine zz (K.alloc (cs:=ZH.c (⟨0,0⟩:ZD)) K.fr) ?_
      rintro _ cJ ⟨I,rfl,cO,cq,b3⟩
      refine zz (b3.stb (cs':=ZH.c (gi at_ a.toNat)) 0 rfl rfl rfl rfl ⟨rfl,Nat.le_of_ble_eq_true rfl,rfl⟩ rfl) ?_
      rintro _ cK ⟨rfl,cr,cM,T⟩
      refine Ze (Zi (Zb _ L (Zb (.n (((gi l a.toNat).Next).get d)) rfl (ckk hp fun aR hp=>Zc (ZZ (T.rd0 s_at_.rd) rfl rfl aR) (Zc (Zdb (T.rd0 s_at_.rd) rfl (Zf aR)) ?_)))))
      refine zz (T.alloc (cs:=ZH.c (⟨0,0⟩:ZD)) T.fr) ?_
      rintro _ cL ⟨J,rfl,cP,ct,b4⟩
      refine zz (b4.stb (cs':=ZH.c (gi at_ (((gi l a.toNat).Next).get d:Int).toNat)) 1 rfl rfl rfl rfl ⟨rfl,Nat.le_of_ble_eq_true rfl,rfl⟩ rfl) ?_
      rintro _ g ⟨rfl,cu,cN,b5⟩
      refine Ze (ZB (ZB (ZhN ?_)))
      have m:=b5.bump 58
      refine z3 rfl (zG (r:=I) (o:=0) rfl rfl) (z3 rfl (ZU (m.box 0 rfl) rfl rfl) (z3 rfl (zG (r:=J) (o:=0) rfl rfl) (z3 rfl (ZU (m.box 1 rfl) rfl rfl) (z3 rfl (Zbl rfl rfl) (Zbk (.b (decide ((gi at_ a.toNat).Y=(gi at_ (((gi l a.toNat).Next).get d:Int).toNat).Y))) rfl ?_)))))
      obtain ⟨t,b6,hp⟩:=ZaH hp
      refine ZcW 12 (fun f k=>(g.bump 58)=k∧f 58=.b t∧f 0=v_at_∧f 1=v_l∧f 10=.n d∧f 12=.p I 0∧f 13=.p J 0∧f 2=.n i∧f 3=.n w∧f 9=.n a) ?_ ?_
      ·clear hp; rcases ZaR b6 with ⟨s,hp⟩ | ⟨s,hp⟩
       ·refine ZY rfl s (Zbk _ L (ZY rfl s (Zbk _ P (ZY rfl s (ckk hp fun ag hp=>z3 rfl (ZZ (m.rd0 s_at_.rd) rfl rfl ag) (ZY rfl s (z3 rfl (Zbo (m.rd0 s_at_.rd) (Zf ag) rfl rfl) ?_)))))))
        refine ZY rfl s (z3 rfl (zN (m.rd0 s_at_.rd) rfl (Zf ag) rfl) (ZY rfl s (Zbk _ L (ZY rfl s (Zbk _ Q (ZY rfl s (ckk hp fun ah hp=>z3 rfl (ZZ (m.rd0 s_at_.rd) rfl rfl ah) ?_)))))))
        refine ZY rfl s (z3 rfl (Zbo (m.rd0 s_at_.rd) (Zf ah) rfl rfl) (ZY rfl s (z3 rfl (zN (m.rd0 s_at_.rd) rfl (Zf ah) rfl) (ZY rfl s (z3 rfl (Zbl rfl rfl) (z3 rfl (ZaF (v:=.b t) rfl s (Eq.trans (b:=V.b (decide ((gi at_ i.toNat).X=(gi at_ w.toNat).X))) rfl (congrArg V.b (Option.some.inj hp)))) (Zbi ?_)))))))
        exact ⟨rfl,rfl,L,N,O,rfl,rfl,P,Q,M⟩
       ·refine ZC rfl s (ZC rfl s (ZC rfl s (ZC rfl s (ZC rfl s (ZC rfl s (ZC rfl s (ZC rfl s (ZC rfl s ?_))))))))
        refine ZC rfl s (ZC rfl s (z3 rfl (Za5 (v:=.b t) rfl s (Eq.trans (b:=V.b false) rfl (congrArg V.b (Option.some.inj hp)))) (Zbi ?_)))
        exact ⟨rfl,rfl,L,N,O,rfl,rfl,P,Q,M⟩
      rintro cv _ ⟨rfl,bS,ak,aS,aT,al,aU,am,aV,aW⟩
      refine Zbk _ bS ?_
      obtain ⟨t1,b8,hp⟩:=ZaH hp
      refine ZcW 9 (fun f k=>(g.bump 58)=k∧f 68=.b t1∧f 0=v_at_∧f 1=v_l∧f 10=.n d∧f 12=.p I 0∧f 13=.p J 0∧f 2=.n i∧f 3=.n w∧f 9=.n a) ?_ ?_
      ·clear hp; rcases ZaR b8 with ⟨D,hp⟩ | ⟨D,hp⟩
       ·refine ZY rfl D (z3 rfl (zG (r:=I) (o:=0) al rfl) (ZY rfl D (z3 rfl (ZU (m.box 0 rfl) rfl rfl) (ZY rfl D (Zbk _ ak (ZY rfl D (Zbk _ am (ZY rfl D ?_))))))))
        refine ckk hp fun ai hp=>z3 rfl (ZZ (m.rd0 s_at_.rd) rfl rfl ai) (ZY rfl D (z3 rfl (Zbo (m.rd0 s_at_.rd) (Zf ai) rfl rfl) (ZY rfl D (z3 rfl (zN (m.rd0 s_at_.rd) rfl (Zf ai) rfl) (ZY rfl D (z3 rfl (zF rfl rfl) (z3 rfl (ZaF (v:=.b t1) rfl D (Eq.trans (b:=V.b (decide (((gi at_ a.toNat).X) < ((gi at_ i.toNat).X)))) rfl (congrArg V.b (Option.some.inj hp)))) ?_)))))))
        refine Zbi ?_
        exact ⟨rfl,rfl,ak,aS,aT,al,aU,am,aV,aW⟩
       ·refine ZC rfl D (ZC rfl D (ZC rfl D (ZC rfl D (ZC rfl D (ZC rfl D (ZC rfl D (ZC rfl D (z3 rfl (Za5 (v:=.b t1) rfl D (Eq.trans (b:=V.b false) rfl (congrArg V.b (Option.some.inj hp)))) ?_))))))))
        refine Zbi ?_
        exact ⟨rfl,rfl,ak,aS,aT,al,aU,am,aV,aW⟩
      rintro cx _ ⟨rfl,bT,an,aX,aY,aZ,ao,ap,a0,a1⟩
      refine Zbk _ bT ?_
      obtain ⟨t2,b9,hp⟩:=ZaH hp
      refine ZcW 9 (fun f k=>(g.bump 58)=k∧f 78=.b t2∧f 0=v_at_∧f 1=v_l∧f 10=.n d∧f 12=.p I 0∧f 13=.p J 0∧f 2=.n i∧f 3=.n w∧f 9=.n a) ?_ ?_
      ·clear hp; rcases ZaR b9 with ⟨E,hp⟩ | ⟨E,hp⟩
       ·refine ZY rfl E (Zbk _ an (ZY rfl E (Zbk _ ap (ZY rfl E (ckk hp fun aj hp=>z3 rfl (ZZ (m.rd0 s_at_.rd) rfl rfl aj) (ZY rfl E (z3 rfl (Zbo (m.rd0 s_at_.rd) (Zf aj) rfl rfl) ?_)))))))
        refine ZY rfl E (z3 rfl (zN (m.rd0 s_at_.rd) rfl (Zf aj) rfl) (ZY rfl E (z3 rfl (zG (r:=J) (o:=0) ao rfl) (ZY rfl E (z3 rfl (ZU (m.box 1 rfl) rfl rfl) (ZY rfl E (z3 rfl (zF rfl rfl) (z3 rfl (ZaF (v:=.b t2) rfl E (Eq.trans (b:=V.b (decide (((gi at_ i.toNat).X) < ((gi at_ (((gi l a.toNat).Next).get d:Int).toNat).X)))) rfl (congrArg V.b (Option.some.inj hp)))) ?_))))))))
        refine Zbi ?_
        exact ⟨rfl,rfl,an,aX,aY,aZ,ao,ap,a0,a1⟩
       ·refine ZC rfl E (ZC rfl E (ZC rfl E (ZC rfl E (ZC rfl E (ZC rfl E (ZC rfl E (ZC rfl E (z3 rfl (Za5 (v:=.b t2) rfl E (Eq.trans (b:=V.b false) rfl (congrArg V.b (Option.some.inj hp)))) ?_))))))))
        refine Zbi ?_
        exact ⟨rfl,rfl,an,aX,aY,aZ,ao,ap,a0,a1⟩
      rintro cy _ ⟨rfl,bU,aq,a2,a3,ar,a4,au,a5,a6⟩
      refine Zbk _ bU ?_
      obtain ⟨t3,ca,hp⟩:=ZaH hp
      refine ZcW 9 (fun f k=>(g.bump 58)=k∧f 88=.b t3∧f 0=v_at_∧f 1=v_l∧f 10=.n d∧f 12=.p I 0∧f 13=.p J 0∧f 2=.n i∧f 3=.n w∧f 9=.n a) ?_ ?_
      ·clear hp; rcases ZaR ca with ⟨F,hp⟩ | ⟨F,hp⟩
       ·refine ZY rfl F (Zbk _ aq (ZY rfl F (Zbk _ au (ZY rfl F (ckk hp fun U hp=>z3 rfl (ZZ (m.rd0 s_at_.rd) rfl rfl U) (ZY rfl F (z3 rfl (Zbo (m.rd0 s_at_.rd) (Zf U) rfl rfl) ?_)))))))
        refine ZY rfl F (z3 rfl (zN (m.rd0 s_at_.rd) rfl (Zf U) rfl) (ZY rfl F (z3 rfl (zG (r:=I) (o:=0) ar rfl) (ZY rfl F (z3 rfl (ZU (m.box 0 rfl) rfl rfl) (ZY rfl F (z3 rfl (zF rfl rfl) (z3 rfl (ZaF (v:=.b t3) rfl F (Eq.trans (b:=V.b (decide (((gi at_ i.toNat).Y) < ((gi at_ a.toNat).Y)))) rfl (congrArg V.b (Option.some.inj hp)))) ?_))))))))
        refine Zbi ?_
        exact ⟨rfl,rfl,aq,a2,a3,ar,a4,au,a5,a6⟩
       ·refine ZC rfl F (ZC rfl F (ZC rfl F (ZC rfl F (ZC rfl F (ZC rfl F (ZC rfl F (ZC rfl F (z3 rfl (Za5 (v:=.b t3) rfl F (Eq.trans (b:=V.b false) rfl (congrArg V.b (Option.some.inj hp)))) ?_))))))))
        refine Zbi ?_
        exact ⟨rfl,rfl,aq,a2,a3,ar,a4,au,a5,a6⟩
      rintro cz _ ⟨rfl,bV,av,a7,a8,aw,a9,ba,ax,bb⟩
      refine Zbk _ bV ?_
      obtain ⟨t4,cb,hp⟩:=ZaH hp
      refine ZcW 9 (fun f k=>(g.bump 58)=k∧f 98=.b t4∧f 0=v_at_∧f 1=v_l∧f 10=.n d∧f 12=.p I 0∧f 13=.p J 0∧f 2=.n i∧f 3=.n w∧f 9=.n a) ?_ ?_
      ·clear hp; rcases ZaR cb with ⟨H,hp⟩ | ⟨H,hp⟩
       ·refine ZY rfl H (z3 rfl (zG (r:=I) (o:=0) aw rfl) (ZY rfl H (z3 rfl (ZU (m.box 0 rfl) rfl rfl) (ZY rfl H (Zbk _ av (ZY rfl H (Zbk _ ax (ZY rfl H ?_))))))))
        refine ckk hp fun W hp=>z3 rfl (ZZ (m.rd0 s_at_.rd) rfl rfl W) (ZY rfl H (z3 rfl (Zbo (m.rd0 s_at_.rd) (Zf W) rfl rfl) (ZY rfl H (z3 rfl (zN (m.rd0 s_at_.rd) rfl (Zf W) rfl) (ZY rfl H (z3 rfl (zF rfl rfl) (z3 rfl (ZaF (v:=.b t4) rfl H (Eq.trans (b:=V.b (decide (((gi at_ a.toNat).Y) < ((gi at_ w.toNat).Y)))) rfl (congrArg V.b (Option.some.inj hp)))) ?_)))))))
        refine Zbi ?_
        exact ⟨rfl,rfl,av,a7,a8,aw,a9,ba,ax,bb⟩
       ·refine ZC rfl H (ZC rfl H (ZC rfl H (ZC rfl H (ZC rfl H (ZC rfl H (ZC rfl H (ZC rfl H (z3 rfl (Za5 (v:=.b t4) rfl H (Eq.trans (b:=V.b false) rfl (congrArg V.b (Option.some.inj hp)))) ?_))))))))
        refine Zbi ?_
        exact ⟨rfl,rfl,av,a7,a8,aw,a9,ba,ax,bb⟩
      rintro cA _ ⟨rfl,bW,S,bc,bd,ay,az,aA,aB,be⟩
      refine Zbi (Zo (zD hp bW (fun bH hp=>?_) (fun bH hp=>?_)))
      ·refine Zi (Zb (.b true) rfl (Ze (Zar (zE (Zbv (zE ?_))))))
       cases hp
       exact ⟨nofun,rfl,rfl,(m.pk [])⟩
      ·refine Zas (ZB (ZhN ?_))
       have j:=m.bump 58
       refine z3 rfl (zG (r:=I) (o:=0) ay rfl) (z3 rfl (ZU (j.box 0 rfl) rfl rfl) (z3 rfl (zG (r:=J) (o:=0) az rfl) (z3 rfl (ZU (j.box 1 rfl) rfl rfl) (z3 rfl (Zbl rfl rfl) (Zbk (.b (decide ((gi at_ a.toNat).X=(gi at_ (((gi l a.toNat).Next).get d:Int).toNat).X))) rfl ?_)))))
       obtain ⟨t5,cc,hp⟩:=ZaH hp
       refine ZcW 12 (fun f k=>((g.bump 58).bump 58)=k∧f 116=.b t5∧f 0=v_at_∧f 1=v_l∧f 10=.n d∧f 12=.p I 0∧f 13=.p J 0∧f 2=.n i∧f 3=.n w∧f 9=.n a) ?_ ?_
       ·clear hp; rcases ZaR cc with ⟨q,hp⟩ | ⟨q,hp⟩
        ·refine ZY rfl q (Zbk _ S (ZY rfl q (Zbk _ aA (ZY rfl q (ckk hp fun aa hp=>z3 rfl (ZZ (j.rd0 s_at_.rd:Sl ZH ((g.bump 58).bump 58) v_at_ at_) rfl rfl aa) (ZY rfl q (z3 rfl (Zbo (j.rd0 s_at_.rd:Sl ZH ((g.bump 58).bump 58) v_at_ at_) (Zf aa) rfl rfl) ?_)))))))
         refine ZY rfl q (z3 rfl (zN (j.rd0 s_at_.rd:Sl ZH ((g.bump 58).bump 58) v_at_ at_) rfl (Zf aa) rfl) (ZY rfl q (Zbk _ S (ZY rfl q (Zbk _ aB (ZY rfl q (ckk hp fun ab hp=>z3 rfl (ZZ (j.rd0 s_at_.rd:Sl ZH ((g.bump 58).bump 58) v_at_ at_) rfl rfl ab) ?_)))))))
         refine ZY rfl q (z3 rfl (Zbo (j.rd0 s_at_.rd:Sl ZH ((g.bump 58).bump 58) v_at_ at_) (Zf ab) rfl rfl) (ZY rfl q (z3 rfl (zN (j.rd0 s_at_.rd:Sl ZH ((g.bump 58).bump 58) v_at_ at_) rfl (Zf ab) rfl) (ZY rfl q (z3 rfl (Zbl rfl rfl) (z3 rfl (ZaF (v:=.b t5) rfl q (Eq.trans (b:=V.b (decide ((gi at_ i.toNat).Y=(gi at_ w.toNat).Y))) rfl (congrArg V.b (Option.some.inj hp)))) (Zbi ?_)))))))
         exact ⟨rfl,rfl,S,bc,bd,ay,az,aA,aB,be⟩
        ·refine ZC rfl q (ZC rfl q (ZC rfl q (ZC rfl q (ZC rfl q (ZC rfl q (ZC rfl q (ZC rfl q (ZC rfl q ?_))))))))
         refine ZC rfl q (ZC rfl q (z3 rfl (Za5 (v:=.b t5) rfl q (Eq.trans (b:=V.b false) rfl (congrArg V.b (Option.some.inj hp)))) (Zbi ?_)))
         exact ⟨rfl,rfl,S,bc,bd,ay,az,aA,aB,be⟩
       rintro cB _ ⟨rfl,bX,aC,bf,bg,aD,bh,aE,bi,bj⟩
       refine Zbk _ bX ?_
       obtain ⟨t6,cd,hp⟩:=ZaH hp
       refine ZcW 9 (fun f k=>((g.bump 58).bump 58)=k∧f 126=.b t6∧f 0=v_at_∧f 1=v_l∧f 10=.n d∧f 12=.p I 0∧f 13=.p J 0∧f 2=.n i∧f 3=.n w∧f 9=.n a) ?_ ?_
       ·clear hp; rcases ZaR cd with ⟨x,hp⟩ | ⟨x,hp⟩
        ·refine ZY rfl x (Zbk _ aC (ZY rfl x (Zbk _ aE (ZY rfl x (ckk hp fun ac hp=>z3 rfl (ZZ (j.rd0 s_at_.rd:Sl ZH ((g.bump 58).bump 58) v_at_ at_) rfl rfl ac) (ZY rfl x (z3 rfl (Zbo (j.rd0 s_at_.rd:Sl ZH ((g.bump 58).bump 58) v_at_ at_) (Zf ac) rfl rfl) ?_)))))))
         refine ZY rfl x (z3 rfl (zN (j.rd0 s_at_.rd:Sl ZH ((g.bump 58).bump 58) v_at_ at_) rfl (Zf ac) rfl) (ZY rfl x (z3 rfl (zG (r:=I) (o:=0) aD rfl) (ZY rfl x (z3 rfl (ZU (j.box 0 rfl) rfl rfl) (ZY rfl x (z3 rfl (zF rfl rfl) (z3 rfl (ZaF (v:=.b t6) rfl x (Eq.trans (b:=V.b (decide (((gi at_ i.toNat).X) < ((gi at_ a.toNat).X)))) rfl (congrArg V.b (Option.some.inj hp)))) ?_))))))))
         refine Zbi ?_
         exact ⟨rfl,rfl,aC,bf,bg,aD,bh,aE,bi,bj⟩
        ·refine ZC rfl x (ZC rfl x (ZC rfl x (ZC rfl x (ZC rfl x (ZC rfl x (ZC rfl x (ZC rfl x (z3 rfl (Za5 (v:=.b t6) rfl x (Eq.trans (b:=V.b false) rfl (congrArg V.b (Option.some.inj hp)))) ?_))))))))
         refine Zbi ?_
         exact ⟨rfl,rfl,aC,bf,bg,aD,bh,aE,bi,bj⟩
       rintro cC _ ⟨rfl,bY,aF,bk,bl,aG,bm,bn,aH,bo⟩
       refine Zbk _ bY ?_
       obtain ⟨t7,ce,hp⟩:=ZaH hp
       refine ZcW 9 (fun f k=>((g.bump 58).bump 58)=k∧f 136=.b t7∧f 0=v_at_∧f 1=v_l∧f 10=.n d∧f 12=.p I 0∧f 13=.p J 0∧f 2=.n i∧f 3=.n w∧f 9=.n a) ?_ ?_
       ·clear hp; rcases ZaR ce with ⟨y,hp⟩ | ⟨y,hp⟩
        ·refine ZY rfl y (z3 rfl (zG (r:=I) (o:=0) aG rfl) (ZY rfl y (z3 rfl (ZU (j.box 0 rfl) rfl rfl) (ZY rfl y (Zbk _ aF (ZY rfl y (Zbk _ aH (ZY rfl y ?_))))))))
         refine ckk hp fun ad hp=>z3 rfl (ZZ (j.rd0 s_at_.rd:Sl ZH ((g.bump 58).bump 58) v_at_ at_) rfl rfl ad) (ZY rfl y (z3 rfl (Zbo (j.rd0 s_at_.rd:Sl ZH ((g.bump 58).bump 58) v_at_ at_) (Zf ad) rfl rfl) (ZY rfl y (z3 rfl (zN (j.rd0 s_at_.rd:Sl ZH ((g.bump 58).bump 58) v_at_ at_) rfl (Zf ad) rfl) (ZY rfl y (z3 rfl (zF rfl rfl) (z3 rfl (ZaF (v:=.b t7) rfl y (Eq.trans (b:=V.b (decide (((gi at_ a.toNat).X) < ((gi at_ w.toNat).X)))) rfl (congrArg V.b (Option.some.inj hp)))) ?_)))))))
         refine Zbi ?_
         exact ⟨rfl,rfl,aF,bk,bl,aG,bm,bn,aH,bo⟩
        ·refine ZC rfl y (ZC rfl y (ZC rfl y (ZC rfl y (ZC rfl y (ZC rfl y (ZC rfl y (ZC rfl y (z3 rfl (Za5 (v:=.b t7) rfl y (Eq.trans (b:=V.b false) rfl (congrArg V.b (Option.some.inj hp)))) ?_))))))))
         refine Zbi ?_
         exact ⟨rfl,rfl,aF,bk,bl,aG,bm,bn,aH,bo⟩
       rintro cD _ ⟨rfl,b0,aI,bp,bq,bZ,br,aJ,bs,bt⟩
       refine Zbk _ b0 ?_
       obtain ⟨t8,cf,hp⟩:=ZaH hp
       refine ZcW 9 (fun f k=>((g.bump 58).bump 58)=k∧f 146=.b t8∧f 0=v_at_∧f 1=v_l∧f 10=.n d∧f 13=.p J 0∧f 2=.n i∧f 3=.n w∧f 9=.n a) ?_ ?_
       ·clear hp; rcases ZaR cf with ⟨A,hp⟩ | ⟨A,hp⟩
        ·refine ZY rfl A (z3 rfl (zG (r:=I) (o:=0) bZ rfl) (ZY rfl A (z3 rfl (ZU (j.box 0 rfl) rfl rfl) (ZY rfl A (Zbk _ aI (ZY rfl A (Zbk _ aJ (ZY rfl A ?_))))))))
         refine ckk hp fun ae hp=>z3 rfl (ZZ (j.rd0 s_at_.rd:Sl ZH ((g.bump 58).bump 58) v_at_ at_) rfl rfl ae) (ZY rfl A (z3 rfl (Zbo (j.rd0 s_at_.rd:Sl ZH ((g.bump 58).bump 58) v_at_ at_) (Zf ae) rfl rfl) (ZY rfl A (z3 rfl (zN (j.rd0 s_at_.rd:Sl ZH ((g.bump 58).bump 58) v_at_ at_) rfl (Zf ae) rfl) (ZY rfl A (z3 rfl (zF rfl rfl) (z3 rfl (ZaF (v:=.b t8) rfl A (Eq.trans (b:=V.b (decide (((gi at_ a.toNat).Y) < ((gi at_ i.toNat).Y)))) rfl (congrArg V.b (Option.some.inj hp)))) ?_)))))))
         refine Zbi ?_
         exact ⟨rfl,rfl,aI,bp,bq,br,aJ,bs,bt⟩
        ·refine ZC rfl A (ZC rfl A (ZC rfl A (ZC rfl A (ZC rfl A (ZC rfl A (ZC rfl A (ZC rfl A (z3 rfl (Za5 (v:=.b t8) rfl A (Eq.trans (b:=V.b false) rfl (congrArg V.b (Option.some.inj hp)))) ?_))))))))
         refine Zbi ?_
         exact ⟨rfl,rfl,aI,bp,bq,br,aJ,bs,bt⟩
       rintro cE _ ⟨rfl,b2,aK,bu,bv,b1,aL,bw,bx⟩
       refine Zbk _ b2 ?_
       obtain ⟨t9,b7,hp⟩:=ZaH hp
       refine ZcW 9 (fun f k=>((g.bump 58).bump 58)=k∧f 156=.b t9∧f 0=v_at_∧f 1=v_l∧f 10=.n d∧f 2=.n i∧f 3=.n w∧f 9=.n a) ?_ ?_
       ·clear hp; rcases ZaR b7 with ⟨C,hp⟩ | ⟨C,hp⟩
        ·refine ZY rfl C (Zbk _ aK (ZY rfl C (Zbk _ aL (ZY rfl C (ckk hp fun af hp=>z3 rfl (ZZ (j.rd0 s_at_.rd:Sl ZH ((g.bump 58).bump 58) v_at_ at_) rfl rfl af) (ZY rfl C (z3 rfl (Zbo (j.rd0 s_at_.rd:Sl ZH ((g.bump 58).bump 58) v_at_ at_) (Zf af) rfl rfl) ?_)))))))
         refine ZY rfl C (z3 rfl (zN (j.rd0 s_at_.rd:Sl ZH ((g.bump 58).bump 58) v_at_ at_) rfl (Zf af) rfl) (ZY rfl C (z3 rfl (zG (r:=J) (o:=0) b1 rfl) (ZY rfl C (z3 rfl (ZU (j.box 1 rfl) rfl rfl) (ZY rfl C (z3 rfl (zF rfl rfl) (z3 rfl (ZaF (v:=.b t9) rfl C (Eq.trans (b:=V.b (decide (((gi at_ i.toNat).Y) < ((gi at_ (((gi l a.toNat).Next).get d:Int).toNat).Y)))) rfl (congrArg V.b (Option.some.inj hp)))) ?_))))))))
         refine Zbi ?_
         exact ⟨rfl,rfl,aK,bu,bv,aL,bw,bx⟩
        ·refine ZC rfl C (ZC rfl C (ZC rfl C (ZC rfl C (ZC rfl C (ZC rfl C (ZC rfl C (ZC rfl C (z3 rfl (Za5 (v:=.b t9) rfl C (Eq.trans (b:=V.b false) rfl (congrArg V.b (Option.some.inj hp)))) ?_))))))))
         refine Zbi ?_
         exact ⟨rfl,rfl,aK,bu,bv,aL,bw,bx⟩
       rintro cw _ ⟨rfl,bO,bL,bM,bN,bP,bQ,bR⟩
       refine Zbi (Zo (zD hp bO (fun bE hp=>?_) (fun bE hp=>?_)))
       ·refine Zi (Zb (.b true) rfl (Ze (Zar (Zbv (zE ?_)))))
        cases hp
        exact ⟨nofun,rfl,rfl,(j.pk [])⟩
       ·refine Zc2 (Zaf (Zo (zI (Zb _ bN (ckk hp fun bI hp=>Zc (zc rfl rfl bI) (Zb (.n (d + 1)) rfl (Zg ?_)))))))
        cases hp
        exact ⟨rfl,bL,bM,bP,bQ,bR,rfl,(j.pk [])⟩
    ·refine Zbq (zM ?_)
     cases hp
     exact ⟨nofun,rfl,L,N,P,Q,M,(K.pk [])⟩
   rintro (_ | _) hp _ cU cH bA
   ·obtain ⟨rfl,ck,cl,cm,cn,cp,aO⟩:=bA
    refine Zav (Zaf (Zo (zI (Zb _ cp (ckk hp fun bJ hp=>Zc (zc rfl rfl bJ) (Zb (.n (a + 1)) rfl (Zg ?_)))))))
    cases hp
    exact ⟨rfl,ck,cl,cm,cn,rfl,(aO.pk [])⟩
   ·obtain ⟨rfl,co,aO⟩:=bA
    refine Zbv (Zbv (zE ?_))
    cases hp
    exact ⟨nofun,rfl,co,(aO.pk [])⟩
  ·refine Zbq (zM ?_)
   cases hp
   exact ⟨nofun,rfl,(aN.pk [])⟩
 rintro (_ | _) hp _ cS cF bz
 ·obtain ⟨rfl,aM⟩:=bz
  refine Zav (Zo (Zi (Zb (.b false) rfl (Ze (Zar (z4 (zX rfl ZK) ?_))))))
  cases hp
  exact ⟨rfl,(aM.pk [])⟩
 ·obtain ⟨rfl,cg,aM⟩:=bz
  refine Zbv (zE (z4 (zX cg ZK) ?_))
  cases hp
  exact ⟨rfl,(aM.pk [])⟩

theorem ZaB.ok {h:Hp} {l:List Za} {v:Int} {d:Int} {w:Int} {o:Int} {v_l:V} (s_l:Sl Zd h v_l l) {r:(List Za)} (hp:ZaB l v d w o=some r) :
  ∃ u k',Is G 65 [v_l,.n v,.n d,.n w,.n o] h u k'∧∃ U,U=u∧Own (fun r=>r < h.n) h k' [eSl Zd U r]:=by
 refine WC.is (ZaP Ze0 ?_)
 unfold ZaB at hp
 let B:Nat→Prop:=(fun r=>r < h.n)
 have hO:Own B h h []:=Own.start0 h
 refine Zi (Zb (.sn) rfl (Ze (Zi (Zb (.sn) rfl (Zg ?_)))))
 refine Zo (ZB (Zi (Zb (.n 0) rfl (Ze (Zaa ?_)))))
 have ak:=hO.nil Zd
 refine Zb7 hp (fun | (out,i),fr,k=>∃ j,fr 0=v_l∧fr 1=.n v∧fr 2=.n d∧fr 3=.n w∧fr 4=.n o∧fr 11=j∧fr 12=.n i∧Own B h k [eSl Zd j out]) (fun out1 e fr k=>e=(.exit 0)∧∃ q,fr 11=q∧Own B h k [eSl Zd q out1]) ⟨V.sn,rfl,rfl,rfl,rfl,rfl,rfl,rfl,(ak.pk [0])⟩ ?_ ?_
 ·rintro ⟨out,i⟩ aY aI ⟨j,t,H,x,J,K,I,m,f⟩ aW hp
  dsimp only [ZaB.s0] at hp
  refine ZB (Zi (Zb _ m (Zb _ t (Zc (Zae (f.rd0 s_l.rd) rfl) (Zc (zF rfl rfl) (Ze (zD hp rfl (fun Y hp=>?_) (fun Y hp=>?_))))))))
  ·refine Zas (ZB (Zaa (Zi (Zb _ t (Zb _ m (ckk hp fun P hp=>?_))))))
   refine Zc (ZZ (f.rd0 s_l.rd) rfl rfl P) (Zc (Zdb (f.rd0 s_l.rd) rfl (Zf P)) (zz (f.alloc (cs:=Zd.c (⟨⟨0,0,0,0⟩,⟨0,0,0,0⟩⟩:Za)) f.fr) ?_))
   rintro _ aJ ⟨g,rfl,aV,au,al⟩
   refine zz (al.stb (cs':=Zd.c (gi l i.toNat)) 1 rfl rfl rfl rfl ⟨rfl,Nat.le_of_ble_eq_true rfl,rfl⟩ rfl) ?_
   rintro _ aK ⟨rfl,aw,aQ,R⟩
   refine Ze (ZB (Zi (Zb _ m (Zb _ H (Zc (Zbl rfl rfl) (Zg ?_))))))
   refine Zo (Zgd hp (fun c e fr k=>e=.normal∧fr 0=v_l∧fr 1=.n v∧fr 2=.n d∧fr 3=.n w∧fr 4=.n o∧fr 11=j∧fr 12=.n i∧fr 13=.p g 0∧Own B h k [eSl Zd j out,zP g (Zd.c c)]) (fun _ hp=>?_) ?_)
   ·refine zD hp rfl (fun aa hp=>?_) (fun aa hp=>?_)
    ·refine Zi (Zb _ x (Zb _ J (Zc (zG (r:=g) (o:=0) rfl rfl) (ckk hp fun a hp=>Zc (Ze7 (o:=0) (o':=(0 + d.toNat * 1)) rfl rfl a rfl) (zz (R.stb (cs':=Zd.c ({ gi l i.toNat with Next:=((gi l i.toNat).Next).set d w })) 1 rfl rfl rfl rfl ⟨rfl,(by have:=a; exact (show 0 + d.toNat * 1 + 1≤8 by omega)),rfl⟩ (Zcj a)) ?_)))))
     rintro _ aM ⟨rfl,ax,aR,am⟩
     refine Ze (zI (Zb _ x (Zb _ K (Zc (zG (r:=g) (o:=0) rfl rfl) (Zc (Ze7 (o:=4) (o':=(4 + d.toNat * 1)) rfl rfl a rfl) (zz (am.stb (cs':=Zd.c ({ { gi l i.toNat with Next:=((gi l i.toNat).Next).set d w } with Owner:=(({ gi l i.toNat with Next:=((gi l i.toNat).Next).set d w }).Owner).set d o })) 1 rfl rfl rfl rfl ⟨rfl,(by have:=a; exact (show 4 + d.toNat * 1 + 1≤8 by omega)),rfl⟩ (Zcu a)) ?_))))))
     rintro _ aN ⟨rfl,ay,aS,an⟩
     refine Zg ?_
     cases hp
     exact ⟨rfl,t,H,x,J,K,I,m,rfl,(an.pk [0,1])⟩
    ·refine Zc2 ?_
     cases hp
     exact ⟨rfl,t,H,x,J,K,I,m,rfl,(R.pk [0,1])⟩
   rintro c hp _ aZ aL ⟨rfl,S,L,A,N,O,T,M,y,s⟩
   refine Zo (ZB (Zi (Zb _ M (Zb _ N (Zc (Zbl rfl rfl) (Ze (zD hp rfl (fun ab hp=>?_) (fun ab hp=>?_))))))))
   ·refine Zi (Zb _ A (ckk hp fun Q hp=>Zc (zc rfl rfl Q) (Zc (Zc6 rfl rfl (by decide)) (Zb _ L (Zc (zG (r:=g) (o:=0) y rfl) (ckk hp fun b hp=>?_))))))
    refine Zc (Ze7 (o:=0) (o':=(0 + ((d + 2).tmod 4:Int).toNat * 1)) rfl rfl b rfl) (zz (s.stb (cs':=Zd.c ({ c with Next:=c.Next.set ((d + 2).tmod 4) v })) 1 rfl rfl rfl rfl ⟨rfl,(by have:=b; exact (show 0 + ((d + 2).tmod 4:Int).toNat * 1 + 1≤8 by omega)),rfl⟩ (Zcj b)) ?_)
    rintro _ aO ⟨rfl,az,aT,ao⟩
    refine Ze (zI (Zb _ A (Zc (zc rfl rfl Q) (Zc (Zc6 rfl rfl (by decide)) (Zb _ O (Zc (zG (r:=g) (o:=0) y rfl) (Zc (Ze7 (o:=4) (o':=(4 + ((d + 2).tmod 4:Int).toNat * 1)) rfl rfl b rfl) ?_)))))))
    refine zz (ao.stb (cs':=Zd.c ({ { c with Next:=c.Next.set ((d + 2).tmod 4) v } with Owner:=(({ c with Next:=c.Next.set ((d + 2).tmod 4) v }).Owner).set ((d + 2).tmod 4) o })) 1 rfl rfl rfl rfl ⟨rfl,(by have:=b; exact (show 4 + ((d + 2).tmod 4:Int).toNat * 1 + 1≤8 by omega)),rfl⟩ (Zcu b)) ?_
    rintro _ aP ⟨rfl,aA,aU,C⟩
    refine Ze (zI (Zb _ T (Zc (Zbz (C.box 1 rfl) y rfl) (zz (C.bsl (E:=Zd) (l:=[{ { c with Next:=c.Next.set ((d + 2).tmod 4) v } with Owner:=(({ c with Next:=c.Next.set ((d + 2).tmod 4) v }).Owner).set ((d + 2).tmod 4) o }]) C.fr (by rw [(zp (v:=.ag (Zd.c ({ { c with Next:=c.Next.set ((d + 2).tmod 4) v } with Owner:=(({ c with Next:=c.Next.set ((d + 2).tmod 4) v }).Owner).set ((d + 2).tmod 4) o }))) rfl ZaN)]; rfl) rfl) ?_))))
    rintro ar ap ⟨a0,aB,D⟩
    refine ckk hp fun ac hp=>zz (D.app (bytes:=64) 0 D.fr rfl (D.sl 2 rfl:Sl Zd ap ar [{ { c with Next:=c.Next.set ((d + 2).tmod 4) v } with Owner:=(({ c with Next:=c.Next.set ((d + 2).tmod 4) v }).Owner).set ((d + 2).tmod 4) o }]) rfl rfl (fun _=>rfl) ac (by decide)) ?_
    rintro W aF ⟨aC,ai⟩
    refine Zb W rfl (Zg (Zaf (Zo (zI (Zb _ M (ckk hp fun ad hp=>Zc (zc rfl rfl ad) (Zb (.n (i + 1)) rfl ?_)))))))
    refine Zg ?_
    cases hp
    exact ⟨rfl,W,S,L,A,N,O,rfl,rfl,(ai.pk [0])⟩
   ·refine Zas (zI (Zb _ T (Zc (Zbz (s.box 1 rfl) y rfl) (zz (s.bsl (E:=Zd) (l:=[c]) s.fr (by rw [(zp (v:=.ag (Zd.c c)) rfl ZaN)]; rfl) rfl) ?_))))
    rintro a2 aG ⟨a1,aD,F⟩
    refine ckk hp fun ae hp=>zz (F.app (bytes:=64) 0 F.fr rfl (F.sl 2 rfl) rfl rfl (fun _=>rfl) ae (by decide)) ?_
    rintro X aH ⟨av,aj⟩
    refine Zb X rfl (Zg (Zaf (Zo (zI (Zb _ M (ckk hp fun af hp=>Zc (zc rfl rfl af) (Zb (.n (i + 1)) rfl ?_)))))))
    refine Zg ?_
    cases hp
    exact ⟨rfl,X,S,L,A,N,O,rfl,rfl,(aj.pk [0])⟩
  ·refine Zbq (zM ?_)
   cases hp
   exact ⟨nofun,rfl,j,I,(f.pk [0])⟩
 rintro out1 hp _ aX aE ⟨rfl,q,aq,ah⟩
 refine Zav (Zo (Zi (Zb _ aq (Zb q rfl (Ze (Zar ?_))))))
 refine z4 (zX rfl ZK) ?_
 cases hp
 exact ⟨q,rfl,(ah.pk [0])⟩

theorem ZV.ok {h:Hp} {z:Za1} {most:Int} {v_z_At:V} {v_z_Bits:V} {v_z_Own:V} (s_z_At:Sl ZhA h v_z_At z.At) (s_z_Bits:Sl ZhA h v_z_Bits z.Bits) (s_z_Own:Sl Zln h v_z_Own z.Own) {r:(List Za) × (List ZD)} (hp:ZV z most=some r) :
  ∃ u k',Is G 28 [.ag [v_z_At,v_z_Bits,v_z_Own],.n most] h u k'∧∃ aZ a1,V.tu [aZ,a1]=u∧Own (fun r=>r < h.n) h k' [eSl Zd aZ r.1,eSl ZH a1 r.2]:=by
 refine WC.is (ZaP Zey ?_)
 unfold ZV at hp
 let B:Nat→Prop:=(fun r=>r < h.n)
 have hO:Own B h h []:=Own.start0 h
 refine Zi (zz (hO.boxd (cs:=[v_z_At,v_z_Bits,v_z_Own]) hO.fr rfl rfl) ?_)
 rintro _ ct ⟨a,rfl,cG,cl,bK⟩
 refine Zb (.sn) rfl (Zb (.sn) rfl (Ze (Zi (Zb (.sn) rfl (Ze ?_)))))
 refine ZB (Zi (Zb (.n 0) rfl (Ze (Zaa ?_))))
 have bR:=bK.nil ZH
 refine Zb7 hp (fun | (at_,i),fr,k=>∃ A,fr 1=.n most∧fr 2=.p a 0∧fr 6=A∧fr 7=.n i∧Own B h k [zP a [v_z_At,v_z_Bits,v_z_Own],eSl ZH A at_]) (fun at_1 e fr k=>e=(.exit 0)∧∃ g,fr 2=.p a 0∧fr 6=g∧Own B h k [zP a [v_z_At,v_z_Bits,v_z_Own],eSl ZH g at_1]) ⟨V.sn,rfl,rfl,rfl,rfl,(bR.pk [0,1])⟩ ?_ ?_
 ·rintro ⟨at_,i⟩ cO au ⟨A,ay,az,aA,aB,s⟩ cJ hp
  dsimp only [ZV.s0] at hp
  refine ZB (Zi (Zb _ aB (Zc (zG (r:=a) (o:=0) az rfl) (Zc (ZU (s.box 0 rfl) rfl rfl) (Zc (Zae (s.rd0 s_z_At.rd) rfl) (Zc (zF rfl rfl) (Zb (.b (decide (i < (z.At.length:Int)))) rfl (zK 5 (fun f k=>au=k∧f 28=.b ((decide (i < (z.At.length:Int))) && (decide ((at_.length:Int) < most)))∧f 1=.n most∧f 2=.p a 0∧f 6=A∧f 7=.n i) ?_ ?_))))))))
  ·rcases bc (decide (i < (z.At.length:Int))) with y | y
   ·refine Zp rfl y (Zb _ aA (Zp rfl y (Zc (Zae (s.sl 1 rfl) rfl) (Zp rfl y (Zb _ ay (Zp rfl y (Zc (zF rfl rfl) (Zc (ZcN rfl y rfl) ?_))))))))
    refine Zg ?_
    exact ⟨rfl,rfl,ay,az,aA,aB⟩
   ·refine Zh rfl y (Zh rfl y (Zh rfl y (Zh rfl y (Zc (ZcM (w:=(decide (i < (z.At.length:Int))) && (decide ((at_.length:Int) < most))) rfl y rfl) (Zg ?_)))))
    exact ⟨rfl,rfl,ay,az,aA,aB⟩
  rintro cp _ ⟨rfl,bB,bA,T,aO,al⟩
  refine Ze (zD hp bB (fun a7 hp=>?_) (fun a7 hp=>?_))
  ·refine Zas (ZB (Zaa (ZB (ZeH ?_))))
   have I:=s.bump 18
   have aN:=Fresh.start au 18
   have b4:∀ {i:Nat},h.n≤au.n + i:=Nat.le_trans s.n (Nat.le_add_right _ _)
   refine ZT (zG (r:=a) (o:=0) T rfl) (ZT (ZU (I.box 0 rfl) rfl rfl) (ZaU _ al (ckk hp fun K hp=>ZT (ZZ (I.rd0 s_z_At.rd) rfl rfl K) (ZT (zN (I.rd0 s_z_At.rd) rfl (Zf K) rfl) (ckk hp fun aK hp=>ZT (Zfp rfl aK) (ZT (Zc6 rfl rfl (by decide)) ?_))))))
   refine ZT (zG (r:=a) (o:=0) T rfl) (ZT (ZU (I.box 0 rfl) rfl rfl) (ZaU _ al (ZT (ZZ (I.rd0 s_z_At.rd) rfl rfl K) (ZT (zN (I.rd0 s_z_At.rd) rfl (Zf K) rfl) (ZT (Zfp rfl aK) (ckk hp fun bm hp=>ZT (ZlG rfl rfl bm) (ZT (Zc6 rfl rfl (by decide)) ?_)))))))
   refine ZT (Zc4 (cs:=ZH.c (⟨(gi z.At i.toNat).tmod 8,((gi z.At i.toNat).tdiv 8).tmod 8⟩:ZD)) (by rw [(zp (v:=.n ((gi z.At i.toNat).tmod 8)) rfl (zp (v:=.n (((gi z.At i.toNat).tdiv 8).tmod 8)) rfl ZaN))]; rfl)) (Zd1 (I.alloc (cs:=ZH.c (⟨0,0⟩:ZD)) ⟨aN.m 16 (by decide) (by decide),b4⟩) ?_)
   rintro _ cC c1 ⟨R,rfl,cH,bw,bS⟩
   have bz:=aN.kept bw (by decide)
   refine Zd1 (bS.stb (cs':=ZH.c (⟨(gi z.At i.toNat).tmod 8,((gi z.At i.toNat).tdiv 8).tmod 8⟩:ZD)) 2 rfl rfl rfl rfl ⟨rfl,Nat.le_of_ble_eq_true rfl,rfl⟩ rfl) ?_
   rintro _ cD c2 ⟨rfl,bx,cF,bT⟩
   have co:=bz.kept bx (by decide)
   refine Zcv ?_
   refine And.intro ?_ ?_
   ·intro q hq
    simp only [List.mem_cons,List.not_mem_nil,or_false] at hq
    rcases hq with rfl | rfl | rfl | rfl | rfl | rfl | rfl | rfl
    ·refine z9 ?_ ?_
     ·exact (fun h=>nomatch h)
     ·exact (fun h=>nomatch h)
    ·refine z9 ?_ ?_
     ·exact (fun h=>nomatch h)
     ·exact (fun h=>nomatch h)
    ·refine z9 ?_ ?_
     ·exact (fun h=>nomatch h)
     ·exact (fun h=>nomatch h)
    ·refine z9 ?_ ?_
     ·exact (fun h=>nomatch h)
     ·exact (fun h=>nomatch h)
    ·refine z9 ?_ ?_
     ·exact (fun h=>nomatch h)
     ·exact (fun _ hm=>Nat.lt_irrefl _ (Nat.lt_of_lt_of_le (s.ltAt 0 rfl _ (tch (ZbN hm) rfl)) (Nat.le_add_right _ _)))
    ·refine z9 ?_ ?_
     ·exact (fun h=>nomatch h)
     ·exact (fun _ hm=>Nat.lt_irrefl _ (Nat.lt_of_lt_of_le (Nat.lt_of_lt_of_le (s.lo _ (Rd.B s_z_At.rd s.lo (Zf K) _ (ZbU (tch (ZbN hm) rfl)))) s.n) (Nat.le_add_right _ _)))
    ·refine z9 ?_ ?_
     ·exact (fun h=>nomatch h)
     ·exact (fun _ hm=>Nat.lt_irrefl _ (Nat.lt_of_lt_of_le (s.ltAt 0 rfl _ (tch (ZbN hm) rfl)) (Nat.le_add_right _ _)))
    ·refine z9 ?_ ?_
     ·exact (fun h=>nomatch h)
     ·exact (fun _ hm=>Nat.lt_irrefl _ (Nat.lt_of_lt_of_le (Nat.lt_of_lt_of_le (s.lo _ (Rd.B s_z_At.rd s.lo (Zf K) _ (ZbU (tch (ZbN hm) rfl)))) s.n) (Nat.le_add_right _ _)))
   refine Zo (Zi (Zb (.b false) rfl (Ze (ZB (Zi ?_)))))
   refine Zb (.n 0) rfl (Ze (Zaa (Zb7 hp (fun | (met,k_),fr,k=>fr 1=.n most∧fr 2=.p a 0∧fr 6=A∧fr 7=.n i∧fr 8=.p R 0∧fr 9=.b met∧fr 10=.n k_∧Own B h k [zP a [v_z_At,v_z_Bits,v_z_Own],eSl ZH A at_,zP R (ZH.c (⟨(gi z.At i.toNat).tmod 8,((gi z.At i.toNat).tdiv 8).tmod 8⟩:ZD))]) (fun | (at_2,met1),e,fr,k=>e=(.exit 2)∧fr 1=.n most∧fr 2=.p a 0∧fr 6=A∧fr 7=.n i∧fr 8=.p R 0∧fr 9=.b met1∧Own B h k [zP a [v_z_At,v_z_Bits,v_z_Own],eSl ZH A at_2,zP R (ZH.c (⟨(gi z.At i.toNat).tmod 8,((gi z.At i.toNat).tdiv 8).tmod 8⟩:ZD))]) ⟨bA,T,aO,al,rfl,rfl,rfl,(bT.pk [0,1,2])⟩ ?_ ?_)))
   ·rintro ⟨met,k_⟩ cQ b3 ⟨aC,aD,O,aE,ah,aY,af,ar⟩ cK hp
    dsimp only [ZV.s1] at hp
    refine ZB (Zi (Zb _ af (Zb _ O (Zc (Zae (ar.sl 1 rfl) rfl) (Zc (zF rfl rfl) (Ze (zD hp rfl (fun a8 hp=>?_) (fun a8 hp=>?_))))))))
    ·refine Zas (ZB (Zaa (ZhN ?_)))
     have aa:=ar.bump 10
     refine Zbk _ aY (Zbk (.b met) rfl ?_)
     obtain ⟨t,bY,hp⟩:=ZaH hp
     refine ZcW 7 (fun f k=>(b3.bump 10)=k∧f 61=.b t∧f 1=.n most∧f 10=.n k_∧f 2=.p a 0∧f 6=A∧f 7=.n i∧f 8=.p R 0) ?_ ?_
     ·clear hp; rcases ZaR bY with ⟨j,hp⟩ | ⟨j,hp⟩
      ·refine ZC rfl j (ZC rfl j (ZC rfl j (ZC rfl j (ZC rfl j (ZC rfl j (z3 rfl (ZaF (v:=.b t) rfl j (Eq.trans (b:=V.b true) rfl (congrArg V.b (Option.some.inj hp)))) (Zbi ?_)))))))
       exact ⟨rfl,rfl,aC,af,aD,O,aE,ah⟩
      ·refine ZY rfl j (Zbk _ O (ZY rfl j (Zbk _ af (ZY rfl j (ckk hp fun aL hp=>z3 rfl (ZZ (aa.sl 1 rfl) rfl rfl aL) (ZY rfl j (z3 rfl (Zdb (aa.sl 1 rfl) rfl (Zf aL)) ?_)))))))
       refine ZY rfl j (z3 rfl (Zbz (aa.box 2 rfl) ah rfl) (ZY rfl j (z3 rfl (Zp8 (as:=ZH.c (gi at_ k_.toNat)) (bs:=ZH.c (⟨(gi z.At i.toNat).tmod 8,((gi z.At i.toNat).tdiv 8).tmod 8⟩:ZD)) rfl rfl (Mu.ZH.same _ _)) (z3 rfl (Za5 (v:=.b t) rfl j (Eq.trans (b:=V.b (decide (gi at_ k_.toNat=(⟨(gi z.At i.toNat).tmod 8,((gi z.At i.toNat).tdiv 8).tmod 8⟩:ZD)))) rfl (congrArg V.b (Option.some.inj hp)))) (Zbi ?_)))))
       exact ⟨rfl,rfl,aC,af,aD,O,aE,ah⟩
     rintro cq _ ⟨rfl,bG,bC,bD,bE,bF,bH,bI⟩
     refine Zbk _ bG (Zbi (Zaf (Zo (zI (Zb _ bD (ckk hp fun bn hp=>Zc (zc rfl rfl bn) (Zb (.n (k_ + 1)) rfl ?_)))))))
     refine Zg ?_
     cases hp
     exact ⟨rfl,bC,bE,bF,bH,bI,rfl,rfl,(aa.pk [0,1,2])⟩
    ·refine Zbq (zM ?_)
     cases hp
     exact ⟨nofun,rfl,aC,aD,O,aE,ah,aY,(ar.pk [0,1,2])⟩
   rintro ⟨at_2,met1⟩ hp _ cP cE ⟨rfl,aU,aV,aW,aX,b6,b7,ac⟩
   refine Zav (Zo (Zi (Zb _ b7 (Zc (ZcO rfl) (Ze (zD hp rfl (fun a9 hp=>?_) (fun a9 hp=>?_)))))))
   ·refine zI (Zb _ aW (Zc (Zbz (ac.box 2 rfl) b6 rfl) (zz (ac.bsl (E:=ZH) (l:=[(⟨(gi z.At i.toNat).tmod 8,((gi z.At i.toNat).tdiv 8).tmod 8⟩:ZD)]) ac.fr (by rw [(zp (v:=.ag (ZH.c (⟨(gi z.At i.toNat).tmod 8,((gi z.At i.toNat).tdiv 8).tmod 8⟩:ZD))) rfl ZaN)]; rfl) rfl) ?_)))
    rintro ck bZ ⟨cW,cm,ao⟩
    refine ckk hp fun bo hp=>zz (ao.app (bytes:=16) 1 ao.fr rfl (ao.sl 3 rfl:Sl ZH bZ ck [(⟨(gi z.At i.toNat).tmod 8,((gi z.At i.toNat).tdiv 8).tmod 8⟩:ZD)]) rfl rfl (fun _=>rfl) bo (by decide)) ?_
    rintro a2 cu ⟨cn,bL⟩
    refine Zb a2 rfl (Zg (Zaf (Zo (zI (Zb _ aX (ckk hp fun bp hp=>Zc (zc rfl rfl bp) (Zb (.n (i + 1)) rfl ?_)))))))
    refine Zg ?_
    cases hp
    exact ⟨rfl,a2,aU,aV,rfl,rfl,(bL.pk [0,1])⟩
   ·refine Zc2 (Zaf (Zo (zI (Zb _ aX (ckk hp fun bq hp=>Zc (zc rfl rfl bq) (Zb (.n (i + 1)) rfl (Zg ?_)))))))
    cases hp
    exact ⟨rfl,A,aU,aV,aW,rfl,(ac.pk [0,1])⟩
  ·refine Zbq (zM ?_)
   cases hp
   exact ⟨nofun,rfl,A,T,aO,(s.pk [0,1])⟩
 rintro at_1 hp _ cM b1 ⟨rfl,g,b5,aT,aQ⟩
 refine Zav (Zo (Zi (Zb _ aT (Zc (Zae (aQ.sl 1 rfl) rfl) ?_))))
 obtain ⟨x,⟨cX,cv,br,a3,rfl,bU⟩,hp⟩:=bdk hp fun _=>zk.ok (h:=b1)  
 refine ZaI rfl rfl br ?_
 have bM:=aQ.call bU rfl
 refine Zb a3 rfl (Ze (ZB (Zi (Zb (.n 0) rfl (Ze ?_)))))
 refine Zaa (Zb7 hp (fun | (at_3,l,i1),fr,k=>∃ D,fr 2=.p a 0∧fr 6=g∧fr 11=D∧fr 12=.n i1∧Own B h k [zP a [v_z_At,v_z_Bits,v_z_Own],eSl ZH g at_3,eSl Zd D l]) (fun | (at_4,l1),e,fr,k=>e=(.exit 4)∧∃ S,fr 6=g∧fr 11=S∧Own B h k [eSl ZH g at_4,eSl Zd S l1]) ⟨a3,b5,aT,rfl,rfl,(bM.pk [0,1,2])⟩ ?_ ?_)
 ·rintro ⟨at_3,l,i1⟩ cS cx ⟨D,ai,aj,aF,P,C⟩ cL hp
  dsimp only [ZV.s2] at hp
  refine ZB (Zi (Zb _ P (Zb _ aj (Zc (Zae (C.sl 1 rfl) rfl) (Zc (zF rfl rfl) (Ze (zD hp rfl (fun ba hp=>?_) (fun ba hp=>?_))))))))
  ·refine Zas (ZB (Zaa (Zi (Zb (.i .u8 3) rfl (Ze ?_)))))
   refine ZB (Zi (Zb _ P (Zc (zG (r:=a) (o:=0) ai rfl) (Zc (ZU (C.box 0 rfl) rfl rfl) (Zc (Zae (C.rd0 s_z_Bits.rd) rfl) (Zc (zF rfl rfl) (Zg ?_)))))))
   refine Zo (Zgd hp (fun | (at_5,l2,bits),e,fr,k=>e=.normal∧fr 2=.p a 0∧fr 6=g∧fr 11=D∧fr 12=.n i1∧fr 13=.i .u8 bits∧Own B h k [zP a [v_z_At,v_z_Bits,v_z_Own],eSl ZH g at_5,eSl Zd D l2]) (fun _ hp=>?_) ?_)
   ·refine zD hp rfl (fun bb hp=>?_) (fun bb hp=>?_)
    ·refine zI (Zc (zG (r:=a) (o:=0) ai rfl) (Zc (ZU (C.box 0 rfl) rfl rfl) (Zb _ P (ckk hp fun aM hp=>Zc (ZZ (C.rd0 s_z_Bits.rd) rfl rfl aM) (Zc (zN (C.rd0 s_z_Bits.rd) rfl (Zf aM) rfl) (Zb (.i .u8 (gi z.Bits i1.toNat)) rfl (Zg ?_)))))))
     cases hp
     exact ⟨rfl,ai,aj,aF,P,rfl,(C.pk [0,1,2])⟩
    ·refine Zc2 ?_
     cases hp
     exact ⟨rfl,ai,aj,aF,P,rfl,(C.pk [0,1,2])⟩
   rintro ⟨at_5,l2,bits⟩ hp _ cT cy ⟨rfl,Q,aI,aG,L,aH,F⟩
   refine Zo (Zi (Zb _ L (Zb (.n i1) rfl (Ze (ZB (ZB ?_))))))
   refine zI (Zb _ L (Zc (zG (r:=a) (o:=0) Q rfl) (Zc (ZU (F.box 0 rfl) rfl rfl) (Zc (Zae (F.rd0 s_z_Own.rd) rfl) (Zc (zF rfl rfl) (Ze (Zgd hp (fun | (at_6,l3,own),e,fr,k=>e=.normal∧fr 2=.p a 0∧fr 6=g∧fr 11=D∧fr 12=.n i1∧fr 13=.i .u8 bits∧fr 14=.n own∧Own B h k [zP a [v_z_At,v_z_Bits,v_z_Own],eSl ZH g at_6,eSl Zd D l3]) (fun _ hp=>?_) ?_)))))))
   ·refine zD hp rfl (fun bd hp=>?_) (fun bd hp=>?_)
    ·refine Zi (Zc (zG (r:=a) (o:=0) Q rfl) (Zc (ZU (F.box 0 rfl) rfl rfl) (Zb _ L (ckk hp fun aJ hp=>Zc (ZZ (F.rd0 s_z_Own.rd) rfl rfl aJ) (Zc (zN (F.rd0 s_z_Own.rd) rfl (Zf aJ) rfl) (ckk hp fun bf hp=>?_))))))
     refine Zc (Zfp rfl bf) (Zb (.n (gi z.Own i1.toNat)) rfl (Ze (Zi (Zb (.n (gi z.Own i1.toNat)) rfl (Zc (zF rfl rfl) (Zg ?_))))))
     refine Zo (zD hp rfl (fun be hp=>?_) (fun be hp=>?_))
     ·refine zI (Zb (.n (gi z.Own i1.toNat)) rfl (ckk hp fun bg hp=>Zc (ZlF rfl bg) (Zb (.n (-(gi z.Own i1.toNat))) rfl (Zg ?_))))
      cases hp
      exact ⟨rfl,Q,aI,aG,L,aH,rfl,(F.pk [0,1,2])⟩
     ·refine Zc2 ?_
      cases hp
      exact ⟨rfl,Q,aI,aG,L,aH,rfl,(F.pk [0,1,2])⟩
    ·refine Zc2 ?_
     cases hp
     exact ⟨rfl,Q,aI,aG,L,aH,rfl,(F.pk [0,1,2])⟩
   rintro ⟨at_6,l3,own⟩ hp _ cU cz ⟨rfl,ce,cf,ca,cb,cc,cd,bO⟩
   refine Zo (Zi (Zb (.n 0) rfl (Ze (Zaa (Zb7 hp (fun | (l4,d),fr,k=>∃ J,fr 2=.p a 0∧fr 6=g∧fr 11=J∧fr 12=.n i1∧fr 13=.i .u8 bits∧fr 14=.n own∧fr 15=.n d∧Own B h k [zP a [v_z_At,v_z_Bits,v_z_Own],eSl ZH g at_6,eSl Zd J l4]) (fun l5 e fr k=>e=(.exit 6)∧∃ ak,fr 2=.p a 0∧fr 6=g∧fr 11=ak∧fr 12=.n i1∧Own B h k [zP a [v_z_At,v_z_Bits,v_z_Own],eSl ZH g at_6,eSl Zd ak l5]) ⟨D,ce,cf,ca,cb,cc,cd,rfl,(bO.pk [0,1,2])⟩ ?_ ?_)))))
   ·rintro ⟨l4,d⟩ cN b0 ⟨J,ax,ae,av,ad,aw,aS,N,ap⟩ cI hp
    dsimp only [ZV.s3] at hp
    refine ZB (Zi (Zb _ N (Zc (zF rfl rfl) (Ze (zD hp rfl (fun a4 hp=>?_) (fun a4 hp=>?_))))))
    ·refine Zas (ZB (Zaa (Zi (Zb _ ae (Zb _ ad (Zb _ N ?_))))))
     obtain ⟨x1,⟨cY,aR,bt,rfl,bV⟩,hp⟩:=bdk hp fun _=>zn.ok (h:=b0)  (ap.sl 1 rfl)
     refine ZaI rfl rfl bt ?_
     have ab:=ap.call bV rfl
     refine Zb (.n x1) rfl (Ze (ZB (Zi (Zb _ aw (Zb _ N (ckk hp fun bh hp=>?_))))))
     refine Zc (ZfC (v:=.i .u8 (zL .u8 bits d)) rfl rfl (by decide) (Zen bh)) (Zc (Zfj (v:=.i .u8 (ZM .u8 (zL .u8 bits d) 1)) rfl rfl (by decide) rfl) (Zc (Zbl rfl rfl) (Zb (.b (decide (ZM .u8 (zL .u8 bits d) 1=0))) rfl (zK 3 (fun f k=>aR=k∧f 119=.b ((decide (ZM .u8 (zL .u8 bits d) 1=0)) || (decide (x1 < 0)))∧f 11=J∧f 12=.n i1∧f 13=.i .u8 bits∧f 14=.n own∧f 15=.n d∧f 16=.n x1∧f 2=.p a 0∧f 6=g) ?_ ?_))))
     ·rcases bc (decide (ZM .u8 (zL .u8 bits d) 1=0)) with H | H
      ·refine Zh rfl H (Zh rfl H (Zc (Zcb (w:=(decide (ZM .u8 (zL .u8 bits d) 1=0)) || (decide (x1 < 0))) rfl H rfl) (Zg ?_)))
       exact ⟨rfl,rfl,av,ad,aw,aS,N,rfl,ax,ae⟩
      ·refine Zp rfl H (Zb (.n x1) rfl (Zp rfl H (Zc (zF rfl rfl) (Zc (Zcc rfl H rfl) (Zg ?_)))))
       exact ⟨rfl,rfl,av,ad,aw,aS,N,rfl,ax,ae⟩
     rintro cr _ ⟨rfl,bJ,U,M,am,W,X,aP,an,Y⟩
     refine Ze (zD hp bJ (fun a5 hp=>?_) (fun a5 hp=>?_))
     ·refine Zbq (zM (Zav (Zo (zI (Zb _ X (ckk hp fun bi hp=>Zc (zc rfl rfl bi) (Zb (.n (d + 1)) rfl ?_)))))))
      refine Zg ?_
      cases hp
      exact ⟨rfl,J,an,Y,U,M,am,W,rfl,(ab.pk [0,1,2])⟩
     ·refine Zas (Zi (Zb _ Y (Zb _ U (Zb _ M (Zb _ aP ?_)))))
      obtain ⟨x2,⟨cZ,b2,bu,rfl,bW⟩,hp⟩:=bdk hp fun _=>zm.ok (h:=aR)  (ab.sl 1 rfl) (ab.sl 2 rfl)
      refine ZaI rfl rfl bu ?_
      have aq:=ab.call bW rfl
      refine Zb (.b x2) rfl (Ze (Zi (Zb (.b x2) rfl (Zc (ZcO rfl) (Ze (zD hp rfl (fun a6 hp=>?_) (fun a6 hp=>?_)))))))
      ·refine zI (Zb _ U (Zb _ M (Zb _ X (Zb _ aP (Zb _ W ?_)))))
       obtain ⟨x3,⟨c0,cB,bv,a0,rfl,bX⟩,hp⟩:=bdk hp fun _=>ZaB.ok (h:=b2)  (aq.sl 2 rfl)
       refine ZaI rfl rfl bv ?_
       have bQ:=aq.call bX rfl
       refine Zb a0 rfl (Zg (Zaf (Zo (zI (Zb _ X (ckk hp fun bj hp=>Zc (zc rfl rfl bj) (Zb (.n (d + 1)) rfl ?_)))))))
       refine Zg ?_
       cases hp
       exact ⟨rfl,a0,an,Y,rfl,M,am,W,rfl,(bQ.pk [0,1,3])⟩
      ·refine Zc2 (Zaf (Zo (zI (Zb _ X (ckk hp fun bk hp=>Zc (zc rfl rfl bk) (Zb (.n (d + 1)) rfl (Zg ?_)))))))
       cases hp
       exact ⟨rfl,J,an,Y,U,M,am,W,rfl,(aq.pk [0,1,2])⟩
    ·refine Zbq (zM ?_)
     cases hp
     exact ⟨nofun,rfl,J,ax,ae,av,ad,(ap.pk [0,1,2])⟩
   rintro l5 hp _ cV cA ⟨rfl,ak,ci,cj,cg,ch,bP⟩
   refine Zav (Zaf (Zo (zI (Zb _ ch (ckk hp fun bl hp=>Zc (zc rfl rfl bl) (Zb (.n (i1 + 1)) rfl (Zg ?_)))))))
   cases hp
   exact ⟨rfl,ak,ci,cj,cg,rfl,(bP.pk [0,1,2])⟩
  ·refine Zbq (zM ?_)
   cases hp
   exact ⟨nofun,rfl,D,aj,aF,(C.pk [1,2])⟩
 rintro ⟨at_4,l1⟩ hp _ cR cw ⟨rfl,S,b9,b8,bN⟩
 refine Zav (Zo (Zi (Zb _ b8 (Zb _ b9 (Zb S rfl (Zb g rfl (Zg ?_)))))))
 refine Zo (Zar (z4 (zX rfl (zX rfl ZK)) ?_))
 cases hp
 exact ⟨S,g,rfl,(bN.pk [1,0])⟩

theorem zQ.ok {h:Hp} {z:ZbB} {most:Int} {v_z_Boxes:V} {v_z_Edges:V} {v_z_Bends:V} (s_z_Boxes:Sl e_bool h v_z_Boxes z.Boxes) (s_z_Edges:Sl Zgv h v_z_Edges z.Edges) (s_z_Bends:Sl ZhA h v_z_Bends z.Bends) {r:Zac} (hp:zQ z most=some r) :
  ∃ u k',Is G 171 [.ag [v_z_Boxes,v_z_Edges,v_z_Bends],.n most] h u k'∧∃ aZ a1,V.ag [aZ,a1]=u∧Own (fun r=>r < h.n) h k' [eSl e_bool aZ r.Boxes,eSl z1 a1 r.Edges]:=by
 refine WC.is (ZaP Zew ?_)
 unfold zQ at hp
 let B:Nat→Prop:=(fun r=>r < h.n)
 have hO:Own B h h []:=Own.start0 h
 refine Zi (zz (hO.boxd (cs:=[v_z_Boxes,v_z_Edges,v_z_Bends]) hO.fr rfl rfl) ?_)
 rintro _ cg ⟨d,rfl,cF,b1,aM⟩
 refine zz (aM.alloc (cs:=[.sn,.sn]) aM.fr) ?_
 rintro _ aQ ⟨y,rfl,cG,b8,aN⟩
 refine Ze (Zi (Zc (Zc4 (cs:=[.sn,.sn]) (by rw [ZaN]; simp [fill,over,Zja,ZiY,ZiZ,Zjc,ZiX,Zjb,(Sl.nil:Sl e_bool aQ .sn ([]:List Bool)).cells,(Sl.nil:Sl z1 aQ .sn ([]:List ZaO)).cells])) (zz (aN.alloc (cs:=[.sn,.sn]) aN.fr) ?_)))
 rintro _ aR ⟨g,rfl,cH,b9,bF⟩
 refine zz (bF.stb (cs':=[.sn,.sn]) 2 rfl rfl rfl rfl ⟨rfl,Nat.le_of_ble_eq_true rfl,(all_cons (Sl.nil:Sl e_bool aR .sn ([]:List Bool)).oneV (all_cons (Sl.nil:Sl z1 aR .sn ([]:List ZaO)).oneV all_nil))⟩ rfl) ?_
 rintro _ cv ⟨rfl,ca,cy,bG⟩
 refine Ze (ZB (Zi (Zb (.n 0) rfl (Ze (Zaa ?_)))))
 have bI:=bG.nil e_bool
 refine Zb7 hp (fun | (s,i),fr,k=>∃ af,fr 1=.n most∧fr 2=.p d 0∧fr 4=.p y 0∧fr 5=.p g 0∧fr 6=.n i∧Own B h k [zP d [v_z_Boxes,v_z_Edges,v_z_Bends],zP y [.sn,.sn],zP g [af,.sn],eSl e_bool af s]) (fun s1 e fr k=>e=(.exit 0)∧∃ A,fr 1=.n most∧fr 2=.p d 0∧fr 4=.p y 0∧fr 5=.p g 0∧Own B h k [zP d [v_z_Boxes,v_z_Edges,v_z_Bends],zP y [.sn,.sn],zP g [A,.sn],eSl e_bool A s1]) ⟨V.sn,rfl,rfl,rfl,rfl,rfl,(bI.pk [0,1,2,3])⟩ ?_ ?_
 ·rintro ⟨s,i⟩ cN ao ⟨af,ap,aq,aU,aV,ac,O⟩ cJ hp
  dsimp only [zQ.s0] at hp
  refine ZB (Zi (Zb _ ac (Zc (zG (r:=d) (o:=0) aq rfl) (Zc (ZU (O.box 0 rfl) rfl rfl) (Zc (Zae (O.rd0 s_z_Boxes.rd) rfl) (Zc (zF rfl rfl) (Zb (.b (decide (i < (z.Boxes.length:Int)))) rfl (zK 4 (fun f k=>ao=k∧f 20=.b ((decide (i < (z.Boxes.length:Int))) && (decide (i < most)))∧f 1=.n most∧f 2=.p d 0∧f 4=.p y 0∧f 5=.p g 0∧f 6=.n i) ?_ ?_))))))))
  ·rcases bc (decide (i < (z.Boxes.length:Int))) with K | K
   ·refine Zp rfl K (Zb _ ac (Zp rfl K (Zb _ ap (Zp rfl K (Zc (zF rfl rfl) (Zc (ZcN rfl K rfl) (Zg ?_)))))))
    exact ⟨rfl,rfl,ap,aq,aU,aV,ac⟩
   ·refine Zh rfl K (Zh rfl K (Zh rfl K (Zc (ZcM (w:=(decide (i < (z.Boxes.length:Int))) && (decide (i < most))) rfl K rfl) (Zg ?_))))
    exact ⟨rfl,rfl,ap,aq,aU,aV,ac⟩
  rintro cd _ ⟨rfl,bu,aE,ai,aF,W,aG⟩
  refine Ze (zD hp bu (fun a2 hp=>?_) (fun a2 hp=>?_))
  ·refine Zas (ZB (Zaa (ZeH ?_)))
   have Q:=O.bump 11
   have aB:=Fresh.start ao 11
   have aT:∀ {i:Nat},h.n≤ao.n + i:=Nat.le_trans O.n (Nat.le_add_right _ _)
   refine ZT (zG (r:=g) (o:=0) W rfl) (ZT (ZU (Q.box 2 rfl) rfl rfl) (ZT (zG (r:=d) (o:=0) ai rfl) (ZT (ZU (Q.box 0 rfl) rfl rfl) (ZaU _ aG (ckk hp fun az hp=>ZT (ZZ (Q.rd0 s_z_Boxes.rd) rfl rfl az) (ZT (zN (Q.rd0 s_z_Boxes.rd) rfl (Zf az) rfl) (Zd1 (Q.bsl (E:=e_bool) (l:=[gi z.Boxes i.toNat]) ⟨aB.m 7 (by decide) (by decide),aT⟩ (by rw [(zp (v:=.b (gi z.Boxes i.toNat)) rfl ZaN)]; rfl) rfl) ?_)))))))
   rintro cV cx cX ⟨cT,bn,aP⟩
   have aC:=aB.kept bn (by decide)
   refine ckk hp fun bh hp=>Zd1 (aP.app (bytes:=1) 3 ⟨aC.m 8 (by decide) (by decide),aT⟩ rfl (aP.sl 4 rfl) rfl rfl (fun _=>rfl) bh (by decide)) ?_
   rintro ah aS cY ⟨bo,al⟩
   have bs:=aC.kept bo (by decide)
   refine ZT (zG (r:=g) (o:=0) W rfl) (Zd1 (al.stb (cs':=[ah,.sn]) 2 rfl rfl rfl (al.sl 3 rfl:Sl e_bool aS ah (s++[gi z.Boxes i.toNat])).cells ⟨rfl,Nat.le_of_ble_eq_true rfl,(all_cons (al.sl 3 rfl:Sl e_bool aS ah (s++[gi z.Boxes i.toNat])).oneV rfl)⟩ rfl) ?_)
   rintro _ ch cZ ⟨rfl,bp,cz,bx⟩
   have cb:=bs.kept bp (by decide)
   refine Zcv ?_
   refine And.intro ?_ ?_
   ·intro q hq
    simp only [List.mem_cons,List.not_mem_nil,or_false] at hq
    rcases hq with rfl | rfl | rfl
    ·refine z9 ?_ ?_
     ·exact (fun h=>nomatch h)
     ·exact (fun h=>nomatch h)
    ·refine z9 ?_ ?_
     ·exact (fun h=>nomatch h)
     ·exact (fun h=>nomatch h)
    ·refine z9 ?_ ?_
     ·exact (fun h=>nomatch h)
     ·exact (fun _ hm=>Nat.lt_irrefl _ (Nat.lt_of_lt_of_le (O.ltAt 2 rfl _ (tch (ZbN hm) rfl)) (Nat.le_add_right _ _)))
   refine Zaf (Zo (zI (Zb _ aG (ckk hp fun bi hp=>Zc (zc rfl rfl bi) (Zb (.n (i + 1)) rfl (Zg ?_))))))
   cases hp
   exact ⟨rfl,ah,aE,ai,aF,W,rfl,(bx.pk [0,1,2,3])⟩
  ·refine Zbq (zM ?_)
   cases hp
   exact ⟨nofun,rfl,af,aE,ai,aF,W,(O.pk [0,1,2,3])⟩
 rintro s1 hp _ cM cw ⟨rfl,A,bL,bM,bN,bO,bH⟩
 refine Zav (Zo (ZB (Zi (Zb (.n 0) rfl (Ze (Zaa ?_))))))
 have bz:=bH.nil z1
 refine Zb7 hp (fun | (s2,i1),fr,k=>∃ J,fr 1=.n most∧fr 2=.p d 0∧fr 4=.p y 0∧fr 5=.p g 0∧fr 7=.n i1∧Own B h k [zP d [v_z_Boxes,v_z_Edges,v_z_Bends],zP y [.sn,.sn],zP g [A,J],eSl e_bool A s1,eSl z1 J s2]) (fun s3 e fr k=>e=(.exit 2)∧∃ T,fr 4=.p y 0∧fr 5=.p g 0∧Own B h k [zP y [.sn,.sn],zP g [A,T],eSl e_bool A s1,eSl z1 T s3]) ⟨V.sn,bL,bM,bN,bO,rfl,(bz.pk [0,1,2,3,4])⟩ ?_ ?_
 ·rintro ⟨s2,i1⟩ cP ab ⟨J,ar,au,aX,aY,ad,j⟩ cK hp
  dsimp only [zQ.s1] at hp
  refine ZB (Zi (Zb _ ad (Zc (zG (r:=d) (o:=0) au rfl) (Zc (ZU (j.box 0 rfl) rfl rfl) (Zc (Zae (j.rd0 s_z_Edges.rd) rfl) (Zc (zF rfl rfl) (Zb (.b (decide (i1 < (z.Edges.length:Int)))) rfl ?_)))))))
  obtain ⟨t,bJ,hp⟩:=ZaH hp
  refine zK 5 (fun f k=>ab=k∧f 43=.b t∧f 1=.n most∧f 2=.p d 0∧f 4=.p y 0∧f 5=.p g 0∧f 7=.n i1) ?_ ?_
  ·clear hp; rcases ZaR bJ with ⟨D,hp⟩ | ⟨D,hp⟩
   ·refine Zp rfl D (Zb _ ad (Zp rfl D (Zb _ ar (Zp rfl D (ckk hp fun bj hp=>Zc (ZhO rfl rfl bj) (Zp rfl D (Zc (zF rfl rfl) ?_)))))))
    refine Zc (ZaF (v:=.b t) rfl D (Eq.trans (b:=V.b (decide (i1 < (2 * most)))) rfl (congrArg V.b (Option.some.inj hp)))) (Zg ?_)
    exact ⟨rfl,rfl,ar,au,aX,aY,ad⟩
   ·refine Zh rfl D (Zh rfl D (Zh rfl D (Zh rfl D (Zc (Za5 (v:=.b t) rfl D (Eq.trans (b:=V.b false) rfl (congrArg V.b (Option.some.inj hp)))) (Zg ?_)))))
    exact ⟨rfl,rfl,ar,au,aX,aY,ad⟩
  rintro ce _ ⟨rfl,bv,aH,aI,aJ,aj,aK⟩
  refine Zb _ bv (zK 5 (fun f k=>ab=k∧f 49=.b (t && (decide (0 < (s1.length:Int))))∧f 1=.n most∧f 2=.p d 0∧f 4=.p y 0∧f 5=.p g 0∧f 7=.n i1) ?_ ?_)
  ·rcases bc t with F | F
   ·refine Zp rfl F (Zc (zG (r:=g) (o:=0) aj rfl) (Zp rfl F (Zc (ZU (j.box 2 rfl) rfl rfl) (Zp rfl F (Zc (Zae (j.sl 3 rfl) rfl) (Zp rfl F (Zc (Zd2 rfl rfl) (Zc (ZcN rfl F rfl) ?_))))))))
    refine Zg ?_
    exact ⟨rfl,rfl,aH,aI,aJ,aj,aK⟩
   ·refine Zh rfl F (Zh rfl F (Zh rfl F (Zh rfl F (Zc (ZcM (w:=t && (decide (0 < (s1.length:Int)))) rfl F rfl) (Zg ?_)))))
    exact ⟨rfl,rfl,aH,aI,aJ,aj,aK⟩
  rintro cf _ ⟨rfl,bw,aL,M,ak,P,N⟩
  refine Ze (zD hp bw (fun a3 hp=>?_) (fun a3 hp=>?_))
  ·refine Zas (ZB (Zaa (ZB (ZeH ?_))))
   have x:=j.bump 33
   have aD:=Fresh.start ab 33
   have bK:∀ {i:Nat},h.n≤ab.n + i:=Nat.le_trans j.n (Nat.le_add_right _ _)
   refine ZT (zG (r:=d) (o:=0) M rfl) (ZT (ZU (x.box 0 rfl) rfl rfl) (ZaU _ N (ckk hp fun C hp=>ZT (ZZ (x.rd0 s_z_Edges.rd) rfl rfl C) (ZT (ZaZ (x.rd0 s_z_Edges.rd) (Zf C) rfl rfl (by decide) rfl) (ZT (zN (x.rd0 s_z_Edges.rd) rfl (Zf C) rfl) (ckk hp fun bk hp=>ZT (Zfp rfl bk) ?_))))))
   refine ZT (zG (r:=g) (o:=0) P rfl) (ZT (ZU (x.box 2 rfl) rfl rfl) (ZT (Zae (x.sl 3 rfl) rfl) (ckk hp fun aA hp=>ZT (Zc6 rfl rfl aA) (ZT (zG (r:=d) (o:=0) M rfl) (ZT (ZU (x.box 0 rfl) rfl rfl) (ZaU _ N (ZT (ZZ (x.rd0 s_z_Edges.rd) rfl rfl C) ?_)))))))
   refine ZT (ZaZ (x.rd0 s_z_Edges.rd) (Zf C) rfl rfl (by decide) rfl) (ZT (zN (x.rd0 s_z_Edges.rd) rfl (Zf C) rfl) (ckk hp fun bl hp=>ZT (Zfp rfl bl) (ZT (zG (r:=g) (o:=0) P rfl) (ZT (ZU (x.box 2 rfl) rfl rfl) (ZT (Zae (x.sl 3 rfl) rfl) (ZT (Zc6 rfl rfl aA) (ZT (zG (r:=d) (o:=0) M rfl) ?_)))))))
   refine ZT (ZU (x.box 0 rfl) rfl rfl) (ZaU _ N (ZT (ZZ (x.rd0 s_z_Edges.rd) rfl rfl C) (ZT (ZaZ (x.rd0 s_z_Edges.rd) (Zf C) rfl rfl (by decide) rfl) (ZT (zN (x.rd0 s_z_Edges.rd) rfl (Zf C) rfl) (ckk hp fun bm hp=>ZT (Zfp rfl bm) (ZT (Zc6 rfl rfl (by decide)) (ZT (Zc4 (cs:=z1.c (⟨((gi z.Edges i1.toNat).get 0).tmod (s1.length:Int),((gi z.Edges i1.toNat).get 1).tmod (s1.length:Int),((gi z.Edges i1.toNat).get 2).tmod 4,(⟨#[]⟩:ByteArray)⟩:ZaO)) (by rw [(zp (v:=.n (((gi z.Edges i1.toNat).get 0).tmod (s1.length:Int))) rfl (zp (v:=.n (((gi z.Edges i1.toNat).get 1).tmod (s1.length:Int))) rfl (zp (v:=.n (((gi z.Edges i1.toNat).get 2).tmod 4)) rfl ZaN)))]; rfl)) ?_)))))))
   refine Zd1 (x.alloc (cs:=z1.c (⟨0,0,0,(⟨#[]⟩:ByteArray)⟩:ZaO)) ⟨aD.m 31 (by decide) (by decide),bK⟩) ?_
   rintro _ cj c0 ⟨I,rfl,cI,bq,bA⟩
   have bt:=aD.kept bq (by decide)
   refine Zd1 (bA.stb (cs':=z1.c (⟨((gi z.Edges i1.toNat).get 0).tmod (s1.length:Int),((gi z.Edges i1.toNat).get 1).tmod (s1.length:Int),((gi z.Edges i1.toNat).get 2).tmod 4,(⟨#[]⟩:ByteArray)⟩:ZaO)) 5 rfl rfl rfl rfl ⟨rfl,Nat.le_of_ble_eq_true rfl,rfl⟩ rfl) ?_
   rintro _ ck c1 ⟨rfl,br,cA,Y⟩
   have cc:=bt.kept br (by decide)
   refine Zcv ?_
   refine And.intro ?_ ?_
   ·intro q hq
    simp only [List.mem_cons,List.not_mem_nil,or_false] at hq
    rcases hq with rfl | rfl | rfl | rfl | rfl | rfl | rfl | rfl | rfl | rfl | rfl | rfl | rfl | rfl | rfl | rfl | rfl | rfl | rfl | rfl | rfl | rfl | rfl | rfl | rfl | rfl | rfl | rfl | rfl | rfl | rfl | rfl | rfl
    ·refine z9 ?_ ?_
     ·exact (fun h=>nomatch h)
     ·exact (fun h=>nomatch h)
    ·refine z9 ?_ ?_
     ·exact (fun h=>nomatch h)
     ·exact (fun h=>nomatch h)
    ·refine z9 ?_ ?_
     ·exact (fun h=>nomatch h)
     ·exact (fun h=>nomatch h)
    ·refine z9 ?_ ?_
     ·exact (fun h=>nomatch h)
     ·exact (fun h=>nomatch h)
    ·refine z9 ?_ ?_
     ·exact (fun h=>nomatch h)
     ·exact (fun h=>nomatch h)
    ·refine z9 ?_ ?_
     ·exact (fun h=>nomatch h)
     ·exact (fun h=>nomatch h)
    ·refine z9 ?_ ?_
     ·exact (fun h=>nomatch h)
     ·exact (fun h=>nomatch h)
    ·refine z9 ?_ ?_
     ·exact (fun h=>nomatch h)
     ·exact (fun h=>nomatch h)
    ·refine z9 ?_ ?_
     ·exact (fun h=>nomatch h)
     ·exact (fun h=>nomatch h)
    ·refine z9 ?_ ?_
     ·exact (fun h=>nomatch h)
     ·exact (fun h=>nomatch h)
    ·refine z9 ?_ ?_
     ·exact (fun h=>nomatch h)
     ·exact (fun h=>nomatch h)
    ·refine z9 ?_ ?_
     ·exact (fun h=>nomatch h)
     ·exact (fun h=>nomatch h)
    ·refine z9 ?_ ?_
     ·exact (fun h=>nomatch h)
     ·exact (fun h=>nomatch h)
    ·refine z9 ?_ ?_
     ·exact (fun h=>nomatch h)
     ·exact (fun h=>nomatch h)
    ·refine z9 ?_ ?_
     ·exact (fun h=>nomatch h)
     ·exact (fun h=>nomatch h)
    ·refine z9 ?_ ?_
     ·exact (fun h=>nomatch h)
     ·exact (fun h=>nomatch h)
    ·refine z9 ?_ ?_
     ·exact (fun h=>nomatch h)
     ·exact (fun h=>nomatch h)
    ·refine z9 ?_ ?_
     ·exact (fun h=>nomatch h)
     ·exact (fun h=>nomatch h)
    ·refine z9 ?_ ?_
     ·exact (fun h=>nomatch h)
     ·exact (fun h=>nomatch h)
    ·refine z9 ?_ ?_
     ·exact (fun h=>nomatch h)
     ·exact (fun h=>nomatch h)
    ·refine z9 ?_ ?_
     ·exact (fun h=>nomatch h)
     ·exact (fun h=>nomatch h)
    ·refine z9 ?_ ?_
     ·exact (fun h=>nomatch h)
     ·exact (fun h=>nomatch h)
    ·refine z9 ?_ ?_
     ·exact (fun h=>nomatch h)
     ·exact (fun h=>nomatch h)
    ·refine z9 ?_ ?_
     ·exact (fun h=>nomatch h)
     ·exact (fun h=>nomatch h)
    ·refine z9 ?_ ?_
     ·exact (fun h=>nomatch h)
     ·exact (fun h=>nomatch h)
    ·refine z9 ?_ ?_
     ·exact (fun h=>nomatch h)
     ·exact (fun _ hm=>Nat.lt_irrefl _ (Nat.lt_of_lt_of_le (j.ltAt 0 rfl _ (tch (ZbN hm) rfl)) (Nat.le_add_right _ _)))
    ·refine z9 ?_ ?_
     ·exact (fun h=>nomatch h)
     ·exact (fun _ hm=>Nat.lt_irrefl _ (Nat.lt_of_lt_of_le (Nat.lt_of_lt_of_le (j.lo _ (Rd.B s_z_Edges.rd j.lo (Zf C) _ (ZbU (tch (ZbN hm) rfl)))) j.n) (Nat.le_add_right _ _)))
    ·refine z9 ?_ ?_
     ·exact (fun h=>nomatch h)
     ·exact (fun _ hm=>Nat.lt_irrefl _ (Nat.lt_of_lt_of_le (j.ltAt 2 rfl _ (tch (ZbN hm) rfl)) (Nat.le_add_right _ _)))
    ·refine z9 ?_ ?_
     ·exact (fun h=>nomatch h)
     ·exact (fun _ hm=>Nat.lt_irrefl _ (Nat.lt_of_lt_of_le (j.ltAt 0 rfl _ (tch (ZbN hm) rfl)) (Nat.le_add_right _ _)))
    ·refine z9 ?_ ?_
     ·exact (fun h=>nomatch h)
     ·exact (fun _ hm=>Nat.lt_irrefl _ (Nat.lt_of_lt_of_le (Nat.lt_of_lt_of_le (j.lo _ (Rd.B s_z_Edges.rd j.lo (Zf C) _ (ZbU (tch (ZbN hm) rfl)))) j.n) (Nat.le_add_right _ _)))
    ·refine z9 ?_ ?_
     ·exact (fun h=>nomatch h)
     ·exact (fun _ hm=>Nat.lt_irrefl _ (Nat.lt_of_lt_of_le (j.ltAt 2 rfl _ (tch (ZbN hm) rfl)) (Nat.le_add_right _ _)))
    ·refine z9 ?_ ?_
     ·exact (fun h=>nomatch h)
     ·exact (fun _ hm=>Nat.lt_irrefl _ (Nat.lt_of_lt_of_le (j.ltAt 0 rfl _ (tch (ZbN hm) rfl)) (Nat.le_add_right _ _)))
    ·refine z9 ?_ ?_
     ·exact (fun h=>nomatch h)
     ·exact (fun _ hm=>Nat.lt_irrefl _ (Nat.lt_of_lt_of_le (Nat.lt_of_lt_of_le (j.lo _ (Rd.B s_z_Edges.rd j.lo (Zf C) _ (ZbU (tch (ZbN hm) rfl)))) j.n) (Nat.le_add_right _ _)))
   refine Zo (ZB (Zi (Zb _ N (Zc (zG (r:=d) (o:=0) M rfl) (Zc (ZU (Y.box 0 rfl) rfl rfl) (Zc (Zae (Y.rd0 s_z_Bends.rd) rfl) (Zc (zF rfl rfl) ?_)))))))
   refine Ze (Zgd hp (fun e_ e fr k=>e=.normal∧fr 1=.n most∧fr 2=.p d 0∧fr 4=.p y 0∧fr 5=.p g 0∧fr 7=.n i1∧fr 8=.p I 0∧Own B h k [zP d [v_z_Boxes,v_z_Edges,v_z_Bends],zP y [.sn,.sn],zP g [A,J],eSl e_bool A s1,eSl z1 J s2,zP I (z1.c e_)]) (fun _ hp=>?_) ?_)
   ·refine zD hp rfl (fun a4 hp=>?_) (fun a4 hp=>?_)
    ·refine Zi (Zb (.n 0) rfl (Ze (Zaa (Zb7 hp (fun | (e_1,k_),fr,k=>fr 1=.n most∧fr 2=.p d 0∧fr 4=.p y 0∧fr 5=.p g 0∧fr 7=.n i1∧fr 8=.p I 0∧fr 9=.n k_∧Own B h k [zP d [v_z_Boxes,v_z_Edges,v_z_Bends],zP y [.sn,.sn],zP g [A,J],eSl e_bool A s1,eSl z1 J s2,zP I (z1.c e_1)]) (fun e_2 e fr k=>e=(.exit 4)∧fr 1=.n most∧fr 2=.p d 0∧fr 4=.p y 0∧fr 5=.p g 0∧fr 7=.n i1∧fr 8=.p I 0∧Own B h k [zP d [v_z_Boxes,v_z_Edges,v_z_Bends],zP y [.sn,.sn],zP g [A,J],eSl e_bool A s1,eSl z1 J s2,zP I (z1.c e_2)]) ⟨aL,M,ak,P,N,rfl,rfl,(Y.pk [0,1,2,3,4,5])⟩ ?_ ?_))))
     ·rintro ⟨e_1,k_⟩ cS cn ⟨aw,R,ax,ay,S,L,ae,H⟩ cL hp
      dsimp only [zQ.s2] at hp
      refine ZB (Zi (Zb _ ae (Zc (zG (r:=d) (o:=0) R rfl) (Zc (ZU (H.box 0 rfl) rfl rfl) (Zb _ S (ckk hp fun U hp=>Zc (ZZ (H.rd0 s_z_Bends.rd) rfl rfl U) ?_))))))
      refine Zc (zN (H.rd0 s_z_Bends.rd) rfl (Zf U) rfl) (ckk hp fun a7 hp=>Zc (Zfp rfl a7) (Zc (Zc6 rfl rfl (by decide)) (Zc (zF rfl rfl) (Ze (zD hp rfl (fun a5 hp=>?_) (fun a5 hp=>?_))))))
      ·refine Zas (ZB (Zaa (Zi (Zc (zG (r:=d) (o:=0) R rfl) (Zc (ZU (H.box 0 rfl) rfl rfl) (Zb _ S ?_))))))
       refine Zc (ZZ (H.rd0 s_z_Bends.rd) rfl rfl U) (Zc (zN (H.rd0 s_z_Bends.rd) rfl (Zf U) rfl) (Zb _ ae (ckk hp fun a8 hp=>Zc (zc rfl rfl a8) (ckk hp fun a9 hp=>Zc (ZfC (v:=.i .u8 (zL .u8 (gi z.Bends i1.toNat) (2 + k_))) rfl rfl (by decide) (Zen a9)) (Zc (Zfj (v:=.i .u8 (ZM .u8 (zL .u8 (gi z.Bends i1.toNat) (2 + k_)) 1)) rfl rfl (by decide) rfl) (Zc (Zbl rfl rfl) ?_))))))
       refine Ze (zD hp rfl (fun a6 hp=>?_) (fun a6 hp=>?_))
       ·refine zI (Zc (zG (r:=I) (o:=0) L rfl) (Zc (ZU (H.box 5 rfl) rfl rfl) (ckk hp fun ba hp=>Zc (ZlH (a:=e_1.Bends) (b:=(⟨#[76]⟩:ByteArray)) rfl rfl ba) (Zc (zG (r:=I) (o:=0) L rfl) (zz (H.stb (cs':=z1.c ({ e_1 with Bends:=e_1.Bends++(⟨#[76]⟩:ByteArray) })) 5 rfl rfl rfl rfl ⟨rfl,Nat.le_of_ble_eq_true rfl,rfl⟩ rfl) ?_)))))
        rintro _ co ⟨rfl,b2,cB,bC⟩
        refine Zg (Zaf (Zo (zI (Zb _ ae (ckk hp fun bb hp=>Zc (zc rfl rfl bb) (Zb (.n (k_ + 1)) rfl (Zg ?_)))))))
        cases hp
        exact ⟨rfl,aw,R,ax,ay,S,L,rfl,(bC.pk [0,1,2,3,4,5])⟩
       ·refine zI (Zc (zG (r:=I) (o:=0) L rfl) (Zc (ZU (H.box 5 rfl) rfl rfl) (ckk hp fun bd hp=>Zc (ZlH (a:=e_1.Bends) (b:=(⟨#[82]⟩:ByteArray)) rfl rfl bd) (Zc (zG (r:=I) (o:=0) L rfl) (zz (H.stb (cs':=z1.c ({ e_1 with Bends:=e_1.Bends++(⟨#[82]⟩:ByteArray) })) 5 rfl rfl rfl rfl ⟨rfl,Nat.le_of_ble_eq_true rfl,rfl⟩ rfl) ?_)))))
        rintro _ cp ⟨rfl,b3,cC,bD⟩
        refine Zg (Zaf (Zo (zI (Zb _ ae (ckk hp fun be hp=>Zc (zc rfl rfl be) (Zb (.n (k_ + 1)) rfl (Zg ?_)))))))
        cases hp
        exact ⟨rfl,aw,R,ax,ay,S,L,rfl,(bD.pk [0,1,2,3,4,5])⟩
      ·refine Zbq (zM ?_)
       cases hp
       exact ⟨nofun,rfl,aw,R,ax,ay,S,L,(H.pk [0,1,2,3,4,5])⟩
     rintro e_2 hp _ cR cm ⟨rfl,bV,bW,bX,bY,bZ,b0,bB⟩
     refine Zav ?_
     cases hp
     exact ⟨rfl,bV,bW,bX,bY,bZ,b0,(bB.pk [0,1,2,3,4,5])⟩
    ·refine Zc2 ?_
     cases hp
     exact ⟨rfl,aL,M,ak,P,N,rfl,(Y.pk [0,1,2,3,4,5])⟩
   rintro e_ hp _ cQ cl ⟨rfl,bQ,bR,bS,av,bT,bU,aa⟩
   refine Zo (zI (Zc (zG (r:=g) (o:=0) av rfl) (Zc (ZU (aa.box 2 rfl) rfl rfl) (Zc (Zbz (aa.box 5 rfl) bU rfl) (zz (aa.bsl (E:=z1) (l:=[e_]) aa.fr (by rw [(zp (v:=.ag (z1.c e_)) rfl ZaN)]; rfl) rfl) ?_)))))
   rintro cW cq ⟨cU,b4,am⟩
   refine ckk hp fun bf hp=>zz (am.app (bytes:=40) 4 am.fr rfl (am.sl 6 rfl) rfl rfl (fun _=>rfl) bf (by decide)) ?_
   rintro a0 cr ⟨b5,an⟩
   refine Zc (zG (r:=g) (o:=0) av rfl) (zz (an.stb (cs':=[A,a0]) 2 rfl rfl rfl (an.sl 4 rfl).cells ⟨rfl,Nat.le_of_ble_eq_true rfl,(all_cons (an.sl 4 rfl).oneV rfl)⟩ rfl) ?_)
   rintro _ ct ⟨rfl,b6,cD,bE⟩
   refine Zg (Zaf (Zo (zI (Zb _ bT (ckk hp fun bg hp=>Zc (zc rfl rfl bg) (Zb (.n (i1 + 1)) rfl (Zg ?_)))))))
   cases hp
   exact ⟨rfl,a0,bQ,bR,bS,av,rfl,(bE.pk [0,1,2,3,4])⟩
  ·refine Zbq (zM ?_)
   cases hp
   exact ⟨nofun,rfl,J,ak,P,(j.pk [1,2,3,4])⟩
 rintro s3 hp _ cO ci ⟨rfl,T,aW,bP,X⟩
 refine Zav (Zo (Zi (Zc (Zbz (X.box 1 rfl) bP rfl) (zz (X.stb (cs':=[A,T]) 0 rfl aW rfl rfl ⟨rfl,Nat.le_of_ble_eq_true rfl,(all_cons (X.sl 2 rfl).oneV (all_cons (X.sl 3 rfl).oneV all_nil))⟩ rfl) ?_))))
 rintro _ cu ⟨rfl,b7,cE,aO⟩
 refine Ze (Zar (z4 (Zgs aW (aO.box 0 rfl) rfl ZK) ?_))
 cases hp
 exact ⟨A,T,rfl,(aO.pk [2,3])⟩

theorem zR.ok {h:Hp} {l:List Za} {v:Int} {d:Int} {w:Int} {o:Int} {v_l:V} (H:Own (Bm h [eSl Zd v_l l]) h h [eSl Zd v_l l]) {r:(List Za) × Int} (hp:zR l v d w o=some r) :
  ∃ u k',Is G 53 [v_l,.n v,.n d,.n w,.n o] h u k'∧∃ ar,V.tu [ar,.n r.2]=u∧Own (Bm h [eSl Zd v_l l]) h k' [eSl Zd ar r.1]:=by
 refine WC.is (ZaP Zdg ?_)
 unfold zR at hp
 let B:Nat→Prop:=(Bm h [eSl Zd v_l l])
 have hO:Own B h h [eSl Zd v_l l]:=H
 refine Zi (Zb (.sn) rfl (Zb (.n 0) rfl (Ze (ZB (Zi ?_)))))
 refine Zb (.n v) rfl (Zc (zF rfl rfl) (Zb (.b (decide (v < 0))) rfl (zK 5 (fun f k=>h=k∧f 20=.b ((decide (v < 0)) || (decide ((l.length:Int)≤v)))∧f 0=v_l∧f 1=.n v∧f 2=.n d∧f 3=.n w∧f 4=.n o) ?_ ?_)))
 ·rcases bc (decide (v < 0)) with c | c
  ·refine Zh rfl c (Zh rfl c (Zh rfl c (Zh rfl c (Zc (Zcb (w:=(decide (v < 0)) || (decide ((l.length:Int)≤v))) rfl c rfl) (Zg ?_)))))
   exact ⟨rfl,rfl,rfl,rfl,rfl,rfl,rfl⟩
  ·refine Zp rfl c (Zb (.n v) rfl (Zp rfl c (Zb v_l rfl (Zp rfl c (Zc (Zae (hO.sl 0 rfl) rfl) (Zp rfl c (Zc (ZcV rfl rfl) (Zc (Zcc rfl c rfl) ?_))))))))
   refine Zg ?_
   exact ⟨rfl,rfl,rfl,rfl,rfl,rfl,rfl⟩
 rintro aN _ ⟨rfl,ay,R,S,T,D,U⟩
 refine Zb _ ay (zK 3 (fun f k=>h=k∧f 24=.b (((decide (v < 0)) || (decide ((l.length:Int)≤v))) || (decide (w < 0)))∧f 0=v_l∧f 1=.n v∧f 2=.n d∧f 3=.n w∧f 4=.n o) ?_ ?_)
 ·rcases bc ((decide (v < 0)) || (decide ((l.length:Int)≤v))) with i | i
  ·refine Zh rfl i (Zh rfl i (Zc (Zcb (w:=((decide (v < 0)) || (decide ((l.length:Int)≤v))) || (decide (w < 0))) rfl i rfl) (Zg ?_)))
   exact ⟨rfl,rfl,R,S,T,D,U⟩
  ·refine Zp rfl i (Zb _ D (Zp rfl i (Zc (zF rfl rfl) (Zc (Zcc rfl i rfl) (Zg ?_)))))
   exact ⟨rfl,rfl,R,S,T,D,U⟩
 rintro aO _ ⟨rfl,az,E,W,X,F,Y⟩
 refine Zb _ az (zK 5 (fun f k=>h=k∧f 30=.b ((((decide (v < 0)) || (decide ((l.length:Int)≤v))) || (decide (w < 0))) || (decide ((l.length:Int)≤w)))∧f 0=v_l∧f 1=.n v∧f 2=.n d∧f 3=.n w∧f 4=.n o) ?_ ?_)
 ·rcases bc (((decide (v < 0)) || (decide ((l.length:Int)≤v))) || (decide (w < 0))) with e | e
  ·refine Zh rfl e (Zh rfl e (Zh rfl e (Zh rfl e (Zc (Zcb (w:=(((decide (v < 0)) || (decide ((l.length:Int)≤v))) || (decide (w < 0))) || (decide ((l.length:Int)≤w))) rfl e rfl) (Zg ?_)))))
   exact ⟨rfl,rfl,E,W,X,F,Y⟩
  ·refine Zp rfl e (Zb _ F (Zp rfl e (Zb _ E (Zp rfl e (Zc (Zae (hO.sl 0 rfl) rfl) (Zp rfl e (Zc (ZcV rfl rfl) (Zc (Zcc rfl e rfl) ?_))))))))
   refine Zg ?_
   exact ⟨rfl,rfl,E,W,X,F,Y⟩
 rintro aP _ ⟨rfl,aA,aa,I,ab,J,ac⟩
 refine Zb _ aA (zK 4 (fun f k=>h=k∧f 35=.b (((((decide (v < 0)) || (decide ((l.length:Int)≤v))) || (decide (w < 0))) || (decide ((l.length:Int)≤w))) || (decide (v=w)))∧f 0=v_l∧f 1=.n v∧f 2=.n d∧f 3=.n w∧f 4=.n o) ?_ ?_)
 ·rcases bc ((((decide (v < 0)) || (decide ((l.length:Int)≤v))) || (decide (w < 0))) || (decide ((l.length:Int)≤w))) with g | g
  ·refine Zh rfl g (Zh rfl g (Zh rfl g (Zc (Zcb (w:=((((decide (v < 0)) || (decide ((l.length:Int)≤v))) || (decide (w < 0))) || (decide ((l.length:Int)≤w))) || (decide (v=w))) rfl g rfl) (Zg ?_))))
   exact ⟨rfl,rfl,aa,I,ab,J,ac⟩
  ·refine Zp rfl g (Zb _ I (Zp rfl g (Zb _ J (Zp rfl g (Zc (Zbl rfl rfl) (Zc (Zcc rfl g rfl) (Zg ?_)))))))
   exact ⟨rfl,rfl,aa,I,ab,J,ac⟩
 rintro aQ _ ⟨rfl,aB,ad,ae,K,af,ag⟩
 refine Zb _ aB (zK 3 (fun f k=>h=k∧f 39=.b ((((((decide (v < 0)) || (decide ((l.length:Int)≤v))) || (decide (w < 0))) || (decide ((l.length:Int)≤w))) || (decide (v=w))) || (decide (d < 0)))∧f 0=v_l∧f 1=.n v∧f 2=.n d∧f 3=.n w∧f 4=.n o) ?_ ?_)
 ·rcases bc (((((decide (v < 0)) || (decide ((l.length:Int)≤v))) || (decide (w < 0))) || (decide ((l.length:Int)≤w))) || (decide (v=w))) with j | j
  ·refine Zh rfl j (Zh rfl j (Zc (Zcb (w:=(((((decide (v < 0)) || (decide ((l.length:Int)≤v))) || (decide (w < 0))) || (decide ((l.length:Int)≤w))) || (decide (v=w))) || (decide (d < 0))) rfl j rfl) (Zg ?_)))
   exact ⟨rfl,rfl,ad,ae,K,af,ag⟩
  ·refine Zp rfl j (Zb _ K (Zp rfl j (Zc (zF rfl rfl) (Zc (Zcc rfl j rfl) (Zg ?_)))))
   exact ⟨rfl,rfl,ad,ae,K,af,ag⟩
 rintro aR _ ⟨rfl,aC,ah,ai,L,aj,ak⟩
 refine Zb _ aC (zK 3 (fun f k=>h=k∧f 43=.b (((((((decide (v < 0)) || (decide ((l.length:Int)≤v))) || (decide (w < 0))) || (decide ((l.length:Int)≤w))) || (decide (v=w))) || (decide (d < 0))) || (decide (3 < d)))∧f 0=v_l∧f 1=.n v∧f 2=.n d∧f 3=.n w∧f 4=.n o) ?_ ?_)
 ·rcases bc ((((((decide (v < 0)) || (decide ((l.length:Int)≤v))) || (decide (w < 0))) || (decide ((l.length:Int)≤w))) || (decide (v=w))) || (decide (d < 0))) with m | m
  ·refine Zh rfl m (Zh rfl m (Zc (Zcb (w:=((((((decide (v < 0)) || (decide ((l.length:Int)≤v))) || (decide (w < 0))) || (decide ((l.length:Int)≤w))) || (decide (v=w))) || (decide (d < 0))) || (decide (3 < d))) rfl m rfl) (Zg ?_)))
   exact ⟨rfl,rfl,ah,ai,L,aj,ak⟩
  ·refine Zp rfl m (Zb _ L (Zp rfl m (Zc (Zd2 rfl rfl) (Zc (Zcc rfl m rfl) (Zg ?_)))))
   exact ⟨rfl,rfl,ah,ai,L,aj,ak⟩
 rintro aS _ ⟨rfl,aD,al,am,an,ao,M⟩
 refine Zb _ aD (zK 3 (fun f k=>h=k∧f 47=.b ((((((((decide (v < 0)) || (decide ((l.length:Int)≤v))) || (decide (w < 0))) || (decide ((l.length:Int)≤w))) || (decide (v=w))) || (decide (d < 0))) || (decide (3 < d))) || (decide (o < (-2))))∧f 0=v_l∧f 1=.n v∧f 2=.n d∧f 3=.n w∧f 4=.n o) ?_ ?_)
 ·rcases bc (((((((decide (v < 0)) || (decide ((l.length:Int)≤v))) || (decide (w < 0))) || (decide ((l.length:Int)≤w))) || (decide (v=w))) || (decide (d < 0))) || (decide (3 < d))) with p | p
  ·refine Zh rfl p (Zh rfl p (Zc (Zcb (w:=(((((((decide (v < 0)) || (decide ((l.length:Int)≤v))) || (decide (w < 0))) || (decide ((l.length:Int)≤w))) || (decide (v=w))) || (decide (d < 0))) || (decide (3 < d))) || (decide (o < (-2)))) rfl p rfl) (Zg ?_)))
   exact ⟨rfl,rfl,al,am,an,ao,M⟩
  ·refine Zp rfl p (Zb _ M (Zp rfl p (Zc (zF rfl rfl) (Zc (Zcc rfl p rfl) (Zg ?_)))))
   exact ⟨rfl,rfl,al,am,an,ao,M⟩
 rintro aT _ ⟨rfl,aE,q,N,A,O,ap⟩
 refine Ze (zD hp aE (fun av hp=>?_) (fun av hp=>?_))
 ·refine Zi (Zb _ q (Zb v_l rfl (Zb (.n 2) rfl (Ze (Zar (zE ?_))))))
  refine z4 (zX rfl (zX rfl ZK)) ?_
  cases hp
  exact ⟨v_l,rfl,(hO.pk [0])⟩
 ·refine Zas (ZB (Zi (Zb _ q (Zb _ N (Zb _ A (ckk hp fun s hp=>?_))))))
  refine Zc (ZZ (hO.sl 0 rfl) rfl rfl s) (Zc (Zbo (hO.sl 0 rfl) (Zf s) rfl rfl) (ckk hp fun P hp=>Zc (ZaZ (hO.sl 0 rfl) (Zf s) rfl rfl P rfl) (Zc (zN (hO.sl 0 rfl) rfl (Zf s) (zx P)) (Zc (Zc5 rfl rfl) (Zb (.b (!(decide (((gi l v.toNat).Next).get d=(-1))))) rfl ?_)))))
  obtain ⟨t,aM,hp⟩:=ZaH hp
  refine zK 11 (fun f k=>h=k∧f 68=.b t∧f 0=v_l∧f 1=.n v∧f 2=.n d∧f 3=.n w∧f 4=.n o) ?_ ?_
  ·clear hp; rcases ZaR aM with ⟨a,hp⟩ | ⟨a,hp⟩
   ·refine Zh rfl a (Zh rfl a (Zh rfl a (Zh rfl a (Zh rfl a (Zh rfl a (Zh rfl a (Zh rfl a (Zh rfl a ?_))))))))
    refine Zh rfl a (Zc (ZaF (v:=.b t) rfl a (Eq.trans (b:=V.b true) rfl (congrArg V.b (Option.some.inj hp)))) (Zg ?_))
    exact ⟨rfl,rfl,q,N,A,O,ap⟩
   ·refine Zp rfl a (Zb _ q (Zp rfl a (Zb _ O (Zp rfl a (Zb _ A (Zp rfl a (ckk hp fun aw hp=>Zc (zc rfl rfl aw) ?_)))))))
    refine Zp rfl a (Zc (Zc6 rfl rfl (by decide)) (Zp rfl a (ckk hp fun y hp=>Zc (ZZ (hO.sl 0 rfl) rfl rfl y) (Zp rfl a (Zc (Zbo (hO.sl 0 rfl) (Zf y) rfl rfl) (Zp rfl a (ckk hp fun Q hp=>?_)))))))
    refine Zc (ZaZ (hO.sl 0 rfl) (Zf y) rfl rfl Q rfl) (Zp rfl a (Zc (zN (hO.sl 0 rfl) rfl (Zf y) (zx Q)) (Zp rfl a (Zc (Zc5 rfl rfl) (Zc (Za5 (v:=.b t) rfl a (Eq.trans (b:=V.b (!(decide (((gi l w.toNat).Next).get ((d + 2).tmod 4)=(-1))))) rfl (congrArg V.b (Option.some.inj hp)))) (Zg ?_))))))
    exact ⟨rfl,rfl,q,N,A,O,ap⟩
  rintro aU _ ⟨rfl,aJ,aq,aF,aG,aH,aI⟩
  refine Ze (zD hp aJ (fun au hp=>?_) (fun au hp=>?_))
  ·refine Zi (Zb _ aq (Zb v_l rfl (Zb (.n 9) rfl (Ze (Zar (zE ?_))))))
   refine z4 (zX rfl (zX rfl ZK)) ?_
   cases hp
   exact ⟨v_l,rfl,(hO.pk [0])⟩
  ·refine Zas (Zi (Zb _ aq (Zb _ aF (Zb _ aG (Zb _ aH (Zb _ aI ?_))))))
   obtain ⟨x,⟨aW,aV,ax,C,rfl,aL⟩,hp⟩:=bdk hp fun _=>ZaB.ok (h:=h)  (hO.sl 0 rfl)
   refine ZaI rfl rfl ax ?_
   have aK:=hO.call aL rfl
   refine Zb C rfl (Ze (Zi (Zb C rfl (Zb C rfl (Zb (.n 0) rfl (Zg ?_))))))
   refine Zo (Zar (z4 (zX rfl (zX rfl ZK)) ?_))
   cases hp
   exact ⟨C,rfl,(aK.pk [1])⟩

end Mu
