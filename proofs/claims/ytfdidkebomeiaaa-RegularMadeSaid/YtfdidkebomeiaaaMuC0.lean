/- The code comes to what was worked out. -/
import Derived.Test.YtfdidkebomeiaaaMuDf
import Derived.Test.YtfdidkebomeiaaaMuPa
set_option linter.unusedVariables false
set_option linter.unnecessarySimpa false
set_option linter.unusedSimpArgs false
set_option maxHeartbeats 2000000
set_option maxRecDepth 10000
namespace Mu
open Go (IntKind BinOp UnOp)
theorem zI {x:Za} {i:Int} (h:0≤i∧i < 4):(Zd.c x)[0 + i.toNat * 1]?=some (.n ((x.Next).get i)):=by
 rcases (show i=0∨i=1∨i=2∨i=3 by omega) with rfl | rfl | rfl | rfl <;> rfl
theorem Zcc {x:Za} {i:Int} {w:Int} (h:0≤i∧i < 4):over (Zd.c x) (0 + i.toNat * 1) [.n w]=Zd.c ({ x with Next:=(x.Next).set i w }):=by
 rcases (show i=0∨i=1∨i=2∨i=3 by omega) with rfl | rfl | rfl | rfl <;> rfl
theorem Zcm {x:Za} {i:Int} (h:0≤i∧i < 4):(Zd.c x)[4 + i.toNat * 1]?=some (.n ((x.Owner).get i)):=by
 rcases (show i=0∨i=1∨i=2∨i=3 by omega) with rfl | rfl | rfl | rfl <;> rfl
theorem Zcn {x:Za} {i:Int} {w:Int} (h:0≤i∧i < 4):over (Zd.c x) (4 + i.toNat * 1) [.n w]=Zd.c ({ x with Owner:=(x.Owner).set i w }):=by
 rcases (show i=0∨i=1∨i=2∨i=3 by omega) with rfl | rfl | rfl | rfl <;> rfl
theorem Zpf {x:A2 Int} {i:Int} (h:0≤i∧i < 2):(Zbd.c x)[0 + i.toNat * 1]?=some (.n ((x).get i)):=by
 rcases (show i=0∨i=1 by omega) with rfl | rfl <;> rfl
theorem Zpe {x:A2 Int} {i:Int} (h:0≤i∧i < 2):ZcU false (Zbd.c x) (i.toNat * 1) 1=some (.n ((x).get i)):=by
 rcases (show i=0∨i=1 by omega) with rfl | rfl <;> rfl
theorem ZiG {x:A2 Int} {i:Int} {w:Int} (h:0≤i∧i < 2):over (Zbd.c x) (0 + i.toNat * 1) [.n w]=Zbd.c ((x).set i w):=by
 rcases (show i=0∨i=1 by omega) with rfl | rfl <;> rfl
theorem Zpg {x:A4 Int} {i:Int} (h:0≤i∧i < 4):(Zdd.c x)[0 + i.toNat * 1]?=some (.n ((x).get i)):=by
 rcases (show i=0∨i=1∨i=2∨i=3 by omega) with rfl | rfl | rfl | rfl <;> rfl
theorem Zi6 {x:A4 Int} {i:Int} (h:0≤i∧i < 4):ZcU false (Zdd.c x) (i.toNat * 1) 1=some (.n ((x).get i)):=by
 rcases (show i=0∨i=1∨i=2∨i=3 by omega) with rfl | rfl | rfl | rfl <;> rfl
theorem Zph {x:A4 Int} {i:Int} {w:Int} (h:0≤i∧i < 4):over (Zdd.c x) (0 + i.toNat * 1) [.n w]=Zdd.c ((x).set i w):=by
 rcases (show i=0∨i=1∨i=2∨i=3 by omega) with rfl | rfl | rfl | rfl <;> rfl
theorem ZjW (cs:List Go.Value) (h:OkL [some .u8] cs):∃ x:Int,Zhz.c x=cs.map toV∧Zgk x:=by
 obtain ⟨n0,cs0,rfl,w0,h0⟩:=h.inv_i
 obtain rfl:=h0.inv_n
 exact ⟨n0,rfl,w0⟩
theorem Zos (cs:List Go.Value) (h:OkL [some .i8] cs):∃ x:Int,ZkV.c x=cs.map toV∧Zks x:=by
 obtain ⟨n0,cs0,rfl,w0,h0⟩:=h.inv_i
 obtain rfl:=h0.inv_n
 exact ⟨n0,rfl,w0⟩
theorem Zj4 (cs:List Go.Value) (h:OkL [none] cs):∃ x:Bool,e_bool.c x=cs.map toV∧Zg3 x:=by
 obtain ⟨n0,cs0,rfl,h0⟩:=h.inv_b
 obtain rfl:=h0.inv_n
 exact ⟨n0,rfl,trivial⟩
theorem ZkU (cs:List Go.Value) (h:OkL [some .u8,some .u8,some .u8] cs):∃ x:A3 Int,Zge.c x=cs.map toV∧Zg2 x:=by
 obtain ⟨n0,cs0,rfl,w0,h0⟩:=h.inv_i
 obtain ⟨n1,cs1,rfl,w1,h1⟩:=h0.inv_i
 obtain ⟨n2,cs2,rfl,w2,h2⟩:=h1.inv_i
 obtain rfl:=h2.inv_n
 exact ⟨⟨n0,n1,n2⟩,rfl,⟨w0,w1,w2⟩⟩
theorem zh.ok {h:Hp} {n:Int}   {r:(List Za)} (hp:zh n=some r) :
  ∃ u k',Is G 46 [.n n] h u k'∧∃ t,t=u∧Own (fun r=>r < h.n) h k' [eSl Zd t r]:=by
 refine WC.is (ZaP Ze2 ?_)
 unfold zh at hp
 let B:Nat→Prop:=(fun r=>r < h.n)
 have hO:Own B h h []:=Own.start0 h
 refine Zk (Zb (.sn) rfl (Ze (Zk (Zb (.n n) rfl (ckk hp fun A hp=>?_)))))
 refine zw (hO.mks (E:=Zd) (y:=(⟨⟨0,0,0,0⟩,⟨0,0,0,0⟩⟩:Za)) (bytes:=64) (z:=n) hO.fr rfl rfl rfl A (by decide)) ?_
 rintro a Q ⟨ae,O,F⟩
 refine Zb a rfl (Ze (ZB (Zk (Zb (.n 0) rfl (Ze ?_)))))
 refine zX (Zb7 hp (fun | (l,v),fr,k=>fr 0=.n n∧fr 3=a∧fr 4=.n v∧Own B h k [eSl Zd a l]) (fun l1 e fr k=>e=(.exit 0)∧fr 3=a∧Own B h k [eSl Zd a l1]) ⟨rfl,rfl,rfl,(F.pk [0])⟩ ?_ ?_)
 ·rintro ⟨l,v⟩ ab S ⟨o,p,q,m⟩ X hp
  dsimp only [zh.s0] at hp
  refine ZB (Zk (Zb _ q (Zb _ o (Zc (zH rfl rfl) (Ze (zC hp rfl (fun w hp=>?_) (fun w hp=>?_)))))))
  ·refine Zat (ZB (zX (Zk (Zb (.n 0) rfl (Ze ?_)))))
   refine zX (Zb7 hp (fun | (l2,d),fr,k=>fr 0=.n n∧fr 3=a∧fr 4=.n v∧fr 5=.n d∧Own B h k [eSl Zd a l2]) (fun l3 e fr k=>e=(.exit 2)∧fr 0=.n n∧fr 3=a∧fr 4=.n v∧Own B h k [eSl Zd a l3]) ⟨o,p,q,rfl,(m.pk [0])⟩ ?_ ?_)
   ·rintro ⟨l2,d⟩ ad U ⟨s,g,i,j,b⟩ Y hp
    dsimp only [zh.s1] at hp
    refine ZB (Zk (Zb _ j (Zc (zH rfl rfl) (Ze (zC hp rfl (fun x hp=>?_) (fun x hp=>?_))))))
    ·refine Zat (ZB (zX (zD (Zb _ g (Zb _ i (Zb _ j (ckk hp fun c hp=>?_)))))))
     refine Zc (zi (b.sl 0 rfl) rfl rfl c) (Zc (Zbt (b.sl 0 rfl) (Zg c) rfl rfl) (ckk hp fun f hp=>Zc (Zbj (b.sl 0 rfl) (Zg c) rfl rfl f rfl) (zw (b.ste (y:=({ gi l2 v.toNat with Next:=((gi l2 v.toNat).Next).set d (-1) })) 0 rfl rfl (Zg c) rfl rfl ⟨rfl,(by have:=f; exact (show 0 + d.toNat * 1 + 1≤8 by omega)),rfl⟩ (Zcc f)) ?_)))
     rintro _ V ⟨rfl,P,W,J⟩
     refine Zh (Zaa (Zo (zD (Zb _ j (ckk hp fun C hp=>Zc (zf rfl rfl C) (Zb (.n (d + 1)) rfl (Zh ?_)))))))
     cases hp
     exact ⟨rfl,s,g,i,rfl,(J.pk [0])⟩
    ·refine Zbo (zK ?_)
     cases hp
     exact ⟨nofun,rfl,s,g,i,(b.pk [0])⟩
   rintro l3 hp _ ac T ⟨rfl,L,M,N,I⟩
   refine Zaw (Zaa (Zo (zD (Zb _ N (ckk hp fun D hp=>Zc (zf rfl rfl D) (Zb (.n (v + 1)) rfl (Zh ?_)))))))
   cases hp
   exact ⟨rfl,L,M,rfl,(I.pk [0])⟩
  ·refine Zbo (zK ?_)
   cases hp
   exact ⟨nofun,rfl,p,(m.pk [0])⟩
 rintro l1 hp _ aa R ⟨rfl,K,H⟩
 refine Zaw (Zo (Zk (Zb _ K (Zb a rfl (Ze (Zav ?_))))))
 refine z8 (Zag rfl ZQ) ?_
 cases hp
 exact ⟨a,rfl,(H.pk [0])⟩

theorem zl.ok {h:Hp} {at_:List ZD} {i:Int} {d:Int} {v_at_:V} (s_at_:Sl ZH h v_at_ at_) {r:Int} (hp:zl at_ i d=some r) :
  ∃ u k',Is G 63 [v_at_,.n i,.n d] h u k'∧V.n r=u∧Own (fun r=>r < h.n) h k' []:=by
 refine WC.is (ZaP Zd1 ?_)
 unfold zl at hp
 let B:Nat→Prop:=(fun r=>r < h.n)
 have hO:Own B h h []:=Own.start0 h
 refine Zk (Zb (.n 0) rfl (Ze (Zk (Zb (.n (-1)) rfl (Zh ?_)))))
 refine Zo (ZB (Zk (Zb (.n 0) rfl (Ze (zX (Zb7 hp (fun | (best,k_),fr,k=>fr 0=v_at_∧fr 1=.n i∧fr 2=.n d∧fr 7=.n best∧fr 8=.n k_∧Own B h k []) (fun best1 e fr k=>e=(.exit 0)∧fr 7=.n best1∧Own B h k []) ⟨rfl,rfl,rfl,rfl,rfl,(hO.pk [])⟩ ?_ ?_))))))
 ·rintro ⟨best,k_⟩ bt I ⟨C,an,ao,ap,K,am⟩ br hp
  dsimp only [zl.s0] at hp
  refine ZB (Zk (Zb _ K (Zb _ C (Zc (Zak (am.rd0 s_at_.rd) rfl) (Zc (zH rfl rfl) (Ze (zC hp rfl (fun aG hp=>?_) (fun aG hp=>?_))))))))
  ·refine Zat (ZB (zX (ZB (ZB (Zhw ?_)))))
   have o:=am.bump 45
   refine ZaV _ ao (zt rfl (Zb0 rfl rfl) (ZaV (.b (decide (d=0))) rfl ?_))
   obtain ⟨t,a9,hp⟩:=ZaZ hp
   refine ZcN 12 (fun f k=>(I.bump 45)=k∧f 29=.b t∧f 0=v_at_∧f 1=.n i∧f 2=.n d∧f 7=.n best∧f 8=.n k_) ?_ ?_
   ·clear hp; rcases Zbn a9 with ⟨c,hp⟩ | ⟨c,hp⟩
    ·refine ZV rfl c (ZaV _ C (ZV rfl c (ZaV _ K (ZV rfl c (ckk hp fun M hp=>zt rfl (zi (o.rd0 s_at_.rd) rfl rfl M) (ZV rfl c (zt rfl (Zbt (o.rd0 s_at_.rd) (Zg M) rfl rfl) ?_)))))))
     refine ZV rfl c (zt rfl (zS (o.rd0 s_at_.rd) rfl (Zg M) rfl) (ZV rfl c (ZaV _ C (ZV rfl c (ZaV _ an (ZV rfl c (ckk hp fun Q hp=>zt rfl (zi (o.rd0 s_at_.rd) rfl rfl Q) ?_)))))))
     refine ZV rfl c (zt rfl (Zbt (o.rd0 s_at_.rd) (Zg Q) rfl rfl) (ZV rfl c (zt rfl (zS (o.rd0 s_at_.rd) rfl (Zg Q) rfl) (ZV rfl c (zt rfl (Zb0 rfl rfl) (zt rfl (ZaS (v:=.b t) rfl c (Eq.trans (b:=V.b (decide ((gi at_ k_.toNat).Y=(gi at_ i.toNat).Y))) rfl (congrArg V.b (Option.some.inj hp)))) (Zba ?_)))))))
     exact ⟨rfl,rfl,C,an,ao,ap,K⟩
    ·refine ZC rfl c (ZC rfl c (ZC rfl c (ZC rfl c (ZC rfl c (ZC rfl c (ZC rfl c (ZC rfl c (ZC rfl c ?_))))))))
     refine ZC rfl c (ZC rfl c (zt rfl (ZaL (v:=.b t) rfl c (Eq.trans (b:=V.b false) rfl (congrArg V.b (Option.some.inj hp)))) (Zba ?_)))
     exact ⟨rfl,rfl,C,an,ao,ap,K⟩
   rintro bi _ ⟨rfl,aL,D,ac,av,aw,ad⟩
   refine ZaV _ aL ?_
   obtain ⟨t1,ba,hp⟩:=ZaZ hp
   refine ZcN 12 (fun f k=>(I.bump 45)=k∧f 42=.b t1∧f 0=v_at_∧f 1=.n i∧f 2=.n d∧f 7=.n best∧f 8=.n k_) ?_ ?_
   ·clear hp; rcases Zbn ba with ⟨g,hp⟩ | ⟨g,hp⟩
    ·refine ZV rfl g (ZaV _ D (ZV rfl g (ZaV _ ad (ZV rfl g (ckk hp fun R hp=>zt rfl (zi (o.rd0 s_at_.rd) rfl rfl R) (ZV rfl g (zt rfl (Zbt (o.rd0 s_at_.rd) (Zg R) rfl rfl) ?_)))))))
     refine ZV rfl g (zt rfl (zS (o.rd0 s_at_.rd) rfl (Zg R) rfl) (ZV rfl g (ZaV _ D (ZV rfl g (ZaV _ ac (ZV rfl g (ckk hp fun S hp=>zt rfl (zi (o.rd0 s_at_.rd) rfl rfl S) ?_)))))))
     refine ZV rfl g (zt rfl (Zbt (o.rd0 s_at_.rd) (Zg S) rfl rfl) (ZV rfl g (zt rfl (zS (o.rd0 s_at_.rd) rfl (Zg S) rfl) (ZV rfl g (zt rfl (ZdC rfl rfl) (zt rfl (ZaS (v:=.b t1) rfl g (Eq.trans (b:=V.b (decide (((gi at_ i.toNat).X) < ((gi at_ k_.toNat).X)))) rfl (congrArg V.b (Option.some.inj hp)))) (Zba ?_)))))))
     exact ⟨rfl,rfl,D,ac,av,aw,ad⟩
    ·refine ZC rfl g (ZC rfl g (ZC rfl g (ZC rfl g (ZC rfl g (ZC rfl g (ZC rfl g (ZC rfl g (ZC rfl g ?_))))))))
     refine ZC rfl g (ZC rfl g (zt rfl (ZaL (v:=.b t1) rfl g (Eq.trans (b:=V.b false) rfl (congrArg V.b (Option.some.inj hp)))) (Zba ?_)))
     exact ⟨rfl,rfl,D,ac,av,aw,ad⟩
   rintro bj _ ⟨rfl,aM,w,ae,af,x,E⟩
   refine ZaV _ aM ?_
   obtain ⟨t2,bb,hp⟩:=ZaZ hp
   refine ZcN 16 (fun f k=>(I.bump 45)=k∧f 59=.b t2∧f 0=v_at_∧f 1=.n i∧f 2=.n d∧f 7=.n best∧f 8=.n k_) ?_ ?_
   ·clear hp; rcases Zbn bb with ⟨q,hp⟩ | ⟨q,hp⟩
    ·refine ZV rfl q (ZaV _ x (ZV rfl q (zt rfl (zH rfl rfl) (ZV rfl q (ZaV (.b (decide (best < 0))) rfl ?_)))))
     obtain ⟨t3,bc,hp⟩:=ZaZ hp
     refine ZcN 12 (fun f k=>(I.bump 45)=k∧f 58=.b t3∧f 0=v_at_∧f 1=.n i∧f 2=.n d∧f 43=.b t1∧f 7=.n best∧f 8=.n k_) ?_ ?_
     ·clear hp; rcases Zbn bc with ⟨j,hp⟩ | ⟨j,hp⟩
      ·refine ZC rfl j (ZC rfl j (ZC rfl j (ZC rfl j (ZC rfl j (ZC rfl j (ZC rfl j (ZC rfl j (ZC rfl j ?_))))))))
       refine ZC rfl j (ZC rfl j (ZV rfl q (zt rfl (ZaS (v:=.b t3) rfl j (Eq.trans (b:=V.b true) rfl (congrArg V.b (Option.some.inj hp)))) (Zba ?_))))
       exact ⟨rfl,rfl,w,ae,af,rfl,x,E⟩
      ·refine ZV rfl j (ZaV _ w (ZV rfl j (ZaV _ E (ZV rfl j (ckk hp fun T hp=>zt rfl (zi (o.rd0 s_at_.rd) rfl rfl T) (ZV rfl j (zt rfl (Zbt (o.rd0 s_at_.rd) (Zg T) rfl rfl) ?_)))))))
       refine ZV rfl j (zt rfl (zS (o.rd0 s_at_.rd) rfl (Zg T) rfl) (ZV rfl j (ZaV _ w (ZV rfl j (ZaV _ x (ZV rfl j (ckk hp fun U hp=>zt rfl (zi (o.rd0 s_at_.rd) rfl rfl U) ?_)))))))
       refine ZV rfl j (zt rfl (Zbt (o.rd0 s_at_.rd) (Zg U) rfl rfl) (ZV rfl j (zt rfl (zS (o.rd0 s_at_.rd) rfl (Zg U) rfl) (ZV rfl j (zt rfl (zH rfl rfl) (ZV rfl q (zt rfl (ZaL (v:=.b t3) rfl j (Eq.trans (b:=V.b (decide (((gi at_ k_.toNat).X) < ((gi at_ best.toNat).X)))) rfl (congrArg V.b (Option.some.inj hp)))) (Zba ?_))))))))
       exact ⟨rfl,rfl,w,ae,af,rfl,x,E⟩
     rintro bk _ ⟨rfl,aR,aN,aO,aP,aQ,aS,aT⟩
     refine zt rfl (ZaS (v:=.b t2) aQ q (Eq.trans (b:=V.b t3) aR (congrArg V.b (Option.some.inj hp)))) (Zba ?_)
     exact ⟨rfl,rfl,aN,aO,aP,aS,aT⟩
    ·refine ZC rfl q (ZC rfl q (ZC rfl q (Zdq rfl (Zdq rfl (Zdq rfl (Zdq rfl (Zdq rfl (Zdq rfl ?_))))))))
     refine Zdq rfl (Zdq rfl (Zdq rfl (Zdq rfl (Zdq rfl (ZC rfl q (zt rfl (ZaL (v:=.b t2) rfl q (Eq.trans (b:=V.b false) rfl (congrArg V.b (Option.some.inj hp)))) (Zba ?_)))))))
     exact ⟨rfl,rfl,w,ae,af,x,E⟩
   rintro bl _ ⟨rfl,aU,ax,ay,az,aV,ag⟩
   refine Zba (Zo (Zg4 hp (fun best2 e fr k=>e=.normal∧fr 0=v_at_∧fr 1=.n i∧fr 2=.n d∧fr 7=.n best2∧fr 8=.n k_∧Own B h k []) (fun _ hp=>?_) ?_))
   ·refine zC hp aU (fun aI hp=>?_) (fun aI hp=>?_)
    ·refine zD (Zb _ ag (Zb (.n k_) rfl (Zh ?_)))
     cases hp
     exact ⟨rfl,ax,ay,az,rfl,ag,(o.pk [])⟩
    ·refine Zc1 ?_
     cases hp
     exact ⟨rfl,ax,ay,az,aV,ag,(o.pk [])⟩
   rintro best2 hp _ bu J ⟨rfl,L,aq,ar,aF,au,a8⟩
   refine Zo (ZB (Zhw ?_))
   have p:=a8.bump 45
   refine ZaV _ ar (zt rfl (Zb0 rfl rfl) (ZaV (.b (decide (d=1))) rfl ?_))
   obtain ⟨t4,bd,hp⟩:=ZaZ hp
   refine ZcN 12 (fun f k=>(J.bump 45)=k∧f 75=.b t4∧f 0=v_at_∧f 1=.n i∧f 2=.n d∧f 7=.n best2∧f 8=.n k_) ?_ ?_
   ·clear hp; rcases Zbn bd with ⟨l,hp⟩ | ⟨l,hp⟩
    ·refine ZV rfl l (ZaV _ L (ZV rfl l (ZaV _ au (ZV rfl l (ckk hp fun W hp=>zt rfl (zi (p.rd0 s_at_.rd) rfl rfl W) (ZV rfl l (zt rfl (Zbt (p.rd0 s_at_.rd) (Zg W) rfl rfl) ?_)))))))
     refine ZV rfl l (zt rfl (zS (p.rd0 s_at_.rd) rfl (Zg W) rfl) (ZV rfl l (ZaV _ L (ZV rfl l (ZaV _ aq (ZV rfl l (ckk hp fun aa hp=>zt rfl (zi (p.rd0 s_at_.rd) rfl rfl aa) ?_)))))))
     refine ZV rfl l (zt rfl (Zbt (p.rd0 s_at_.rd) (Zg aa) rfl rfl) (ZV rfl l (zt rfl (zS (p.rd0 s_at_.rd) rfl (Zg aa) rfl) (ZV rfl l (zt rfl (Zb0 rfl rfl) (zt rfl (ZaS (v:=.b t4) rfl l (Eq.trans (b:=V.b (decide ((gi at_ k_.toNat).X=(gi at_ i.toNat).X))) rfl (congrArg V.b (Option.some.inj hp)))) (Zba ?_)))))))
     exact ⟨rfl,rfl,L,aq,ar,aF,au⟩
    ·refine ZC rfl l (ZC rfl l (ZC rfl l (ZC rfl l (ZC rfl l (ZC rfl l (ZC rfl l (ZC rfl l (ZC rfl l ?_))))))))
     refine ZC rfl l (ZC rfl l (zt rfl (ZaL (v:=.b t4) rfl l (Eq.trans (b:=V.b false) rfl (congrArg V.b (Option.some.inj hp)))) (Zba ?_)))
     exact ⟨rfl,rfl,L,aq,ar,aF,au⟩
   rintro bm _ ⟨rfl,aW,F,ah,aA,aB,ai⟩
   refine ZaV _ aW ?_
   obtain ⟨t5,be,hp⟩:=ZaZ hp
   refine ZcN 12 (fun f k=>(J.bump 45)=k∧f 88=.b t5∧f 0=v_at_∧f 1=.n i∧f 2=.n d∧f 7=.n best2∧f 8=.n k_) ?_ ?_
   ·clear hp; rcases Zbn be with ⟨m,hp⟩ | ⟨m,hp⟩
    ·refine ZV rfl m (ZaV _ F (ZV rfl m (ZaV _ ai (ZV rfl m (ckk hp fun ab hp=>zt rfl (zi (p.rd0 s_at_.rd) rfl rfl ab) (ZV rfl m (zt rfl (Zbt (p.rd0 s_at_.rd) (Zg ab) rfl rfl) ?_)))))))
     refine ZV rfl m (zt rfl (zS (p.rd0 s_at_.rd) rfl (Zg ab) rfl) (ZV rfl m (ZaV _ F (ZV rfl m (ZaV _ ah (ZV rfl m (ckk hp fun N hp=>zt rfl (zi (p.rd0 s_at_.rd) rfl rfl N) ?_)))))))
     refine ZV rfl m (zt rfl (Zbt (p.rd0 s_at_.rd) (Zg N) rfl rfl) (ZV rfl m (zt rfl (zS (p.rd0 s_at_.rd) rfl (Zg N) rfl) (ZV rfl m (zt rfl (ZdC rfl rfl) (zt rfl (ZaS (v:=.b t5) rfl m (Eq.trans (b:=V.b (decide (((gi at_ i.toNat).Y) < ((gi at_ k_.toNat).Y)))) rfl (congrArg V.b (Option.some.inj hp)))) (Zba ?_)))))))
     exact ⟨rfl,rfl,F,ah,aA,aB,ai⟩
    ·refine ZC rfl m (ZC rfl m (ZC rfl m (ZC rfl m (ZC rfl m (ZC rfl m (ZC rfl m (ZC rfl m (ZC rfl m ?_))))))))
     refine ZC rfl m (ZC rfl m (zt rfl (ZaL (v:=.b t5) rfl m (Eq.trans (b:=V.b false) rfl (congrArg V.b (Option.some.inj hp)))) (Zba ?_)))
     exact ⟨rfl,rfl,F,ah,aA,aB,ai⟩
   rintro bn _ ⟨rfl,aX,y,aj,ak,A,H⟩
   refine ZaV _ aX ?_
   obtain ⟨t6,bf,hp⟩:=ZaZ hp
   refine ZcN 16 (fun f k=>(J.bump 45)=k∧f 105=.b t6∧f 0=v_at_∧f 1=.n i∧f 2=.n d∧f 7=.n best2∧f 8=.n k_) ?_ ?_
   ·clear hp; rcases Zbn bf with ⟨s,hp⟩ | ⟨s,hp⟩
    ·refine ZV rfl s (ZaV _ A (ZV rfl s (zt rfl (zH rfl rfl) (ZV rfl s (ZaV (.b (decide (best2 < 0))) rfl ?_)))))
     obtain ⟨t7,bg,hp⟩:=ZaZ hp
     refine ZcN 12 (fun f k=>(J.bump 45)=k∧f 104=.b t7∧f 0=v_at_∧f 1=.n i∧f 2=.n d∧f 7=.n best2∧f 8=.n k_∧f 89=.b t5) ?_ ?_
     ·clear hp; rcases Zbn bg with ⟨a,hp⟩ | ⟨a,hp⟩
      ·refine ZC rfl a (ZC rfl a (ZC rfl a (ZC rfl a (ZC rfl a (ZC rfl a (ZC rfl a (ZC rfl a (ZC rfl a ?_))))))))
       refine ZC rfl a (ZC rfl a (ZV rfl s (zt rfl (ZaS (v:=.b t7) rfl a (Eq.trans (b:=V.b true) rfl (congrArg V.b (Option.some.inj hp)))) (Zba ?_))))
       exact ⟨rfl,rfl,y,aj,ak,A,H,rfl⟩
      ·refine ZV rfl a (ZaV _ y (ZV rfl a (ZaV _ H (ZV rfl a (ckk hp fun O hp=>zt rfl (zi (p.rd0 s_at_.rd) rfl rfl O) (ZV rfl a (zt rfl (Zbt (p.rd0 s_at_.rd) (Zg O) rfl rfl) ?_)))))))
       refine ZV rfl a (zt rfl (zS (p.rd0 s_at_.rd) rfl (Zg O) rfl) (ZV rfl a (ZaV _ y (ZV rfl a (ZaV _ A (ZV rfl a (ckk hp fun P hp=>zt rfl (zi (p.rd0 s_at_.rd) rfl rfl P) ?_)))))))
       refine ZV rfl a (zt rfl (Zbt (p.rd0 s_at_.rd) (Zg P) rfl rfl) (ZV rfl a (zt rfl (zS (p.rd0 s_at_.rd) rfl (Zg P) rfl) (ZV rfl a (zt rfl (zH rfl rfl) (ZV rfl s (zt rfl (ZaL (v:=.b t7) rfl a (Eq.trans (b:=V.b (decide (((gi at_ k_.toNat).Y) < ((gi at_ best2.toNat).Y)))) rfl (congrArg V.b (Option.some.inj hp)))) (Zba ?_))))))))
       exact ⟨rfl,rfl,y,aj,ak,A,H,rfl⟩
     rintro bo _ ⟨rfl,a0,aY,aZ,a1,a2,a3,a4⟩
     refine zt rfl (ZaS (v:=.b t6) a4 s (Eq.trans (b:=V.b t7) a0 (congrArg V.b (Option.some.inj hp)))) (Zba ?_)
     exact ⟨rfl,rfl,aY,aZ,a1,a2,a3⟩
    ·refine ZC rfl s (ZC rfl s (ZC rfl s (Zdq rfl (Zdq rfl (Zdq rfl (Zdq rfl (Zdq rfl (Zdq rfl ?_))))))))
     refine Zdq rfl (Zdq rfl (Zdq rfl (Zdq rfl (Zdq rfl (ZC rfl s (zt rfl (ZaL (v:=.b t6) rfl s (Eq.trans (b:=V.b false) rfl (congrArg V.b (Option.some.inj hp)))) (Zba ?_)))))))
     exact ⟨rfl,rfl,y,aj,ak,A,H⟩
   rintro bp _ ⟨rfl,a5,aC,aD,aE,a6,al⟩
   refine Zba (Zo (zC hp a5 (fun aH hp=>?_) (fun aH hp=>?_)))
   ·refine zD (Zb _ al (Zb (.n k_) rfl (Zh (Zaa (Zo (zD (Zb _ al (ckk hp fun aJ hp=>?_))))))))
    refine Zc (zf rfl rfl aJ) (Zb (.n (k_ + 1)) rfl (Zh ?_))
    cases hp
    exact ⟨rfl,aC,aD,aE,rfl,rfl,(p.pk [])⟩
   ·refine Zc1 (Zaa (Zo (zD (Zb _ al (ckk hp fun aK hp=>Zc (zf rfl rfl aK) (Zb (.n (k_ + 1)) rfl (Zh ?_)))))))
    cases hp
    exact ⟨rfl,aC,aD,aE,a6,rfl,(p.pk [])⟩
  ·refine Zbo (zK ?_)
   cases hp
   exact ⟨nofun,rfl,ap,(am.pk [])⟩
 rintro best1 hp _ bs bq ⟨rfl,bh,a7⟩
 refine Zaw (Zo (Zk (Zb _ bh (Zb (.n best1) rfl (Ze (Zav ?_))))))
 refine z8 (Zag rfl ZQ) ?_
 cases hp
 exact ⟨rfl,(a7.pk [])⟩

theorem zk.ok {h:Hp} {at_:List ZD} {l:List Za} {i:Int} {w:Int} {v_at_:V} {v_l:V} (s_at_:Sl ZH h v_at_ at_) (s_l:Sl Zd h v_l l) {r:Bool} (hp:zk at_ l i w=some r) :
  ∃ u k',Is G 64 [v_at_,v_l,.n i,.n w] h u k'∧V.b r=u∧Own (fun r=>r < h.n) h k' []:=by
 refine WC.is (ZaP Zd0 ?_)
 unfold zk at hp
 let B:Nat→Prop:=(fun r=>r < h.n)
 have hO:Own B h h []:=Own.start0 h
 refine Zk (Zb (.b false) rfl (Ze (ZB (Zk (Zb (.n 0) rfl ?_)))))
 refine Ze (zX (Zb7 hp (fun a fr k=>fr 0=v_at_∧fr 1=v_l∧fr 2=.n i∧fr 3=.n w∧fr 9=.n a∧Own B h k []) (fun | .inl _,e,fr,k=>e=(.exit 0)∧Own B h k [] | .inr _,e,fr,k=>e=.ret∧fr 8=.b true∧Own B h k []) ⟨rfl,rfl,rfl,rfl,rfl,(hO.pk [])⟩ ?_ ?_))
 ·rintro a cT cG ⟨ch,bB,ci,cj,bC,aN⟩ cQ hp
  dsimp only [zk.s0] at hp
  refine ZB (Zk (Zb _ bC (Zb _ bB (Zc (Zak (aN.rd0 s_l.rd) rfl) (Zc (zH rfl rfl) (Ze (zC hp rfl (fun bD hp=>?_) (fun bD hp=>?_))))))))
  ·refine Zat (ZB (zX (Zk (Zb (.n 0) rfl (Ze ?_)))))
   refine zX (Zb7 hp (fun d fr k=>fr 0=v_at_∧fr 1=v_l∧fr 2=.n i∧fr 3=.n w∧fr 9=.n a∧fr 10=.n d∧Own B h k []) (fun | .inl _,e,fr,k=>e=(.exit 2)∧fr 0=v_at_∧fr 1=v_l∧fr 2=.n i∧fr 3=.n w∧fr 9=.n a∧Own B h k [] | .inr _,e,fr,k=>e=.ret∧fr 8=.b true∧Own B h k []) ⟨ch,bB,ci,cj,bC,rfl,(aN.pk [])⟩ ?_ ?_)
   ·rintro d cV cI ⟨L,N,P,Q,M,O,K⟩ cR hp
    dsimp only [zk.s1] at hp
    refine ZB (Zk (Zb _ O (Zc (zH rfl rfl) (Ze (zC hp rfl (fun bF hp=>?_) (fun bF hp=>?_))))))
    ·refine Zat (ZB (zX (Zk (Zb _ N (Zb _ M (Zb _ O ?_))))))
     refine ckk hp fun R hp=>Zc (zi (K.rd0 s_l.rd) rfl rfl R) (Zc (Zbt (K.rd0 s_l.rd) (Zg R) rfl rfl) (ckk hp fun aP hp=>Zc (Zbj (K.rd0 s_l.rd) (Zg R) rfl rfl aP rfl) (Zc (zS (K.rd0 s_l.rd) rfl (Zg R) (zI aP)) (Zb (.n (((gi l a.toNat).Next).get d)) rfl (Ze ?_)))))
     refine ZB (Zk (Zb (.n (((gi l a.toNat).Next).get d)) rfl (Zc (zH rfl rfl) (Ze (zC hp rfl (fun bG hp=>?_) (fun bG hp=>?_))))))
     ·refine Zbo (zK (Zaw (Zo (zD (Zb _ O (ckk hp fun bK hp=>Zc (zf rfl rfl bK) (Zb (.n (d + 1)) rfl ?_)))))))
      refine Zh ?_
      cases hp
      exact ⟨rfl,L,N,P,Q,M,rfl,(K.pk [])⟩
     ·refine Zat (Zk (Zb _ L (Zb _ M (ckk hp fun aQ hp=>Zc (zi (K.rd0 s_at_.rd) rfl rfl aQ) (Zc (Zdu (K.rd0 s_at_.rd) rfl (Zg aQ)) ?_)))))
      refine zw (K.alloc (cs:=ZH.c (⟨0,0⟩:ZD)) K.fr) ?_
      rintro _ cJ ⟨I,rfl,cO,cq,b3⟩
      refine zw (b3.stb (cs':=ZH.c (gi at_ a.toNat)) 0 rfl rfl rfl rfl ⟨rfl,Nat.le_of_ble_eq_true rfl,rfl⟩ rfl) ?_
      rintro _ cK ⟨rfl,cr,cM,T⟩
      refine Ze (Zk (Zb _ L (Zb (.n (((gi l a.toNat).Next).get d)) rfl (ckk hp fun aR hp=>Zc (zi (T.rd0 s_at_.rd) rfl rfl aR) (Zc (Zdu (T.rd0 s_at_.rd) rfl (Zg aR)) ?_)))))
      refine zw (T.alloc (cs:=ZH.c (⟨0,0⟩:ZD)) T.fr) ?_
      rintro _ cL ⟨J,rfl,cP,ct,b4⟩
      refine zw (b4.stb (cs':=ZH.c (gi at_ (((gi l a.toNat).Next).get d:Int).toNat)) 1 rfl rfl rfl rfl ⟨rfl,Nat.le_of_ble_eq_true rfl,rfl⟩ rfl) ?_
      rintro _ g ⟨rfl,cu,cN,b5⟩
      refine Ze (ZB (ZB (Zhw ?_)))
      have m:=b5.bump 58
      refine zt rfl (zR (r:=I) (o:=0) rfl rfl) (zt rfl (zn (m.box 0 rfl) rfl rfl) (zt rfl (zR (r:=J) (o:=0) rfl rfl) (zt rfl (zn (m.box 1 rfl) rfl rfl) (zt rfl (Zb0 rfl rfl) (ZaV (.b (decide ((gi at_ a.toNat).Y=(gi at_ (((gi l a.toNat).Next).get d:Int).toNat).Y))) rfl ?_)))))
      obtain ⟨t,b6,hp⟩:=ZaZ hp
      refine ZcN 12 (fun f k=>(g.bump 58)=k∧f 58=.b t∧f 0=v_at_∧f 1=v_l∧f 10=.n d∧f 12=.p I 0∧f 13=.p J 0∧f 2=.n i∧f 3=.n w∧f 9=.n a) ?_ ?_
      ·clear hp; rcases Zbn b6 with ⟨s,hp⟩ | ⟨s,hp⟩
       ·refine ZV rfl s (ZaV _ L (ZV rfl s (ZaV _ P (ZV rfl s (ckk hp fun ag hp=>zt rfl (zi (m.rd0 s_at_.rd) rfl rfl ag) (ZV rfl s (zt rfl (Zbt (m.rd0 s_at_.rd) (Zg ag) rfl rfl) ?_)))))))
        refine ZV rfl s (zt rfl (zS (m.rd0 s_at_.rd) rfl (Zg ag) rfl) (ZV rfl s (ZaV _ L (ZV rfl s (ZaV _ Q (ZV rfl s (ckk hp fun ah hp=>zt rfl (zi (m.rd0 s_at_.rd) rfl rfl ah) ?_)))))))
        refine ZV rfl s (zt rfl (Zbt (m.rd0 s_at_.rd) (Zg ah) rfl rfl) (ZV rfl s (zt rfl (zS (m.rd0 s_at_.rd) rfl (Zg ah) rfl) (ZV rfl s (zt rfl (Zb0 rfl rfl) (zt rfl (ZaS (v:=.b t) rfl s (Eq.trans (b:=V.b (decide ((gi at_ i.toNat).X=(gi at_ w.toNat).X))) rfl (congrArg V.b (Option.some.inj hp)))) (Zba ?_)))))))
        exact ⟨rfl,rfl,L,N,O,rfl,rfl,P,Q,M⟩
       ·refine ZC rfl s (ZC rfl s (ZC rfl s (ZC rfl s (ZC rfl s (ZC rfl s (ZC rfl s (ZC rfl s (ZC rfl s ?_))))))))
        refine ZC rfl s (ZC rfl s (zt rfl (ZaL (v:=.b t) rfl s (Eq.trans (b:=V.b false) rfl (congrArg V.b (Option.some.inj hp)))) (Zba ?_)))
        exact ⟨rfl,rfl,L,N,O,rfl,rfl,P,Q,M⟩
      rintro cv _ ⟨rfl,bS,ak,aS,aT,al,aU,am,aV,aW⟩
      refine ZaV _ bS ?_
      obtain ⟨t1,b8,hp⟩:=ZaZ hp
      refine ZcN 9 (fun f k=>(g.bump 58)=k∧f 68=.b t1∧f 0=v_at_∧f 1=v_l∧f 10=.n d∧f 12=.p I 0∧f 13=.p J 0∧f 2=.n i∧f 3=.n w∧f 9=.n a) ?_ ?_
      ·clear hp; rcases Zbn b8 with ⟨D,hp⟩ | ⟨D,hp⟩
       ·refine ZV rfl D (zt rfl (zR (r:=I) (o:=0) al rfl) (ZV rfl D (zt rfl (zn (m.box 0 rfl) rfl rfl) (ZV rfl D (ZaV _ ak (ZV rfl D (ZaV _ am (ZV rfl D ?_))))))))
        refine ckk hp fun ai hp=>zt rfl (zi (m.rd0 s_at_.rd) rfl rfl ai) (ZV rfl D (zt rfl (Zbt (m.rd0 s_at_.rd) (Zg ai) rfl rfl) (ZV rfl D (zt rfl (zS (m.rd0 s_at_.rd) rfl (Zg ai) rfl) (ZV rfl D (zt rfl (zH rfl rfl) (zt rfl (ZaS (v:=.b t1) rfl D (Eq.trans (b:=V.b (decide (((gi at_ a.toNat).X) < ((gi at_ i.toNat).X)))) rfl (congrArg V.b (Option.some.inj hp)))) ?_)))))))
        refine Zba ?_
        exact ⟨rfl,rfl,ak,aS,aT,al,aU,am,aV,aW⟩
       ·refine ZC rfl D (ZC rfl D (ZC rfl D (ZC rfl D (ZC rfl D (ZC rfl D (ZC rfl D (ZC rfl D (zt rfl (ZaL (v:=.b t1) rfl D (Eq.trans (b:=V.b false) rfl (congrArg V.b (Option.some.inj hp)))) ?_))))))))
        refine Zba ?_
        exact ⟨rfl,rfl,ak,aS,aT,al,aU,am,aV,aW⟩
      rintro cx _ ⟨rfl,bT,an,aX,aY,aZ,ao,ap,a0,a1⟩
      refine ZaV _ bT ?_
      obtain ⟨t2,b9,hp⟩:=ZaZ hp
      refine ZcN 9 (fun f k=>(g.bump 58)=k∧f 78=.b t2∧f 0=v_at_∧f 1=v_l∧f 10=.n d∧f 12=.p I 0∧f 13=.p J 0∧f 2=.n i∧f 3=.n w∧f 9=.n a) ?_ ?_
      ·clear hp; rcases Zbn b9 with ⟨E,hp⟩ | ⟨E,hp⟩
       ·refine ZV rfl E (ZaV _ an (ZV rfl E (ZaV _ ap (ZV rfl E (ckk hp fun aj hp=>zt rfl (zi (m.rd0 s_at_.rd) rfl rfl aj) (ZV rfl E (zt rfl (Zbt (m.rd0 s_at_.rd) (Zg aj) rfl rfl) ?_)))))))
        refine ZV rfl E (zt rfl (zS (m.rd0 s_at_.rd) rfl (Zg aj) rfl) (ZV rfl E (zt rfl (zR (r:=J) (o:=0) ao rfl) (ZV rfl E (zt rfl (zn (m.box 1 rfl) rfl rfl) (ZV rfl E (zt rfl (zH rfl rfl) (zt rfl (ZaS (v:=.b t2) rfl E (Eq.trans (b:=V.b (decide (((gi at_ i.toNat).X) < ((gi at_ (((gi l a.toNat).Next).get d:Int).toNat).X)))) rfl (congrArg V.b (Option.some.inj hp)))) ?_))))))))
        refine Zba ?_
        exact ⟨rfl,rfl,an,aX,aY,aZ,ao,ap,a0,a1⟩
       ·refine ZC rfl E (ZC rfl E (ZC rfl E (ZC rfl E (ZC rfl E (ZC rfl E (ZC rfl E (ZC rfl E (zt rfl (ZaL (v:=.b t2) rfl E (Eq.trans (b:=V.b false) rfl (congrArg V.b (Option.some.inj hp)))) ?_))))))))
        refine Zba ?_
        exact ⟨rfl,rfl,an,aX,aY,aZ,ao,ap,a0,a1⟩
      rintro cy _ ⟨rfl,bU,aq,a2,a3,ar,a4,au,a5,a6⟩
      refine ZaV _ bU ?_
      obtain ⟨t3,ca,hp⟩:=ZaZ hp
      refine ZcN 9 (fun f k=>(g.bump 58)=k∧f 88=.b t3∧f 0=v_at_∧f 1=v_l∧f 10=.n d∧f 12=.p I 0∧f 13=.p J 0∧f 2=.n i∧f 3=.n w∧f 9=.n a) ?_ ?_
      ·clear hp; rcases Zbn ca with ⟨F,hp⟩ | ⟨F,hp⟩
       ·refine ZV rfl F (ZaV _ aq (ZV rfl F (ZaV _ au (ZV rfl F (ckk hp fun U hp=>zt rfl (zi (m.rd0 s_at_.rd) rfl rfl U) (ZV rfl F (zt rfl (Zbt (m.rd0 s_at_.rd) (Zg U) rfl rfl) ?_)))))))
        refine ZV rfl F (zt rfl (zS (m.rd0 s_at_.rd) rfl (Zg U) rfl) (ZV rfl F (zt rfl (zR (r:=I) (o:=0) ar rfl) (ZV rfl F (zt rfl (zn (m.box 0 rfl) rfl rfl) (ZV rfl F (zt rfl (zH rfl rfl) (zt rfl (ZaS (v:=.b t3) rfl F (Eq.trans (b:=V.b (decide (((gi at_ i.toNat).Y) < ((gi at_ a.toNat).Y)))) rfl (congrArg V.b (Option.some.inj hp)))) ?_))))))))
        refine Zba ?_
        exact ⟨rfl,rfl,aq,a2,a3,ar,a4,au,a5,a6⟩
       ·refine ZC rfl F (ZC rfl F (ZC rfl F (ZC rfl F (ZC rfl F (ZC rfl F (ZC rfl F (ZC rfl F (zt rfl (ZaL (v:=.b t3) rfl F (Eq.trans (b:=V.b false) rfl (congrArg V.b (Option.some.inj hp)))) ?_))))))))
        refine Zba ?_
        exact ⟨rfl,rfl,aq,a2,a3,ar,a4,au,a5,a6⟩
      rintro cz _ ⟨rfl,bV,av,a7,a8,aw,a9,ba,ax,bb⟩
      refine ZaV _ bV ?_
      obtain ⟨t4,cb,hp⟩:=ZaZ hp
      refine ZcN 9 (fun f k=>(g.bump 58)=k∧f 98=.b t4∧f 0=v_at_∧f 1=v_l∧f 10=.n d∧f 12=.p I 0∧f 13=.p J 0∧f 2=.n i∧f 3=.n w∧f 9=.n a) ?_ ?_
      ·clear hp; rcases Zbn cb with ⟨H,hp⟩ | ⟨H,hp⟩
       ·refine ZV rfl H (zt rfl (zR (r:=I) (o:=0) aw rfl) (ZV rfl H (zt rfl (zn (m.box 0 rfl) rfl rfl) (ZV rfl H (ZaV _ av (ZV rfl H (ZaV _ ax (ZV rfl H ?_))))))))
        refine ckk hp fun W hp=>zt rfl (zi (m.rd0 s_at_.rd) rfl rfl W) (ZV rfl H (zt rfl (Zbt (m.rd0 s_at_.rd) (Zg W) rfl rfl) (ZV rfl H (zt rfl (zS (m.rd0 s_at_.rd) rfl (Zg W) rfl) (ZV rfl H (zt rfl (zH rfl rfl) (zt rfl (ZaS (v:=.b t4) rfl H (Eq.trans (b:=V.b (decide (((gi at_ a.toNat).Y) < ((gi at_ w.toNat).Y)))) rfl (congrArg V.b (Option.some.inj hp)))) ?_)))))))
        refine Zba ?_
        exact ⟨rfl,rfl,av,a7,a8,aw,a9,ba,ax,bb⟩
       ·refine ZC rfl H (ZC rfl H (ZC rfl H (ZC rfl H (ZC rfl H (ZC rfl H (ZC rfl H (ZC rfl H (zt rfl (ZaL (v:=.b t4) rfl H (Eq.trans (b:=V.b false) rfl (congrArg V.b (Option.some.inj hp)))) ?_))))))))
        refine Zba ?_
        exact ⟨rfl,rfl,av,a7,a8,aw,a9,ba,ax,bb⟩
      rintro cA _ ⟨rfl,bW,S,bc,bd,ay,az,aA,aB,be⟩
      refine Zba (Zo (zC hp bW (fun bH hp=>?_) (fun bH hp=>?_)))
      ·refine Zk (Zb (.b true) rfl (Ze (Zav (zE (Zbw (zE ?_))))))
       cases hp
       exact ⟨nofun,rfl,rfl,(m.pk [])⟩
      ·refine Zat (ZB (Zhw ?_))
       have j:=m.bump 58
       refine zt rfl (zR (r:=I) (o:=0) ay rfl) (zt rfl (zn (j.box 0 rfl) rfl rfl) (zt rfl (zR (r:=J) (o:=0) az rfl) (zt rfl (zn (j.box 1 rfl) rfl rfl) (zt rfl (Zb0 rfl rfl) (ZaV (.b (decide ((gi at_ a.toNat).X=(gi at_ (((gi l a.toNat).Next).get d:Int).toNat).X))) rfl ?_)))))
       obtain ⟨t5,cc,hp⟩:=ZaZ hp
       refine ZcN 12 (fun f k=>((g.bump 58).bump 58)=k∧f 116=.b t5∧f 0=v_at_∧f 1=v_l∧f 10=.n d∧f 12=.p I 0∧f 13=.p J 0∧f 2=.n i∧f 3=.n w∧f 9=.n a) ?_ ?_
       ·clear hp; rcases Zbn cc with ⟨q,hp⟩ | ⟨q,hp⟩
        ·refine ZV rfl q (ZaV _ S (ZV rfl q (ZaV _ aA (ZV rfl q (ckk hp fun aa hp=>zt rfl (zi (j.rd0 s_at_.rd:Sl ZH ((g.bump 58).bump 58) v_at_ at_) rfl rfl aa) (ZV rfl q (zt rfl (Zbt (j.rd0 s_at_.rd:Sl ZH ((g.bump 58).bump 58) v_at_ at_) (Zg aa) rfl rfl) ?_)))))))
         refine ZV rfl q (zt rfl (zS (j.rd0 s_at_.rd:Sl ZH ((g.bump 58).bump 58) v_at_ at_) rfl (Zg aa) rfl) (ZV rfl q (ZaV _ S (ZV rfl q (ZaV _ aB (ZV rfl q (ckk hp fun ab hp=>zt rfl (zi (j.rd0 s_at_.rd:Sl ZH ((g.bump 58).bump 58) v_at_ at_) rfl rfl ab) ?_)))))))
         refine ZV rfl q (zt rfl (Zbt (j.rd0 s_at_.rd:Sl ZH ((g.bump 58).bump 58) v_at_ at_) (Zg ab) rfl rfl) (ZV rfl q (zt rfl (zS (j.rd0 s_at_.rd:Sl ZH ((g.bump 58).bump 58) v_at_ at_) rfl (Zg ab) rfl) (ZV rfl q (zt rfl (Zb0 rfl rfl) (zt rfl (ZaS (v:=.b t5) rfl q (Eq.trans (b:=V.b (decide ((gi at_ i.toNat).Y=(gi at_ w.toNat).Y))) rfl (congrArg V.b (Option.some.inj hp)))) (Zba ?_)))))))
         exact ⟨rfl,rfl,S,bc,bd,ay,az,aA,aB,be⟩
        ·refine ZC rfl q (ZC rfl q (ZC rfl q (ZC rfl q (ZC rfl q (ZC rfl q (ZC rfl q (ZC rfl q (ZC rfl q ?_))))))))
         refine ZC rfl q (ZC rfl q (zt rfl (ZaL (v:=.b t5) rfl q (Eq.trans (b:=V.b false) rfl (congrArg V.b (Option.some.inj hp)))) (Zba ?_)))
         exact ⟨rfl,rfl,S,bc,bd,ay,az,aA,aB,be⟩
       rintro cB _ ⟨rfl,bX,aC,bf,bg,aD,bh,aE,bi,bj⟩
       refine ZaV _ bX ?_
       obtain ⟨t6,cd,hp⟩:=ZaZ hp
       refine ZcN 9 (fun f k=>((g.bump 58).bump 58)=k∧f 126=.b t6∧f 0=v_at_∧f 1=v_l∧f 10=.n d∧f 12=.p I 0∧f 13=.p J 0∧f 2=.n i∧f 3=.n w∧f 9=.n a) ?_ ?_
       ·clear hp; rcases Zbn cd with ⟨x,hp⟩ | ⟨x,hp⟩
        ·refine ZV rfl x (ZaV _ aC (ZV rfl x (ZaV _ aE (ZV rfl x (ckk hp fun ac hp=>zt rfl (zi (j.rd0 s_at_.rd:Sl ZH ((g.bump 58).bump 58) v_at_ at_) rfl rfl ac) (ZV rfl x (zt rfl (Zbt (j.rd0 s_at_.rd:Sl ZH ((g.bump 58).bump 58) v_at_ at_) (Zg ac) rfl rfl) ?_)))))))
         refine ZV rfl x (zt rfl (zS (j.rd0 s_at_.rd:Sl ZH ((g.bump 58).bump 58) v_at_ at_) rfl (Zg ac) rfl) (ZV rfl x (zt rfl (zR (r:=I) (o:=0) aD rfl) (ZV rfl x (zt rfl (zn (j.box 0 rfl) rfl rfl) (ZV rfl x (zt rfl (zH rfl rfl) (zt rfl (ZaS (v:=.b t6) rfl x (Eq.trans (b:=V.b (decide (((gi at_ i.toNat).X) < ((gi at_ a.toNat).X)))) rfl (congrArg V.b (Option.some.inj hp)))) ?_))))))))
         refine Zba ?_
         exact ⟨rfl,rfl,aC,bf,bg,aD,bh,aE,bi,bj⟩
        ·refine ZC rfl x (ZC rfl x (ZC rfl x (ZC rfl x (ZC rfl x (ZC rfl x (ZC rfl x (ZC rfl x (zt rfl (ZaL (v:=.b t6) rfl x (Eq.trans (b:=V.b false) rfl (congrArg V.b (Option.some.inj hp)))) ?_))))))))
         refine Zba ?_
         exact ⟨rfl,rfl,aC,bf,bg,aD,bh,aE,bi,bj⟩
       rintro cC _ ⟨rfl,bY,aF,bk,bl,aG,bm,bn,aH,bo⟩
       refine ZaV _ bY ?_
       obtain ⟨t7,ce,hp⟩:=ZaZ hp
       refine ZcN 9 (fun f k=>((g.bump 58).bump 58)=k∧f 136=.b t7∧f 0=v_at_∧f 1=v_l∧f 10=.n d∧f 12=.p I 0∧f 13=.p J 0∧f 2=.n i∧f 3=.n w∧f 9=.n a) ?_ ?_
       ·clear hp; rcases Zbn ce with ⟨y,hp⟩ | ⟨y,hp⟩
        ·refine ZV rfl y (zt rfl (zR (r:=I) (o:=0) aG rfl) (ZV rfl y (zt rfl (zn (j.box 0 rfl) rfl rfl) (ZV rfl y (ZaV _ aF (ZV rfl y (ZaV _ aH (ZV rfl y ?_))))))))
         refine ckk hp fun ad hp=>zt rfl (zi (j.rd0 s_at_.rd:Sl ZH ((g.bump 58).bump 58) v_at_ at_) rfl rfl ad) (ZV rfl y (zt rfl (Zbt (j.rd0 s_at_.rd:Sl ZH ((g.bump 58).bump 58) v_at_ at_) (Zg ad) rfl rfl) (ZV rfl y (zt rfl (zS (j.rd0 s_at_.rd:Sl ZH ((g.bump 58).bump 58) v_at_ at_) rfl (Zg ad) rfl) (ZV rfl y (zt rfl (zH rfl rfl) (zt rfl (ZaS (v:=.b t7) rfl y (Eq.trans (b:=V.b (decide (((gi at_ a.toNat).X) < ((gi at_ w.toNat).X)))) rfl (congrArg V.b (Option.some.inj hp)))) ?_)))))))
         refine Zba ?_
         exact ⟨rfl,rfl,aF,bk,bl,aG,bm,bn,aH,bo⟩
        ·refine ZC rfl y (ZC rfl y (ZC rfl y (ZC rfl y (ZC rfl y (ZC rfl y (ZC rfl y (ZC rfl y (zt rfl (ZaL (v:=.b t7) rfl y (Eq.trans (b:=V.b false) rfl (congrArg V.b (Option.some.inj hp)))) ?_))))))))
         refine Zba ?_
         exact ⟨rfl,rfl,aF,bk,bl,aG,bm,bn,aH,bo⟩
       rintro cD _ ⟨rfl,b0,aI,bp,bq,bZ,br,aJ,bs,bt⟩
       refine ZaV _ b0 ?_
       obtain ⟨t8,cf,hp⟩:=ZaZ hp
       refine ZcN 9 (fun f k=>((g.bump 58).bump 58)=k∧f 146=.b t8∧f 0=v_at_∧f 1=v_l∧f 10=.n d∧f 13=.p J 0∧f 2=.n i∧f 3=.n w∧f 9=.n a) ?_ ?_
       ·clear hp; rcases Zbn cf with ⟨A,hp⟩ | ⟨A,hp⟩
        ·refine ZV rfl A (zt rfl (zR (r:=I) (o:=0) bZ rfl) (ZV rfl A (zt rfl (zn (j.box 0 rfl) rfl rfl) (ZV rfl A (ZaV _ aI (ZV rfl A (ZaV _ aJ (ZV rfl A ?_))))))))
         refine ckk hp fun ae hp=>zt rfl (zi (j.rd0 s_at_.rd:Sl ZH ((g.bump 58).bump 58) v_at_ at_) rfl rfl ae) (ZV rfl A (zt rfl (Zbt (j.rd0 s_at_.rd:Sl ZH ((g.bump 58).bump 58) v_at_ at_) (Zg ae) rfl rfl) (ZV rfl A (zt rfl (zS (j.rd0 s_at_.rd:Sl ZH ((g.bump 58).bump 58) v_at_ at_) rfl (Zg ae) rfl) (ZV rfl A (zt rfl (zH rfl rfl) (zt rfl (ZaS (v:=.b t8) rfl A (Eq.trans (b:=V.b (decide (((gi at_ a.toNat).Y) < ((gi at_ i.toNat).Y)))) rfl (congrArg V.b (Option.some.inj hp)))) ?_)))))))
         refine Zba ?_
         exact ⟨rfl,rfl,aI,bp,bq,br,aJ,bs,bt⟩
        ·refine ZC rfl A (ZC rfl A (ZC rfl A (ZC rfl A (ZC rfl A (ZC rfl A (ZC rfl A (ZC rfl A (zt rfl (ZaL (v:=.b t8) rfl A (Eq.trans (b:=V.b false) rfl (congrArg V.b (Option.some.inj hp)))) ?_))))))))
         refine Zba ?_
         exact ⟨rfl,rfl,aI,bp,bq,br,aJ,bs,bt⟩
       rintro cE _ ⟨rfl,b2,aK,bu,bv,b1,aL,bw,bx⟩
       refine ZaV _ b2 ?_
       obtain ⟨t9,b7,hp⟩:=ZaZ hp
       refine ZcN 9 (fun f k=>((g.bump 58).bump 58)=k∧f 156=.b t9∧f 0=v_at_∧f 1=v_l∧f 10=.n d∧f 2=.n i∧f 3=.n w∧f 9=.n a) ?_ ?_
       ·clear hp; rcases Zbn b7 with ⟨C,hp⟩ | ⟨C,hp⟩
        ·refine ZV rfl C (ZaV _ aK (ZV rfl C (ZaV _ aL (ZV rfl C (ckk hp fun af hp=>zt rfl (zi (j.rd0 s_at_.rd:Sl ZH ((g.bump 58).bump 58) v_at_ at_) rfl rfl af) (ZV rfl C (zt rfl (Zbt (j.rd0 s_at_.rd:Sl ZH ((g.bump 58).bump 58) v_at_ at_) (Zg af) rfl rfl) ?_)))))))
         refine ZV rfl C (zt rfl (zS (j.rd0 s_at_.rd:Sl ZH ((g.bump 58).bump 58) v_at_ at_) rfl (Zg af) rfl) (ZV rfl C (zt rfl (zR (r:=J) (o:=0) b1 rfl) (ZV rfl C (zt rfl (zn (j.box 1 rfl) rfl rfl) (ZV rfl C (zt rfl (zH rfl rfl) (zt rfl (ZaS (v:=.b t9) rfl C (Eq.trans (b:=V.b (decide (((gi at_ i.toNat).Y) < ((gi at_ (((gi l a.toNat).Next).get d:Int).toNat).Y)))) rfl (congrArg V.b (Option.some.inj hp)))) ?_))))))))
         refine Zba ?_
         exact ⟨rfl,rfl,aK,bu,bv,aL,bw,bx⟩
        ·refine ZC rfl C (ZC rfl C (ZC rfl C (ZC rfl C (ZC rfl C (ZC rfl C (ZC rfl C (ZC rfl C (zt rfl (ZaL (v:=.b t9) rfl C (Eq.trans (b:=V.b false) rfl (congrArg V.b (Option.some.inj hp)))) ?_))))))))
         refine Zba ?_
         exact ⟨rfl,rfl,aK,bu,bv,aL,bw,bx⟩
       rintro cw _ ⟨rfl,bO,bL,bM,bN,bP,bQ,bR⟩
       refine Zba (Zo (zC hp bO (fun bE hp=>?_) (fun bE hp=>?_)))
       ·refine Zk (Zb (.b true) rfl (Ze (Zav (Zbw (zE ?_)))))
        cases hp
        exact ⟨nofun,rfl,rfl,(j.pk [])⟩
       ·refine Zc1 (Zaa (Zo (zD (Zb _ bN (ckk hp fun bI hp=>Zc (zf rfl rfl bI) (Zb (.n (d + 1)) rfl (Zh ?_)))))))
        cases hp
        exact ⟨rfl,bL,bM,bP,bQ,bR,rfl,(j.pk [])⟩
    ·refine Zbo (zK ?_)
     cases hp
     exact ⟨nofun,rfl,L,N,P,Q,M,(K.pk [])⟩
   rintro (_ | _) hp _ cU cH bA
   ·obtain ⟨rfl,ck,cl,cm,cn,cp,aO⟩:=bA
    refine Zaw (Zaa (Zo (zD (Zb _ cp (ckk hp fun bJ hp=>Zc (zf rfl rfl bJ) (Zb (.n (a + 1)) rfl (Zh ?_)))))))
    cases hp
    exact ⟨rfl,ck,cl,cm,cn,rfl,(aO.pk [])⟩
   ·obtain ⟨rfl,co,aO⟩:=bA
    refine Zbw (Zbw (zE ?_))
    cases hp
    exact ⟨nofun,rfl,co,(aO.pk [])⟩
  ·refine Zbo (zK ?_)
   cases hp
   exact ⟨nofun,rfl,(aN.pk [])⟩
 rintro (_ | _) hp _ cS cF bz
 ·obtain ⟨rfl,aM⟩:=bz
  refine Zaw (Zo (Zk (Zb (.b false) rfl (Ze (Zav (z8 (Zag rfl ZQ) ?_))))))
  cases hp
  exact ⟨rfl,(aM.pk [])⟩
 ·obtain ⟨rfl,cg,aM⟩:=bz
  refine Zbw (zE (z8 (Zag cg ZQ) ?_))
  cases hp
  exact ⟨rfl,(aM.pk [])⟩

theorem ZaC.ok {h:Hp} {l:List Za} {v:Int} {d:Int} {w:Int} {o:Int} {v_l:V} (s_l:Sl Zd h v_l l) {r:(List Za)} (hp:ZaC l v d w o=some r) :
  ∃ u k',Is G 65 [v_l,.n v,.n d,.n w,.n o] h u k'∧∃ U,U=u∧Own (fun r=>r < h.n) h k' [eSl Zd U r]:=by
 refine WC.is (ZaP Zeq ?_)
 unfold ZaC at hp
 let B:Nat→Prop:=(fun r=>r < h.n)
 have hO:Own B h h []:=Own.start0 h
 refine Zk (Zb (.sn) rfl (Ze (Zk (Zb (.sn) rfl (Zh ?_)))))
 refine Zo (ZB (Zk (Zb (.n 0) rfl (Ze (zX ?_)))))
 have ak:=hO.nil Zd
 refine Zb7 hp (fun | (out,i),fr,k=>∃ j,fr 0=v_l∧fr 1=.n v∧fr 2=.n d∧fr 3=.n w∧fr 4=.n o∧fr 11=j∧fr 12=.n i∧Own B h k [eSl Zd j out]) (fun out1 e fr k=>e=(.exit 0)∧∃ q,fr 11=q∧Own B h k [eSl Zd q out1]) ⟨V.sn,rfl,rfl,rfl,rfl,rfl,rfl,rfl,(ak.pk [0])⟩ ?_ ?_
 ·rintro ⟨out,i⟩ aY aI ⟨j,t,H,x,J,K,I,m,f⟩ aW hp
  dsimp only [ZaC.s0] at hp
  refine ZB (Zk (Zb _ m (Zb _ t (Zc (Zak (f.rd0 s_l.rd) rfl) (Zc (zH rfl rfl) (Ze (zC hp rfl (fun Y hp=>?_) (fun Y hp=>?_))))))))
  ·refine Zat (ZB (zX (Zk (Zb _ t (Zb _ m (ckk hp fun P hp=>?_))))))
   refine Zc (zi (f.rd0 s_l.rd) rfl rfl P) (Zc (Zdu (f.rd0 s_l.rd) rfl (Zg P)) (zw (f.alloc (cs:=Zd.c (⟨⟨0,0,0,0⟩,⟨0,0,0,0⟩⟩:Za)) f.fr) ?_))
   rintro _ aJ ⟨g,rfl,aV,au,al⟩
   refine zw (al.stb (cs':=Zd.c (gi l i.toNat)) 1 rfl rfl rfl rfl ⟨rfl,Nat.le_of_ble_eq_true rfl,rfl⟩ rfl) ?_
   rintro _ aK ⟨rfl,aw,aQ,R⟩
   refine Ze (ZB (Zk (Zb _ m (Zb _ H (Zc (Zb0 rfl rfl) (Zh ?_))))))
   refine Zo (Zg4 hp (fun c e fr k=>e=.normal∧fr 0=v_l∧fr 1=.n v∧fr 2=.n d∧fr 3=.n w∧fr 4=.n o∧fr 11=j∧fr 12=.n i∧fr 13=.p g 0∧Own B h k [eSl Zd j out,zV g (Zd.c c)]) (fun _ hp=>?_) ?_)
   ·refine zC hp rfl (fun aa hp=>?_) (fun aa hp=>?_)
    ·refine Zk (Zb _ x (Zb _ J (Zc (zR (r:=g) (o:=0) rfl rfl) (ckk hp fun a hp=>Zc (Zez (o:=0) (o':=(0 + d.toNat * 1)) rfl rfl a rfl) (zw (R.stb (cs':=Zd.c ({ gi l i.toNat with Next:=((gi l i.toNat).Next).set d w })) 1 rfl rfl rfl rfl ⟨rfl,(by have:=a; exact (show 0 + d.toNat * 1 + 1≤8 by omega)),rfl⟩ (Zcc a)) ?_)))))
     rintro _ aM ⟨rfl,ax,aR,am⟩
     refine Ze (zD (Zb _ x (Zb _ K (Zc (zR (r:=g) (o:=0) rfl rfl) (Zc (Zez (o:=4) (o':=(4 + d.toNat * 1)) rfl rfl a rfl) (zw (am.stb (cs':=Zd.c ({ { gi l i.toNat with Next:=((gi l i.toNat).Next).set d w } with Owner:=(({ gi l i.toNat with Next:=((gi l i.toNat).Next).set d w }).Owner).set d o })) 1 rfl rfl rfl rfl ⟨rfl,(by have:=a; exact (show 4 + d.toNat * 1 + 1≤8 by omega)),rfl⟩ (Zcn a)) ?_))))))
     rintro _ aN ⟨rfl,ay,aS,an⟩
     refine Zh ?_
     cases hp
     exact ⟨rfl,t,H,x,J,K,I,m,rfl,(an.pk [0,1])⟩
    ·refine Zc1 ?_
     cases hp
     exact ⟨rfl,t,H,x,J,K,I,m,rfl,(R.pk [0,1])⟩
   rintro c hp _ aZ aL ⟨rfl,S,L,A,N,O,T,M,y,s⟩
   refine Zo (ZB (Zk (Zb _ M (Zb _ N (Zc (Zb0 rfl rfl) (Ze (zC hp rfl (fun ab hp=>?_) (fun ab hp=>?_))))))))
   ·refine Zk (Zb _ A (ckk hp fun Q hp=>Zc (zf rfl rfl Q) (Zc (ZcL rfl rfl (by decide)) (Zb _ L (Zc (zR (r:=g) (o:=0) y rfl) (ckk hp fun b hp=>?_))))))
    refine Zc (Zez (o:=0) (o':=(0 + ((d + 2).tmod 4:Int).toNat * 1)) rfl rfl b rfl) (zw (s.stb (cs':=Zd.c ({ c with Next:=c.Next.set ((d + 2).tmod 4) v })) 1 rfl rfl rfl rfl ⟨rfl,(by have:=b; exact (show 0 + ((d + 2).tmod 4:Int).toNat * 1 + 1≤8 by omega)),rfl⟩ (Zcc b)) ?_)
    rintro _ aO ⟨rfl,az,aT,ao⟩
    refine Ze (zD (Zb _ A (Zc (zf rfl rfl Q) (Zc (ZcL rfl rfl (by decide)) (Zb _ O (Zc (zR (r:=g) (o:=0) y rfl) (Zc (Zez (o:=4) (o':=(4 + ((d + 2).tmod 4:Int).toNat * 1)) rfl rfl b rfl) ?_)))))))
    refine zw (ao.stb (cs':=Zd.c ({ { c with Next:=c.Next.set ((d + 2).tmod 4) v } with Owner:=(({ c with Next:=c.Next.set ((d + 2).tmod 4) v }).Owner).set ((d + 2).tmod 4) o })) 1 rfl rfl rfl rfl ⟨rfl,(by have:=b; exact (show 4 + ((d + 2).tmod 4:Int).toNat * 1 + 1≤8 by omega)),rfl⟩ (Zcn b)) ?_
    rintro _ aP ⟨rfl,aA,aU,C⟩
    refine Ze (zD (Zb _ T (Zc (Zbu (C.box 1 rfl) y rfl) (zw (C.bsl (E:=Zd) (l:=[{ { c with Next:=c.Next.set ((d + 2).tmod 4) v } with Owner:=(({ c with Next:=c.Next.set ((d + 2).tmod 4) v }).Owner).set ((d + 2).tmod 4) o }]) C.fr (by rw [(zo (v:=.ag (Zd.c ({ { c with Next:=c.Next.set ((d + 2).tmod 4) v } with Owner:=(({ c with Next:=c.Next.set ((d + 2).tmod 4) v }).Owner).set ((d + 2).tmod 4) o }))) rfl ZaH)]; rfl) rfl) ?_))))
    rintro ar ap ⟨a0,aB,D⟩
    refine ckk hp fun ac hp=>zw (D.app (bytes:=64) 0 D.fr rfl (D.sl 2 rfl:Sl Zd ap ar [{ { c with Next:=c.Next.set ((d + 2).tmod 4) v } with Owner:=(({ c with Next:=c.Next.set ((d + 2).tmod 4) v }).Owner).set ((d + 2).tmod 4) o }]) rfl rfl (fun _=>rfl) ac (by decide)) ?_
    rintro W aF ⟨aC,ai⟩
    refine Zb W rfl (Zh (Zaa (Zo (zD (Zb _ M (ckk hp fun ad hp=>Zc (zf rfl rfl ad) (Zb (.n (i + 1)) rfl ?_)))))))
    refine Zh ?_
    cases hp
    exact ⟨rfl,W,S,L,A,N,O,rfl,rfl,(ai.pk [0])⟩
   ·refine Zat (zD (Zb _ T (Zc (Zbu (s.box 1 rfl) y rfl) (zw (s.bsl (E:=Zd) (l:=[c]) s.fr (by rw [(zo (v:=.ag (Zd.c c)) rfl ZaH)]; rfl) rfl) ?_))))
    rintro a2 aG ⟨a1,aD,F⟩
    refine ckk hp fun ae hp=>zw (F.app (bytes:=64) 0 F.fr rfl (F.sl 2 rfl) rfl rfl (fun _=>rfl) ae (by decide)) ?_
    rintro X aH ⟨av,aj⟩
    refine Zb X rfl (Zh (Zaa (Zo (zD (Zb _ M (ckk hp fun af hp=>Zc (zf rfl rfl af) (Zb (.n (i + 1)) rfl ?_)))))))
    refine Zh ?_
    cases hp
    exact ⟨rfl,X,S,L,A,N,O,rfl,rfl,(aj.pk [0])⟩
  ·refine Zbo (zK ?_)
   cases hp
   exact ⟨nofun,rfl,j,I,(f.pk [0])⟩
 rintro out1 hp _ aX aE ⟨rfl,q,aq,ah⟩
 refine Zaw (Zo (Zk (Zb _ aq (Zb q rfl (Ze (Zav ?_))))))
 refine z8 (Zag rfl ZQ) ?_
 cases hp
 exact ⟨q,rfl,(ah.pk [0])⟩

theorem ZT.ok {h:Hp} {z:Zaj} {most:Int} {v_z_At:V} {v_z_Bits:V} {v_z_Own:V} (s_z_At:Sl Zhz h v_z_At z.At) (s_z_Bits:Sl Zhz h v_z_Bits z.Bits) (s_z_Own:Sl ZkV h v_z_Own z.Own) {r:(List Za) × (List ZD)} (hp:ZT z most=some r) :
  ∃ u k',Is G 28 [.ag [v_z_At,v_z_Bits,v_z_Own],.n most] h u k'∧∃ aZ a1,V.tu [aZ,a1]=u∧Own (fun r=>r < h.n) h k' [eSl Zd aZ r.1,eSl ZH a1 r.2]:=by
 refine WC.is (ZaP Zeo ?_)
 unfold ZT at hp
 let B:Nat→Prop:=(fun r=>r < h.n)
 have hO:Own B h h []:=Own.start0 h
 refine Zk (zw (hO.boxd (cs:=[v_z_At,v_z_Bits,v_z_Own]) hO.fr rfl rfl) ?_)
 rintro _ ct ⟨a,rfl,cG,cl,bK⟩
 refine Zb (.sn) rfl (Zb (.sn) rfl (Ze (Zk (Zb (.sn) rfl (Ze ?_)))))
 refine ZB (Zk (Zb (.n 0) rfl (Ze (zX ?_))))
 have bR:=bK.nil ZH
 refine Zb7 hp (fun | (at_,i),fr,k=>∃ A,fr 1=.n most∧fr 2=.p a 0∧fr 6=A∧fr 7=.n i∧Own B h k [zV a [v_z_At,v_z_Bits,v_z_Own],eSl ZH A at_]) (fun at_1 e fr k=>e=(.exit 0)∧∃ g,fr 2=.p a 0∧fr 6=g∧Own B h k [zV a [v_z_At,v_z_Bits,v_z_Own],eSl ZH g at_1]) ⟨V.sn,rfl,rfl,rfl,rfl,(bR.pk [0,1])⟩ ?_ ?_
 ·rintro ⟨at_,i⟩ cO au ⟨A,ay,az,aA,aB,s⟩ cJ hp
  dsimp only [ZT.s0] at hp
  refine ZB (Zk (Zb _ aB (Zc (zR (r:=a) (o:=0) az rfl) (Zc (zn (s.box 0 rfl) rfl rfl) (Zc (Zak (s.rd0 s_z_At.rd) rfl) (Zc (zH rfl rfl) (Zb (.b (decide (i < (z.At.length:Int)))) rfl (Zai 5 (fun f k=>au=k∧f 28=.b ((decide (i < (z.At.length:Int))) && (decide ((at_.length:Int) < most)))∧f 1=.n most∧f 2=.p a 0∧f 6=A∧f 7=.n i) ?_ ?_))))))))
  ·rcases bc (decide (i < (z.At.length:Int))) with y | y
   ·refine Zu rfl y (Zb _ aA (Zu rfl y (Zc (Zak (s.sl 1 rfl) rfl) (Zu rfl y (Zb _ ay (Zu rfl y (Zc (zH rfl rfl) (Zc (ZcY rfl y rfl) ?_))))))))
    refine Zh ?_
    exact ⟨rfl,rfl,ay,az,aA,aB⟩
   ·refine Zl rfl y (Zl rfl y (Zl rfl y (Zl rfl y (Zc (ZcX (w:=(decide (i < (z.At.length:Int))) && (decide ((at_.length:Int) < most))) rfl y rfl) (Zh ?_)))))
    exact ⟨rfl,rfl,ay,az,aA,aB⟩
  rintro cp _ ⟨rfl,bB,bA,T,aO,al⟩
  refine Ze (zC hp bB (fun a7 hp=>?_) (fun a7 hp=>?_))
  ·refine Zat (ZB (zX (ZB (ZfG ?_))))
   have I:=s.bump 18
   have aN:=Fresh.start au 18
   have b4:∀ {i:Nat},h.n≤au.n + i:=Nat.le_trans s.n (Nat.le_add_right _ _)
   refine z4 (zR (r:=a) (o:=0) T rfl) (z4 (zn (I.box 0 rfl) rfl rfl) (Zbr _ al (ckk hp fun K hp=>z4 (zi (I.rd0 s_z_At.rd) rfl rfl K) (z4 (zS (I.rd0 s_z_At.rd) rfl (Zg K) rfl) (ckk hp fun aK hp=>z4 (Zfe rfl aK) (z4 (ZcL rfl rfl (by decide)) ?_))))))
   refine z4 (zR (r:=a) (o:=0) T rfl) (z4 (zn (I.box 0 rfl) rfl rfl) (Zbr _ al (z4 (zi (I.rd0 s_z_At.rd) rfl rfl K) (z4 (zS (I.rd0 s_z_At.rd) rfl (Zg K) rfl) (z4 (Zfe rfl aK) (ckk hp fun bm hp=>z4 (Zlz rfl rfl bm) (z4 (ZcL rfl rfl (by decide)) ?_)))))))
   refine z4 (Zcx (cs:=ZH.c (⟨(gi z.At i.toNat).tmod 8,((gi z.At i.toNat).tdiv 8).tmod 8⟩:ZD)) (by rw [(zo (v:=.n ((gi z.At i.toNat).tmod 8)) rfl (zo (v:=.n (((gi z.At i.toNat).tdiv 8).tmod 8)) rfl ZaH))]; rfl)) (Ze8 (I.alloc (cs:=ZH.c (⟨0,0⟩:ZD)) ⟨aN.m 16 (by decide) (by decide),b4⟩) ?_)
   rintro _ cC c1 ⟨R,rfl,cH,bw,bS⟩
   have bz:=aN.kept bw (by decide)
   refine Ze8 (bS.stb (cs':=ZH.c (⟨(gi z.At i.toNat).tmod 8,((gi z.At i.toNat).tdiv 8).tmod 8⟩:ZD)) 2 rfl rfl rfl rfl ⟨rfl,Nat.le_of_ble_eq_true rfl,rfl⟩ rfl) ?_
   rintro _ cD c2 ⟨rfl,bx,cF,bT⟩
   have co:=bz.kept bx (by decide)
   refine ZcA ?_
   refine And.intro ?_ ?_
   ·intro q hq
    simp only [List.mem_cons,List.not_mem_nil,or_false] at hq
    rcases hq with rfl | rfl | rfl | rfl | rfl | rfl | rfl | rfl
    ·refine Zao ?_ ?_
     ·exact (fun h=>nomatch h)
     ·exact (fun h=>nomatch h)
    ·refine Zao ?_ ?_
     ·exact (fun h=>nomatch h)
     ·exact (fun h=>nomatch h)
    ·refine Zao ?_ ?_
     ·exact (fun h=>nomatch h)
     ·exact (fun h=>nomatch h)
    ·refine Zao ?_ ?_
     ·exact (fun h=>nomatch h)
     ·exact (fun h=>nomatch h)
    ·refine Zao ?_ ?_
     ·exact (fun h=>nomatch h)
     ·exact (fun _ hm=>Nat.lt_irrefl _ (Nat.lt_of_lt_of_le (s.ltAt 0 rfl _ (tch (Zcp hm) rfl)) (Nat.le_add_right _ _)))
    ·refine Zao ?_ ?_
     ·exact (fun h=>nomatch h)
     ·exact (fun _ hm=>Nat.lt_irrefl _ (Nat.lt_of_lt_of_le (Nat.lt_of_lt_of_le (s.lo _ (Rd.B s_z_At.rd s.lo (Zg K) _ (Zc7 (tch (Zcp hm) rfl)))) s.n) (Nat.le_add_right _ _)))
    ·refine Zao ?_ ?_
     ·exact (fun h=>nomatch h)
     ·exact (fun _ hm=>Nat.lt_irrefl _ (Nat.lt_of_lt_of_le (s.ltAt 0 rfl _ (tch (Zcp hm) rfl)) (Nat.le_add_right _ _)))
    ·refine Zao ?_ ?_
     ·exact (fun h=>nomatch h)
     ·exact (fun _ hm=>Nat.lt_irrefl _ (Nat.lt_of_lt_of_le (Nat.lt_of_lt_of_le (s.lo _ (Rd.B s_z_At.rd s.lo (Zg K) _ (Zc7 (tch (Zcp hm) rfl)))) s.n) (Nat.le_add_right _ _)))
   refine Zo (Zk (Zb (.b false) rfl (Ze (ZB (Zk ?_)))))
   refine Zb (.n 0) rfl (Ze (zX (Zb7 hp (fun | (met,k_),fr,k=>fr 1=.n most∧fr 2=.p a 0∧fr 6=A∧fr 7=.n i∧fr 8=.p R 0∧fr 9=.b met∧fr 10=.n k_∧Own B h k [zV a [v_z_At,v_z_Bits,v_z_Own],eSl ZH A at_,zV R (ZH.c (⟨(gi z.At i.toNat).tmod 8,((gi z.At i.toNat).tdiv 8).tmod 8⟩:ZD))]) (fun | (at_2,met1),e,fr,k=>e=(.exit 2)∧fr 1=.n most∧fr 2=.p a 0∧fr 6=A∧fr 7=.n i∧fr 8=.p R 0∧fr 9=.b met1∧Own B h k [zV a [v_z_At,v_z_Bits,v_z_Own],eSl ZH A at_2,zV R (ZH.c (⟨(gi z.At i.toNat).tmod 8,((gi z.At i.toNat).tdiv 8).tmod 8⟩:ZD))]) ⟨bA,T,aO,al,rfl,rfl,rfl,(bT.pk [0,1,2])⟩ ?_ ?_)))
   ·rintro ⟨met,k_⟩ cQ b3 ⟨aC,aD,O,aE,ah,aY,af,ar⟩ cK hp
    dsimp only [ZT.s1] at hp
    refine ZB (Zk (Zb _ af (Zb _ O (Zc (Zak (ar.sl 1 rfl) rfl) (Zc (zH rfl rfl) (Ze (zC hp rfl (fun a8 hp=>?_) (fun a8 hp=>?_))))))))
    ·refine Zat (ZB (zX (Zhw ?_)))
     have aa:=ar.bump 10
     refine ZaV _ aY (ZaV (.b met) rfl ?_)
     obtain ⟨t,bY,hp⟩:=ZaZ hp
     refine ZcN 7 (fun f k=>(b3.bump 10)=k∧f 61=.b t∧f 1=.n most∧f 10=.n k_∧f 2=.p a 0∧f 6=A∧f 7=.n i∧f 8=.p R 0) ?_ ?_
     ·clear hp; rcases Zbn bY with ⟨j,hp⟩ | ⟨j,hp⟩
      ·refine ZC rfl j (ZC rfl j (ZC rfl j (ZC rfl j (ZC rfl j (ZC rfl j (zt rfl (ZaS (v:=.b t) rfl j (Eq.trans (b:=V.b true) rfl (congrArg V.b (Option.some.inj hp)))) (Zba ?_)))))))
       exact ⟨rfl,rfl,aC,af,aD,O,aE,ah⟩
      ·refine ZV rfl j (ZaV _ O (ZV rfl j (ZaV _ af (ZV rfl j (ckk hp fun aL hp=>zt rfl (zi (aa.sl 1 rfl) rfl rfl aL) (ZV rfl j (zt rfl (Zdu (aa.sl 1 rfl) rfl (Zg aL)) ?_)))))))
       refine ZV rfl j (zt rfl (Zbu (aa.box 2 rfl) ah rfl) (ZV rfl j (zt rfl (Zpw (as:=ZH.c (gi at_ k_.toNat)) (bs:=ZH.c (⟨(gi z.At i.toNat).tmod 8,((gi z.At i.toNat).tdiv 8).tmod 8⟩:ZD)) rfl rfl (Mu.ZH.same _ _)) (zt rfl (ZaL (v:=.b t) rfl j (Eq.trans (b:=V.b (decide (gi at_ k_.toNat=(⟨(gi z.At i.toNat).tmod 8,((gi z.At i.toNat).tdiv 8).tmod 8⟩:ZD)))) rfl (congrArg V.b (Option.some.inj hp)))) (Zba ?_)))))
       exact ⟨rfl,rfl,aC,af,aD,O,aE,ah⟩
     rintro cq _ ⟨rfl,bG,bC,bD,bE,bF,bH,bI⟩
     refine ZaV _ bG (Zba (Zaa (Zo (zD (Zb _ bD (ckk hp fun bn hp=>Zc (zf rfl rfl bn) (Zb (.n (k_ + 1)) rfl ?_)))))))
     refine Zh ?_
     cases hp
     exact ⟨rfl,bC,bE,bF,bH,bI,rfl,rfl,(aa.pk [0,1,2])⟩
    ·refine Zbo (zK ?_)
     cases hp
     exact ⟨nofun,rfl,aC,aD,O,aE,ah,aY,(ar.pk [0,1,2])⟩
   rintro ⟨at_2,met1⟩ hp _ cP cE ⟨rfl,aU,aV,aW,aX,b6,b7,ac⟩
   refine Zaw (Zo (Zk (Zb _ b7 (Zc (ZcR rfl) (Ze (zC hp rfl (fun a9 hp=>?_) (fun a9 hp=>?_)))))))
   ·refine zD (Zb _ aW (Zc (Zbu (ac.box 2 rfl) b6 rfl) (zw (ac.bsl (E:=ZH) (l:=[(⟨(gi z.At i.toNat).tmod 8,((gi z.At i.toNat).tdiv 8).tmod 8⟩:ZD)]) ac.fr (by rw [(zo (v:=.ag (ZH.c (⟨(gi z.At i.toNat).tmod 8,((gi z.At i.toNat).tdiv 8).tmod 8⟩:ZD))) rfl ZaH)]; rfl) rfl) ?_)))
    rintro ck bZ ⟨cW,cm,ao⟩
    refine ckk hp fun bo hp=>zw (ao.app (bytes:=16) 1 ao.fr rfl (ao.sl 3 rfl:Sl ZH bZ ck [(⟨(gi z.At i.toNat).tmod 8,((gi z.At i.toNat).tdiv 8).tmod 8⟩:ZD)]) rfl rfl (fun _=>rfl) bo (by decide)) ?_
    rintro a2 cu ⟨cn,bL⟩
    refine Zb a2 rfl (Zh (Zaa (Zo (zD (Zb _ aX (ckk hp fun bp hp=>Zc (zf rfl rfl bp) (Zb (.n (i + 1)) rfl ?_)))))))
    refine Zh ?_
    cases hp
    exact ⟨rfl,a2,aU,aV,rfl,rfl,(bL.pk [0,1])⟩
   ·refine Zc1 (Zaa (Zo (zD (Zb _ aX (ckk hp fun bq hp=>Zc (zf rfl rfl bq) (Zb (.n (i + 1)) rfl (Zh ?_)))))))
    cases hp
    exact ⟨rfl,A,aU,aV,aW,rfl,(ac.pk [0,1])⟩
  ·refine Zbo (zK ?_)
   cases hp
   exact ⟨nofun,rfl,A,T,aO,(s.pk [0,1])⟩
 rintro at_1 hp _ cM b1 ⟨rfl,g,b5,aT,aQ⟩
 refine Zaw (Zo (Zk (Zb _ aT (Zc (Zak (aQ.sl 1 rfl) rfl) ?_))))
 obtain ⟨x,⟨cX,cv,br,a3,rfl,bU⟩,hp⟩:=bdk hp fun _=>zh.ok (h:=b1)  
 refine ZaK rfl rfl br ?_
 have bM:=aQ.call bU rfl
 refine Zb a3 rfl (Ze (ZB (Zk (Zb (.n 0) rfl (Ze ?_)))))
 refine zX (Zb7 hp (fun | (at_3,l,i1),fr,k=>∃ D,fr 2=.p a 0∧fr 6=g∧fr 11=D∧fr 12=.n i1∧Own B h k [zV a [v_z_At,v_z_Bits,v_z_Own],eSl ZH g at_3,eSl Zd D l]) (fun | (at_4,l1),e,fr,k=>e=(.exit 4)∧∃ S,fr 6=g∧fr 11=S∧Own B h k [eSl ZH g at_4,eSl Zd S l1]) ⟨a3,b5,aT,rfl,rfl,(bM.pk [0,1,2])⟩ ?_ ?_)
 ·rintro ⟨at_3,l,i1⟩ cS cx ⟨D,ai,aj,aF,P,C⟩ cL hp
  dsimp only [ZT.s2] at hp
  refine ZB (Zk (Zb _ P (Zb _ aj (Zc (Zak (C.sl 1 rfl) rfl) (Zc (zH rfl rfl) (Ze (zC hp rfl (fun ba hp=>?_) (fun ba hp=>?_))))))))
  ·refine Zat (ZB (zX (Zk (Zb (.i .u8 3) rfl (Ze ?_)))))
   refine ZB (Zk (Zb _ P (Zc (zR (r:=a) (o:=0) ai rfl) (Zc (zn (C.box 0 rfl) rfl rfl) (Zc (Zak (C.rd0 s_z_Bits.rd) rfl) (Zc (zH rfl rfl) (Zh ?_)))))))
   refine Zo (Zg4 hp (fun | (at_5,l2,bits),e,fr,k=>e=.normal∧fr 2=.p a 0∧fr 6=g∧fr 11=D∧fr 12=.n i1∧fr 13=.i .u8 bits∧Own B h k [zV a [v_z_At,v_z_Bits,v_z_Own],eSl ZH g at_5,eSl Zd D l2]) (fun _ hp=>?_) ?_)
   ·refine zC hp rfl (fun bb hp=>?_) (fun bb hp=>?_)
    ·refine zD (Zc (zR (r:=a) (o:=0) ai rfl) (Zc (zn (C.box 0 rfl) rfl rfl) (Zb _ P (ckk hp fun aM hp=>Zc (zi (C.rd0 s_z_Bits.rd) rfl rfl aM) (Zc (zS (C.rd0 s_z_Bits.rd) rfl (Zg aM) rfl) (Zb (.i .u8 (gi z.Bits i1.toNat)) rfl (Zh ?_)))))))
     cases hp
     exact ⟨rfl,ai,aj,aF,P,rfl,(C.pk [0,1,2])⟩
    ·refine Zc1 ?_
     cases hp
     exact ⟨rfl,ai,aj,aF,P,rfl,(C.pk [0,1,2])⟩
   rintro ⟨at_5,l2,bits⟩ hp _ cT cy ⟨rfl,Q,aI,aG,L,aH,F⟩
   refine Zo (Zk (Zb _ L (Zb (.n i1) rfl (Ze (ZB (ZB ?_))))))
   refine zD (Zb _ L (Zc (zR (r:=a) (o:=0) Q rfl) (Zc (zn (F.box 0 rfl) rfl rfl) (Zc (Zak (F.rd0 s_z_Own.rd) rfl) (Zc (zH rfl rfl) (Ze (Zg4 hp (fun | (at_6,l3,own),e,fr,k=>e=.normal∧fr 2=.p a 0∧fr 6=g∧fr 11=D∧fr 12=.n i1∧fr 13=.i .u8 bits∧fr 14=.n own∧Own B h k [zV a [v_z_At,v_z_Bits,v_z_Own],eSl ZH g at_6,eSl Zd D l3]) (fun _ hp=>?_) ?_)))))))
   ·refine zC hp rfl (fun bd hp=>?_) (fun bd hp=>?_)
    ·refine Zk (Zc (zR (r:=a) (o:=0) Q rfl) (Zc (zn (F.box 0 rfl) rfl rfl) (Zb _ L (ckk hp fun aJ hp=>Zc (zi (F.rd0 s_z_Own.rd) rfl rfl aJ) (Zc (zS (F.rd0 s_z_Own.rd) rfl (Zg aJ) rfl) (ckk hp fun bf hp=>?_))))))
     refine Zc (Zfe rfl bf) (Zb (.n (gi z.Own i1.toNat)) rfl (Ze (Zk (Zb (.n (gi z.Own i1.toNat)) rfl (Zc (zH rfl rfl) (Zh ?_))))))
     refine Zo (zC hp rfl (fun be hp=>?_) (fun be hp=>?_))
     ·refine zD (Zb (.n (gi z.Own i1.toNat)) rfl (ckk hp fun bg hp=>Zc (Zly rfl bg) (Zb (.n (-(gi z.Own i1.toNat))) rfl (Zh ?_))))
      cases hp
      exact ⟨rfl,Q,aI,aG,L,aH,rfl,(F.pk [0,1,2])⟩
     ·refine Zc1 ?_
      cases hp
      exact ⟨rfl,Q,aI,aG,L,aH,rfl,(F.pk [0,1,2])⟩
    ·refine Zc1 ?_
     cases hp
     exact ⟨rfl,Q,aI,aG,L,aH,rfl,(F.pk [0,1,2])⟩
   rintro ⟨at_6,l3,own⟩ hp _ cU cz ⟨rfl,ce,cf,ca,cb,cc,cd,bO⟩
   refine Zo (Zk (Zb (.n 0) rfl (Ze (zX (Zb7 hp (fun | (l4,d),fr,k=>∃ J,fr 2=.p a 0∧fr 6=g∧fr 11=J∧fr 12=.n i1∧fr 13=.i .u8 bits∧fr 14=.n own∧fr 15=.n d∧Own B h k [zV a [v_z_At,v_z_Bits,v_z_Own],eSl ZH g at_6,eSl Zd J l4]) (fun l5 e fr k=>e=(.exit 6)∧∃ ak,fr 2=.p a 0∧fr 6=g∧fr 11=ak∧fr 12=.n i1∧Own B h k [zV a [v_z_At,v_z_Bits,v_z_Own],eSl ZH g at_6,eSl Zd ak l5]) ⟨D,ce,cf,ca,cb,cc,cd,rfl,(bO.pk [0,1,2])⟩ ?_ ?_)))))
   ·rintro ⟨l4,d⟩ cN b0 ⟨J,ax,ae,av,ad,aw,aS,N,ap⟩ cI hp
    dsimp only [ZT.s3] at hp
    refine ZB (Zk (Zb _ N (Zc (zH rfl rfl) (Ze (zC hp rfl (fun a4 hp=>?_) (fun a4 hp=>?_))))))
    ·refine Zat (ZB (zX (Zk (Zb _ ae (Zb _ ad (Zb _ N ?_))))))
     obtain ⟨x1,⟨cY,aR,bt,rfl,bV⟩,hp⟩:=bdk hp fun _=>zl.ok (h:=b0)  (ap.sl 1 rfl)
     refine ZaK rfl rfl bt ?_
     have ab:=ap.call bV rfl
     refine Zb (.n x1) rfl (Ze (ZB (Zk (Zb _ aw (Zb _ N (ckk hp fun bh hp=>?_))))))
     refine Zc (Zf0 (v:=.i .u8 (zB .u8 bits d)) rfl rfl (by decide) (Zee bh)) (Zc (ZeZ (v:=.i .u8 (ZK .u8 (zB .u8 bits d) 1)) rfl rfl (by decide) rfl) (Zc (Zb0 rfl rfl) (Zb (.b (decide (ZK .u8 (zB .u8 bits d) 1=0))) rfl (Zai 3 (fun f k=>aR=k∧f 119=.b ((decide (ZK .u8 (zB .u8 bits d) 1=0)) || (decide (x1 < 0)))∧f 11=J∧f 12=.n i1∧f 13=.i .u8 bits∧f 14=.n own∧f 15=.n d∧f 16=.n x1∧f 2=.p a 0∧f 6=g) ?_ ?_))))
     ·rcases bc (decide (ZK .u8 (zB .u8 bits d) 1=0)) with H | H
      ·refine Zl rfl H (Zl rfl H (Zc (Zcs (w:=(decide (ZK .u8 (zB .u8 bits d) 1=0)) || (decide (x1 < 0))) rfl H rfl) (Zh ?_)))
       exact ⟨rfl,rfl,av,ad,aw,aS,N,rfl,ax,ae⟩
      ·refine Zu rfl H (Zb (.n x1) rfl (Zu rfl H (Zc (zH rfl rfl) (Zc (Zct rfl H rfl) (Zh ?_)))))
       exact ⟨rfl,rfl,av,ad,aw,aS,N,rfl,ax,ae⟩
     rintro cr _ ⟨rfl,bJ,U,M,am,W,X,aP,an,Y⟩
     refine Ze (zC hp bJ (fun a5 hp=>?_) (fun a5 hp=>?_))
     ·refine Zbo (zK (Zaw (Zo (zD (Zb _ X (ckk hp fun bi hp=>Zc (zf rfl rfl bi) (Zb (.n (d + 1)) rfl ?_)))))))
      refine Zh ?_
      cases hp
      exact ⟨rfl,J,an,Y,U,M,am,W,rfl,(ab.pk [0,1,2])⟩
     ·refine Zat (Zk (Zb _ Y (Zb _ U (Zb _ M (Zb _ aP ?_)))))
      obtain ⟨x2,⟨cZ,b2,bu,rfl,bW⟩,hp⟩:=bdk hp fun _=>zk.ok (h:=aR)  (ab.sl 1 rfl) (ab.sl 2 rfl)
      refine ZaK rfl rfl bu ?_
      have aq:=ab.call bW rfl
      refine Zb (.b x2) rfl (Ze (Zk (Zb (.b x2) rfl (Zc (ZcR rfl) (Ze (zC hp rfl (fun a6 hp=>?_) (fun a6 hp=>?_)))))))
      ·refine zD (Zb _ U (Zb _ M (Zb _ X (Zb _ aP (Zb _ W ?_)))))
       obtain ⟨x3,⟨c0,cB,bv,a0,rfl,bX⟩,hp⟩:=bdk hp fun _=>ZaC.ok (h:=b2)  (aq.sl 2 rfl)
       refine ZaK rfl rfl bv ?_
       have bQ:=aq.call bX rfl
       refine Zb a0 rfl (Zh (Zaa (Zo (zD (Zb _ X (ckk hp fun bj hp=>Zc (zf rfl rfl bj) (Zb (.n (d + 1)) rfl ?_)))))))
       refine Zh ?_
       cases hp
       exact ⟨rfl,a0,an,Y,rfl,M,am,W,rfl,(bQ.pk [0,1,3])⟩
      ·refine Zc1 (Zaa (Zo (zD (Zb _ X (ckk hp fun bk hp=>Zc (zf rfl rfl bk) (Zb (.n (d + 1)) rfl (Zh ?_)))))))
       cases hp
       exact ⟨rfl,J,an,Y,U,M,am,W,rfl,(aq.pk [0,1,2])⟩
    ·refine Zbo (zK ?_)
     cases hp
     exact ⟨nofun,rfl,J,ax,ae,av,ad,(ap.pk [0,1,2])⟩
   rintro l5 hp _ cV cA ⟨rfl,ak,ci,cj,cg,ch,bP⟩
   refine Zaw (Zaa (Zo (zD (Zb _ ch (ckk hp fun bl hp=>Zc (zf rfl rfl bl) (Zb (.n (i1 + 1)) rfl (Zh ?_)))))))
   cases hp
   exact ⟨rfl,ak,ci,cj,cg,rfl,(bP.pk [0,1,2])⟩
  ·refine Zbo (zK ?_)
   cases hp
   exact ⟨nofun,rfl,D,aj,aF,(C.pk [1,2])⟩
 rintro ⟨at_4,l1⟩ hp _ cR cw ⟨rfl,S,b9,b8,bN⟩
 refine Zaw (Zo (Zk (Zb _ b8 (Zb _ b9 (Zb S rfl (Zb g rfl (Zh ?_)))))))
 refine Zo (Zav (z8 (Zag rfl (Zag rfl ZQ)) ?_))
 cases hp
 exact ⟨S,g,rfl,(bN.pk [1,0])⟩

theorem zJ.ok {h:Hp} {z:Zbf} {most:Int} {v_z_Boxes:V} {v_z_Edges:V} {v_z_Bends:V} (s_z_Boxes:Sl e_bool h v_z_Boxes z.Boxes) (s_z_Edges:Sl Zge h v_z_Edges z.Edges) (s_z_Bends:Sl Zhz h v_z_Bends z.Bends) {r:zY} (hp:zJ z most=some r) :
  ∃ u k',Is G 171 [.ag [v_z_Boxes,v_z_Edges,v_z_Bends],.n most] h u k'∧∃ aZ a1,V.ag [aZ,a1]=u∧Own (fun r=>r < h.n) h k' [eSl e_bool aZ r.Boxes,eSl z7 a1 r.Edges]:=by
 refine WC.is (ZaP Zel ?_)
 unfold zJ at hp
 let B:Nat→Prop:=(fun r=>r < h.n)
 have hO:Own B h h []:=Own.start0 h
 refine Zk (zw (hO.boxd (cs:=[v_z_Boxes,v_z_Edges,v_z_Bends]) hO.fr rfl rfl) ?_)
 rintro _ cg ⟨d,rfl,cF,b1,aM⟩
 refine zw (aM.alloc (cs:=[.sn,.sn]) aM.fr) ?_
 rintro _ aQ ⟨y,rfl,cG,b8,aN⟩
 refine Ze (Zk (Zc (Zcx (cs:=[.sn,.sn]) (by rw [ZaH]; simp [fill,over,ZiP,ZiN,ZiO,ZiR,ZiM,ZiQ,(Sl.nil:Sl e_bool aQ .sn ([]:List Bool)).cells,(Sl.nil:Sl z7 aQ .sn ([]:List ZaI)).cells])) (zw (aN.alloc (cs:=[.sn,.sn]) aN.fr) ?_)))
 rintro _ aR ⟨g,rfl,cH,b9,bF⟩
 refine zw (bF.stb (cs':=[.sn,.sn]) 2 rfl rfl rfl rfl ⟨rfl,Nat.le_of_ble_eq_true rfl,(all_cons (Sl.nil:Sl e_bool aR .sn ([]:List Bool)).oneV (all_cons (Sl.nil:Sl z7 aR .sn ([]:List ZaI)).oneV all_nil))⟩ rfl) ?_
 rintro _ cv ⟨rfl,ca,cy,bG⟩
 refine Ze (ZB (Zk (Zb (.n 0) rfl (Ze (zX ?_)))))
 have bI:=bG.nil e_bool
 refine Zb7 hp (fun | (s,i),fr,k=>∃ af,fr 1=.n most∧fr 2=.p d 0∧fr 4=.p y 0∧fr 5=.p g 0∧fr 6=.n i∧Own B h k [zV d [v_z_Boxes,v_z_Edges,v_z_Bends],zV y [.sn,.sn],zV g [af,.sn],eSl e_bool af s]) (fun s1 e fr k=>e=(.exit 0)∧∃ A,fr 1=.n most∧fr 2=.p d 0∧fr 4=.p y 0∧fr 5=.p g 0∧Own B h k [zV d [v_z_Boxes,v_z_Edges,v_z_Bends],zV y [.sn,.sn],zV g [A,.sn],eSl e_bool A s1]) ⟨V.sn,rfl,rfl,rfl,rfl,rfl,(bI.pk [0,1,2,3])⟩ ?_ ?_
 ·rintro ⟨s,i⟩ cN ao ⟨af,ap,aq,aU,aV,ac,O⟩ cJ hp
  dsimp only [zJ.s0] at hp
  refine ZB (Zk (Zb _ ac (Zc (zR (r:=d) (o:=0) aq rfl) (Zc (zn (O.box 0 rfl) rfl rfl) (Zc (Zak (O.rd0 s_z_Boxes.rd) rfl) (Zc (zH rfl rfl) (Zb (.b (decide (i < (z.Boxes.length:Int)))) rfl (Zai 4 (fun f k=>ao=k∧f 20=.b ((decide (i < (z.Boxes.length:Int))) && (decide (i < most)))∧f 1=.n most∧f 2=.p d 0∧f 4=.p y 0∧f 5=.p g 0∧f 6=.n i) ?_ ?_))))))))
  ·rcases bc (decide (i < (z.Boxes.length:Int))) with K | K
   ·refine Zu rfl K (Zb _ ac (Zu rfl K (Zb _ ap (Zu rfl K (Zc (zH rfl rfl) (Zc (ZcY rfl K rfl) (Zh ?_)))))))
    exact ⟨rfl,rfl,ap,aq,aU,aV,ac⟩
   ·refine Zl rfl K (Zl rfl K (Zl rfl K (Zc (ZcX (w:=(decide (i < (z.Boxes.length:Int))) && (decide (i < most))) rfl K rfl) (Zh ?_))))
    exact ⟨rfl,rfl,ap,aq,aU,aV,ac⟩
  rintro cd _ ⟨rfl,bu,aE,ai,aF,W,aG⟩
  refine Ze (zC hp bu (fun a2 hp=>?_) (fun a2 hp=>?_))
  ·refine Zat (ZB (zX (ZfG ?_)))
   have Q:=O.bump 11
   have aB:=Fresh.start ao 11
   have aT:∀ {i:Nat},h.n≤ao.n + i:=Nat.le_trans O.n (Nat.le_add_right _ _)
   refine z4 (zR (r:=g) (o:=0) W rfl) (z4 (zn (Q.box 2 rfl) rfl rfl) (z4 (zR (r:=d) (o:=0) ai rfl) (z4 (zn (Q.box 0 rfl) rfl rfl) (Zbr _ aG (ckk hp fun az hp=>z4 (zi (Q.rd0 s_z_Boxes.rd) rfl rfl az) (z4 (zS (Q.rd0 s_z_Boxes.rd) rfl (Zg az) rfl) (Ze8 (Q.bsl (E:=e_bool) (l:=[gi z.Boxes i.toNat]) ⟨aB.m 7 (by decide) (by decide),aT⟩ (by rw [(zo (v:=.b (gi z.Boxes i.toNat)) rfl ZaH)]; rfl) rfl) ?_)))))))
   rintro cV cx cX ⟨cT,bn,aP⟩
   have aC:=aB.kept bn (by decide)
   refine ckk hp fun bh hp=>Ze8 (aP.app (bytes:=1) 3 ⟨aC.m 8 (by decide) (by decide),aT⟩ rfl (aP.sl 4 rfl) rfl rfl (fun _=>rfl) bh (by decide)) ?_
   rintro ah aS cY ⟨bo,al⟩
   have bs:=aC.kept bo (by decide)
   refine z4 (zR (r:=g) (o:=0) W rfl) (Ze8 (al.stb (cs':=[ah,.sn]) 2 rfl rfl rfl (al.sl 3 rfl:Sl e_bool aS ah (s++[gi z.Boxes i.toNat])).cells ⟨rfl,Nat.le_of_ble_eq_true rfl,(all_cons (al.sl 3 rfl:Sl e_bool aS ah (s++[gi z.Boxes i.toNat])).oneV rfl)⟩ rfl) ?_)
   rintro _ ch cZ ⟨rfl,bp,cz,bx⟩
   have cb:=bs.kept bp (by decide)
   refine ZcA ?_
   refine And.intro ?_ ?_
   ·intro q hq
    simp only [List.mem_cons,List.not_mem_nil,or_false] at hq
    rcases hq with rfl | rfl | rfl
    ·refine Zao ?_ ?_
     ·exact (fun h=>nomatch h)
     ·exact (fun h=>nomatch h)
    ·refine Zao ?_ ?_
     ·exact (fun h=>nomatch h)
     ·exact (fun h=>nomatch h)
    ·refine Zao ?_ ?_
     ·exact (fun h=>nomatch h)
     ·exact (fun _ hm=>Nat.lt_irrefl _ (Nat.lt_of_lt_of_le (O.ltAt 2 rfl _ (tch (Zcp hm) rfl)) (Nat.le_add_right _ _)))
   refine Zaa (Zo (zD (Zb _ aG (ckk hp fun bi hp=>Zc (zf rfl rfl bi) (Zb (.n (i + 1)) rfl (Zh ?_))))))
   cases hp
   exact ⟨rfl,ah,aE,ai,aF,W,rfl,(bx.pk [0,1,2,3])⟩
  ·refine Zbo (zK ?_)
   cases hp
   exact ⟨nofun,rfl,af,aE,ai,aF,W,(O.pk [0,1,2,3])⟩
 rintro s1 hp _ cM cw ⟨rfl,A,bL,bM,bN,bO,bH⟩
 refine Zaw (Zo (ZB (Zk (Zb (.n 0) rfl (Ze (zX ?_))))))
 have bz:=bH.nil z7
 refine Zb7 hp (fun | (s2,i1),fr,k=>∃ J,fr 1=.n most∧fr 2=.p d 0∧fr 4=.p y 0∧fr 5=.p g 0∧fr 7=.n i1∧Own B h k [zV d [v_z_Boxes,v_z_Edges,v_z_Bends],zV y [.sn,.sn],zV g [A,J],eSl e_bool A s1,eSl z7 J s2]) (fun s3 e fr k=>e=(.exit 2)∧∃ T,fr 4=.p y 0∧fr 5=.p g 0∧Own B h k [zV y [.sn,.sn],zV g [A,T],eSl e_bool A s1,eSl z7 T s3]) ⟨V.sn,bL,bM,bN,bO,rfl,(bz.pk [0,1,2,3,4])⟩ ?_ ?_
 ·rintro ⟨s2,i1⟩ cP ab ⟨J,ar,au,aX,aY,ad,j⟩ cK hp
  dsimp only [zJ.s1] at hp
  refine ZB (Zk (Zb _ ad (Zc (zR (r:=d) (o:=0) au rfl) (Zc (zn (j.box 0 rfl) rfl rfl) (Zc (Zak (j.rd0 s_z_Edges.rd) rfl) (Zc (zH rfl rfl) (Zb (.b (decide (i1 < (z.Edges.length:Int)))) rfl ?_)))))))
  obtain ⟨t,bJ,hp⟩:=ZaZ hp
  refine Zai 5 (fun f k=>ab=k∧f 43=.b t∧f 1=.n most∧f 2=.p d 0∧f 4=.p y 0∧f 5=.p g 0∧f 7=.n i1) ?_ ?_
  ·clear hp; rcases Zbn bJ with ⟨D,hp⟩ | ⟨D,hp⟩
   ·refine Zu rfl D (Zb _ ad (Zu rfl D (Zb _ ar (Zu rfl D (ckk hp fun bj hp=>Zc (Zhk rfl rfl bj) (Zu rfl D (Zc (zH rfl rfl) ?_)))))))
    refine Zc (ZaS (v:=.b t) rfl D (Eq.trans (b:=V.b (decide (i1 < (2 * most)))) rfl (congrArg V.b (Option.some.inj hp)))) (Zh ?_)
    exact ⟨rfl,rfl,ar,au,aX,aY,ad⟩
   ·refine Zl rfl D (Zl rfl D (Zl rfl D (Zl rfl D (Zc (ZaL (v:=.b t) rfl D (Eq.trans (b:=V.b false) rfl (congrArg V.b (Option.some.inj hp)))) (Zh ?_)))))
    exact ⟨rfl,rfl,ar,au,aX,aY,ad⟩
  rintro ce _ ⟨rfl,bv,aH,aI,aJ,aj,aK⟩
  refine Zb _ bv (Zai 5 (fun f k=>ab=k∧f 49=.b (t && (decide (0 < (s1.length:Int))))∧f 1=.n most∧f 2=.p d 0∧f 4=.p y 0∧f 5=.p g 0∧f 7=.n i1) ?_ ?_)
  ·rcases bc t with F | F
   ·refine Zu rfl F (Zc (zR (r:=g) (o:=0) aj rfl) (Zu rfl F (Zc (zn (j.box 2 rfl) rfl rfl) (Zu rfl F (Zc (Zak (j.sl 3 rfl) rfl) (Zu rfl F (Zc (ZdC rfl rfl) (Zc (ZcY rfl F rfl) ?_))))))))
    refine Zh ?_
    exact ⟨rfl,rfl,aH,aI,aJ,aj,aK⟩
   ·refine Zl rfl F (Zl rfl F (Zl rfl F (Zl rfl F (Zc (ZcX (w:=t && (decide (0 < (s1.length:Int)))) rfl F rfl) (Zh ?_)))))
    exact ⟨rfl,rfl,aH,aI,aJ,aj,aK⟩
  rintro cf _ ⟨rfl,bw,aL,M,ak,P,N⟩
  refine Ze (zC hp bw (fun a3 hp=>?_) (fun a3 hp=>?_))
  ·refine Zat (ZB (zX (ZB (ZfG ?_))))
   have x:=j.bump 33
   have aD:=Fresh.start ab 33
   have bK:∀ {i:Nat},h.n≤ab.n + i:=Nat.le_trans j.n (Nat.le_add_right _ _)
   refine z4 (zR (r:=d) (o:=0) M rfl) (z4 (zn (x.box 0 rfl) rfl rfl) (Zbr _ N (ckk hp fun C hp=>z4 (zi (x.rd0 s_z_Edges.rd) rfl rfl C) (z4 (Zbj (x.rd0 s_z_Edges.rd) (Zg C) rfl rfl (by decide) rfl) (z4 (zS (x.rd0 s_z_Edges.rd) rfl (Zg C) rfl) (ckk hp fun bk hp=>z4 (Zfe rfl bk) ?_))))))
   refine z4 (zR (r:=g) (o:=0) P rfl) (z4 (zn (x.box 2 rfl) rfl rfl) (z4 (Zak (x.sl 3 rfl) rfl) (ckk hp fun aA hp=>z4 (ZcL rfl rfl aA) (z4 (zR (r:=d) (o:=0) M rfl) (z4 (zn (x.box 0 rfl) rfl rfl) (Zbr _ N (z4 (zi (x.rd0 s_z_Edges.rd) rfl rfl C) ?_)))))))
   refine z4 (Zbj (x.rd0 s_z_Edges.rd) (Zg C) rfl rfl (by decide) rfl) (z4 (zS (x.rd0 s_z_Edges.rd) rfl (Zg C) rfl) (ckk hp fun bl hp=>z4 (Zfe rfl bl) (z4 (zR (r:=g) (o:=0) P rfl) (z4 (zn (x.box 2 rfl) rfl rfl) (z4 (Zak (x.sl 3 rfl) rfl) (z4 (ZcL rfl rfl aA) (z4 (zR (r:=d) (o:=0) M rfl) ?_)))))))
   refine z4 (zn (x.box 0 rfl) rfl rfl) (Zbr _ N (z4 (zi (x.rd0 s_z_Edges.rd) rfl rfl C) (z4 (Zbj (x.rd0 s_z_Edges.rd) (Zg C) rfl rfl (by decide) rfl) (z4 (zS (x.rd0 s_z_Edges.rd) rfl (Zg C) rfl) (ckk hp fun bm hp=>z4 (Zfe rfl bm) (z4 (ZcL rfl rfl (by decide)) (z4 (Zcx (cs:=z7.c (⟨((gi z.Edges i1.toNat).get 0).tmod (s1.length:Int),((gi z.Edges i1.toNat).get 1).tmod (s1.length:Int),((gi z.Edges i1.toNat).get 2).tmod 4,(⟨#[]⟩:ByteArray)⟩:ZaI)) (by rw [(zo (v:=.n (((gi z.Edges i1.toNat).get 0).tmod (s1.length:Int))) rfl (zo (v:=.n (((gi z.Edges i1.toNat).get 1).tmod (s1.length:Int))) rfl (zo (v:=.n (((gi z.Edges i1.toNat).get 2).tmod 4)) rfl ZaH)))]; rfl)) ?_)))))))
   refine Ze8 (x.alloc (cs:=z7.c (⟨0,0,0,(⟨#[]⟩:ByteArray)⟩:ZaI)) ⟨aD.m 31 (by decide) (by decide),bK⟩) ?_
   rintro _ cj c0 ⟨I,rfl,cI,bq,bA⟩
   have bt:=aD.kept bq (by decide)
   refine Ze8 (bA.stb (cs':=z7.c (⟨((gi z.Edges i1.toNat).get 0).tmod (s1.length:Int),((gi z.Edges i1.toNat).get 1).tmod (s1.length:Int),((gi z.Edges i1.toNat).get 2).tmod 4,(⟨#[]⟩:ByteArray)⟩:ZaI)) 5 rfl rfl rfl rfl ⟨rfl,Nat.le_of_ble_eq_true rfl,rfl⟩ rfl) ?_
   rintro _ ck c1 ⟨rfl,br,cA,Y⟩
   have cc:=bt.kept br (by decide)
   refine ZcA ?_
   refine And.intro ?_ ?_
   ·intro q hq
    simp only [List.mem_cons,List.not_mem_nil,or_false] at hq
    rcases hq with rfl | rfl | rfl | rfl | rfl | rfl | rfl | rfl | rfl | rfl | rfl | rfl | rfl | rfl | rfl | rfl | rfl | rfl | rfl | rfl | rfl | rfl | rfl | rfl | rfl | rfl | rfl | rfl | rfl | rfl | rfl | rfl | rfl
    ·refine Zao ?_ ?_
     ·exact (fun h=>nomatch h)
     ·exact (fun h=>nomatch h)
    ·refine Zao ?_ ?_
     ·exact (fun h=>nomatch h)
     ·exact (fun h=>nomatch h)
    ·refine Zao ?_ ?_
     ·exact (fun h=>nomatch h)
     ·exact (fun h=>nomatch h)
    ·refine Zao ?_ ?_
     ·exact (fun h=>nomatch h)
     ·exact (fun h=>nomatch h)
    ·refine Zao ?_ ?_
     ·exact (fun h=>nomatch h)
     ·exact (fun h=>nomatch h)
    ·refine Zao ?_ ?_
     ·exact (fun h=>nomatch h)
     ·exact (fun h=>nomatch h)
    ·refine Zao ?_ ?_
     ·exact (fun h=>nomatch h)
     ·exact (fun h=>nomatch h)
    ·refine Zao ?_ ?_
     ·exact (fun h=>nomatch h)
     ·exact (fun h=>nomatch h)
    ·refine Zao ?_ ?_
     ·exact (fun h=>nomatch h)
     ·exact (fun h=>nomatch h)
    ·refine Zao ?_ ?_
     ·exact (fun h=>nomatch h)
     ·exact (fun h=>nomatch h)
    ·refine Zao ?_ ?_
     ·exact (fun h=>nomatch h)
     ·exact (fun h=>nomatch h)
    ·refine Zao ?_ ?_
     ·exact (fun h=>nomatch h)
     ·exact (fun h=>nomatch h)
    ·refine Zao ?_ ?_
     ·exact (fun h=>nomatch h)
     ·exact (fun h=>nomatch h)
    ·refine Zao ?_ ?_
     ·exact (fun h=>nomatch h)
     ·exact (fun h=>nomatch h)
    ·refine Zao ?_ ?_
     ·exact (fun h=>nomatch h)
     ·exact (fun h=>nomatch h)
    ·refine Zao ?_ ?_
     ·exact (fun h=>nomatch h)
     ·exact (fun h=>nomatch h)
    ·refine Zao ?_ ?_
     ·exact (fun h=>nomatch h)
     ·exact (fun h=>nomatch h)
    ·refine Zao ?_ ?_
     ·exact (fun h=>nomatch h)
     ·exact (fun h=>nomatch h)
    ·refine Zao ?_ ?_
     ·exact (fun h=>nomatch h)
     ·exact (fun h=>nomatch h)
    ·refine Zao ?_ ?_
     ·exact (fun h=>nomatch h)
     ·exact (fun h=>nomatch h)
    ·refine Zao ?_ ?_
     ·exact (fun h=>nomatch h)
     ·exact (fun h=>nomatch h)
    ·refine Zao ?_ ?_
     ·exact (fun h=>nomatch h)
     ·exact (fun h=>nomatch h)
    ·refine Zao ?_ ?_
     ·exact (fun h=>nomatch h)
     ·exact (fun h=>nomatch h)
    ·refine Zao ?_ ?_
     ·exact (fun h=>nomatch h)
     ·exact (fun h=>nomatch h)
    ·refine Zao ?_ ?_
     ·exact (fun h=>nomatch h)
     ·exact (fun h=>nomatch h)
    ·refine Zao ?_ ?_
     ·exact (fun h=>nomatch h)
     ·exact (fun _ hm=>Nat.lt_irrefl _ (Nat.lt_of_lt_of_le (j.ltAt 0 rfl _ (tch (Zcp hm) rfl)) (Nat.le_add_right _ _)))
    ·refine Zao ?_ ?_
     ·exact (fun h=>nomatch h)
     ·exact (fun _ hm=>Nat.lt_irrefl _ (Nat.lt_of_lt_of_le (Nat.lt_of_lt_of_le (j.lo _ (Rd.B s_z_Edges.rd j.lo (Zg C) _ (Zc7 (tch (Zcp hm) rfl)))) j.n) (Nat.le_add_right _ _)))
    ·refine Zao ?_ ?_
     ·exact (fun h=>nomatch h)
     ·exact (fun _ hm=>Nat.lt_irrefl _ (Nat.lt_of_lt_of_le (j.ltAt 2 rfl _ (tch (Zcp hm) rfl)) (Nat.le_add_right _ _)))
    ·refine Zao ?_ ?_
     ·exact (fun h=>nomatch h)
     ·exact (fun _ hm=>Nat.lt_irrefl _ (Nat.lt_of_lt_of_le (j.ltAt 0 rfl _ (tch (Zcp hm) rfl)) (Nat.le_add_right _ _)))
    ·refine Zao ?_ ?_
     ·exact (fun h=>nomatch h)
     ·exact (fun _ hm=>Nat.lt_irrefl _ (Nat.lt_of_lt_of_le (Nat.lt_of_lt_of_le (j.lo _ (Rd.B s_z_Edges.rd j.lo (Zg C) _ (Zc7 (tch (Zcp hm) rfl)))) j.n) (Nat.le_add_right _ _)))
    ·refine Zao ?_ ?_
     ·exact (fun h=>nomatch h)
     ·exact (fun _ hm=>Nat.lt_irrefl _ (Nat.lt_of_lt_of_le (j.ltAt 2 rfl _ (tch (Zcp hm) rfl)) (Nat.le_add_right _ _)))
    ·refine Zao ?_ ?_
     ·exact (fun h=>nomatch h)
     ·exact (fun _ hm=>Nat.lt_irrefl _ (Nat.lt_of_lt_of_le (j.ltAt 0 rfl _ (tch (Zcp hm) rfl)) (Nat.le_add_right _ _)))
    ·refine Zao ?_ ?_
     ·exact (fun h=>nomatch h)
     ·exact (fun _ hm=>Nat.lt_irrefl _ (Nat.lt_of_lt_of_le (Nat.lt_of_lt_of_le (j.lo _ (Rd.B s_z_Edges.rd j.lo (Zg C) _ (Zc7 (tch (Zcp hm) rfl)))) j.n) (Nat.le_add_right _ _)))
   refine Zo (ZB (Zk (Zb _ N (Zc (zR (r:=d) (o:=0) M rfl) (Zc (zn (Y.box 0 rfl) rfl rfl) (Zc (Zak (Y.rd0 s_z_Bends.rd) rfl) (Zc (zH rfl rfl) ?_)))))))
   refine Ze (Zg4 hp (fun e_ e fr k=>e=.normal∧fr 1=.n most∧fr 2=.p d 0∧fr 4=.p y 0∧fr 5=.p g 0∧fr 7=.n i1∧fr 8=.p I 0∧Own B h k [zV d [v_z_Boxes,v_z_Edges,v_z_Bends],zV y [.sn,.sn],zV g [A,J],eSl e_bool A s1,eSl z7 J s2,zV I (z7.c e_)]) (fun _ hp=>?_) ?_)
   ·refine zC hp rfl (fun a4 hp=>?_) (fun a4 hp=>?_)
    ·refine Zk (Zb (.n 0) rfl (Ze (zX (Zb7 hp (fun | (e_1,k_),fr,k=>fr 1=.n most∧fr 2=.p d 0∧fr 4=.p y 0∧fr 5=.p g 0∧fr 7=.n i1∧fr 8=.p I 0∧fr 9=.n k_∧Own B h k [zV d [v_z_Boxes,v_z_Edges,v_z_Bends],zV y [.sn,.sn],zV g [A,J],eSl e_bool A s1,eSl z7 J s2,zV I (z7.c e_1)]) (fun e_2 e fr k=>e=(.exit 4)∧fr 1=.n most∧fr 2=.p d 0∧fr 4=.p y 0∧fr 5=.p g 0∧fr 7=.n i1∧fr 8=.p I 0∧Own B h k [zV d [v_z_Boxes,v_z_Edges,v_z_Bends],zV y [.sn,.sn],zV g [A,J],eSl e_bool A s1,eSl z7 J s2,zV I (z7.c e_2)]) ⟨aL,M,ak,P,N,rfl,rfl,(Y.pk [0,1,2,3,4,5])⟩ ?_ ?_))))
     ·rintro ⟨e_1,k_⟩ cS cn ⟨aw,R,ax,ay,S,L,ae,H⟩ cL hp
      dsimp only [zJ.s2] at hp
      refine ZB (Zk (Zb _ ae (Zc (zR (r:=d) (o:=0) R rfl) (Zc (zn (H.box 0 rfl) rfl rfl) (Zb _ S (ckk hp fun U hp=>Zc (zi (H.rd0 s_z_Bends.rd) rfl rfl U) ?_))))))
      refine Zc (zS (H.rd0 s_z_Bends.rd) rfl (Zg U) rfl) (ckk hp fun a7 hp=>Zc (Zfe rfl a7) (Zc (ZcL rfl rfl (by decide)) (Zc (zH rfl rfl) (Ze (zC hp rfl (fun a5 hp=>?_) (fun a5 hp=>?_))))))
      ·refine Zat (ZB (zX (Zk (Zc (zR (r:=d) (o:=0) R rfl) (Zc (zn (H.box 0 rfl) rfl rfl) (Zb _ S ?_))))))
       refine Zc (zi (H.rd0 s_z_Bends.rd) rfl rfl U) (Zc (zS (H.rd0 s_z_Bends.rd) rfl (Zg U) rfl) (Zb _ ae (ckk hp fun a8 hp=>Zc (zf rfl rfl a8) (ckk hp fun a9 hp=>Zc (Zf0 (v:=.i .u8 (zB .u8 (gi z.Bends i1.toNat) (2 + k_))) rfl rfl (by decide) (Zee a9)) (Zc (ZeZ (v:=.i .u8 (ZK .u8 (zB .u8 (gi z.Bends i1.toNat) (2 + k_)) 1)) rfl rfl (by decide) rfl) (Zc (Zb0 rfl rfl) ?_))))))
       refine Ze (zC hp rfl (fun a6 hp=>?_) (fun a6 hp=>?_))
       ·refine zD (Zc (zR (r:=I) (o:=0) L rfl) (Zc (zn (H.box 5 rfl) rfl rfl) (ckk hp fun ba hp=>Zc (Zl0 (a:=e_1.Bends) (b:=(⟨#[76]⟩:ByteArray)) rfl rfl ba) (Zc (zR (r:=I) (o:=0) L rfl) (zw (H.stb (cs':=z7.c ({ e_1 with Bends:=e_1.Bends++(⟨#[76]⟩:ByteArray) })) 5 rfl rfl rfl rfl ⟨rfl,Nat.le_of_ble_eq_true rfl,rfl⟩ rfl) ?_)))))
        rintro _ co ⟨rfl,b2,cB,bC⟩
        refine Zh (Zaa (Zo (zD (Zb _ ae (ckk hp fun bb hp=>Zc (zf rfl rfl bb) (Zb (.n (k_ + 1)) rfl (Zh ?_)))))))
        cases hp
        exact ⟨rfl,aw,R,ax,ay,S,L,rfl,(bC.pk [0,1,2,3,4,5])⟩
       ·refine zD (Zc (zR (r:=I) (o:=0) L rfl) (Zc (zn (H.box 5 rfl) rfl rfl) (ckk hp fun bd hp=>Zc (Zl0 (a:=e_1.Bends) (b:=(⟨#[82]⟩:ByteArray)) rfl rfl bd) (Zc (zR (r:=I) (o:=0) L rfl) (zw (H.stb (cs':=z7.c ({ e_1 with Bends:=e_1.Bends++(⟨#[82]⟩:ByteArray) })) 5 rfl rfl rfl rfl ⟨rfl,Nat.le_of_ble_eq_true rfl,rfl⟩ rfl) ?_)))))
        rintro _ cp ⟨rfl,b3,cC,bD⟩
        refine Zh (Zaa (Zo (zD (Zb _ ae (ckk hp fun be hp=>Zc (zf rfl rfl be) (Zb (.n (k_ + 1)) rfl (Zh ?_)))))))
        cases hp
        exact ⟨rfl,aw,R,ax,ay,S,L,rfl,(bD.pk [0,1,2,3,4,5])⟩
      ·refine Zbo (zK ?_)
       cases hp
       exact ⟨nofun,rfl,aw,R,ax,ay,S,L,(H.pk [0,1,2,3,4,5])⟩
     rintro e_2 hp _ cR cm ⟨rfl,bV,bW,bX,bY,bZ,b0,bB⟩
     refine Zaw ?_
     cases hp
     exact ⟨rfl,bV,bW,bX,bY,bZ,b0,(bB.pk [0,1,2,3,4,5])⟩
    ·refine Zc1 ?_
     cases hp
     exact ⟨rfl,aL,M,ak,P,N,rfl,(Y.pk [0,1,2,3,4,5])⟩
   rintro e_ hp _ cQ cl ⟨rfl,bQ,bR,bS,av,bT,bU,aa⟩
   refine Zo (zD (Zc (zR (r:=g) (o:=0) av rfl) (Zc (zn (aa.box 2 rfl) rfl rfl) (Zc (Zbu (aa.box 5 rfl) bU rfl) (zw (aa.bsl (E:=z7) (l:=[e_]) aa.fr (by rw [(zo (v:=.ag (z7.c e_)) rfl ZaH)]; rfl) rfl) ?_)))))
   rintro cW cq ⟨cU,b4,am⟩
   refine ckk hp fun bf hp=>zw (am.app (bytes:=40) 4 am.fr rfl (am.sl 6 rfl) rfl rfl (fun _=>rfl) bf (by decide)) ?_
   rintro a0 cr ⟨b5,an⟩
   refine Zc (zR (r:=g) (o:=0) av rfl) (zw (an.stb (cs':=[A,a0]) 2 rfl rfl rfl (an.sl 4 rfl).cells ⟨rfl,Nat.le_of_ble_eq_true rfl,(all_cons (an.sl 4 rfl).oneV rfl)⟩ rfl) ?_)
   rintro _ ct ⟨rfl,b6,cD,bE⟩
   refine Zh (Zaa (Zo (zD (Zb _ bT (ckk hp fun bg hp=>Zc (zf rfl rfl bg) (Zb (.n (i1 + 1)) rfl (Zh ?_)))))))
   cases hp
   exact ⟨rfl,a0,bQ,bR,bS,av,rfl,(bE.pk [0,1,2,3,4])⟩
  ·refine Zbo (zK ?_)
   cases hp
   exact ⟨nofun,rfl,J,ak,P,(j.pk [1,2,3,4])⟩
 rintro s3 hp _ cO ci ⟨rfl,T,aW,bP,X⟩
 refine Zaw (Zo (Zk (Zc (Zbu (X.box 1 rfl) bP rfl) (zw (X.stb (cs':=[A,T]) 0 rfl aW rfl rfl ⟨rfl,Nat.le_of_ble_eq_true rfl,(all_cons (X.sl 2 rfl).oneV (all_cons (X.sl 3 rfl).oneV all_nil))⟩ rfl) ?_))))
 rintro _ cu ⟨rfl,b7,cE,aO⟩
 refine Ze (Zav (z8 (Zgb aW (aO.box 0 rfl) rfl ZQ) ?_))
 cases hp
 exact ⟨A,T,rfl,(aO.pk [2,3])⟩

theorem ZaF.ok {h:Hp} {s:ByteArray}   {r:Bool} (hp:ZaF s=some r) :
  ∃ u k',Is G 217 [.s s] h u k'∧V.b r=u∧Own (fun r=>r < h.n) h k' []:=by
 refine WC.is (ZaP ZdN ?_)
 unfold ZaF at hp
 let B:Nat→Prop:=(fun r=>r < h.n)
 have hO:Own B h h []:=Own.start0 h
 refine Zk (Zb (.b false) rfl (Ze (ZB (Zk (Zb (.n 0) rfl ?_)))))
 refine Ze (zX (Zb7 hp (fun i fr k=>fr 0=.s s∧fr 3=.n i∧Own B h k []) (fun | .inl _,e,fr,k=>e=(.exit 0)∧Own B h k [] | .inr _,e,fr,k=>e=.ret∧fr 2=.b false∧Own B h k []) ⟨rfl,rfl,(hO.pk [])⟩ ?_ ?_))
 ·rintro i I A ⟨d,g,l⟩ F hp
  dsimp only [ZaF.s0] at hp
  refine ZB (Zk (Zb _ g (Zb _ d (Zc (ZhD rfl) (Zc (zH rfl rfl) (Ze (zC hp rfl (fun p hp=>?_) (fun p hp=>?_))))))))
  ·refine Zat (ZB (zX (Zk (Zb _ d (Zb _ g (ckk hp fun m hp=>?_))))))
   refine Zc (Zkz (a:=s) (z:=i) rfl rfl m) (Zc (Zc2 rfl rfl) (Zb (.b (!(decide (sAt s i.toNat=76)))) rfl (Zai 5 (fun f k=>A=k∧f 19=.b ((!(decide (sAt s i.toNat=76))) && (!(decide (sAt s i.toNat=82))))∧f 0=.s s∧f 3=.n i) ?_ ?_)))
   ·rcases bc (!(decide (sAt s i.toNat=76))) with c | c
    ·refine Zu rfl c (Zb _ d (Zu rfl c (Zb _ g (Zu rfl c (Zc (Zkz (a:=s) (z:=i) rfl rfl m) (Zu rfl c (Zc (Zc2 rfl rfl) (Zc (ZcY rfl c rfl) ?_))))))))
     refine Zh ?_
     exact ⟨rfl,rfl,d,g⟩
    ·refine Zl rfl c (Zl rfl c (Zl rfl c (Zl rfl c (Zc (ZcX (w:=(!(decide (sAt s i.toNat=76))) && (!(decide (sAt s i.toNat=82)))) rfl c rfl) (Zh ?_)))))
     exact ⟨rfl,rfl,d,g⟩
   rintro D _ ⟨rfl,x,v,y⟩
   refine Ze (zC hp x (fun q hp=>?_) (fun q hp=>?_))
   ·refine Zk (Zb (.b false) rfl (Ze (Zav (Zbw (zE ?_)))))
    cases hp
    exact ⟨nofun,rfl,rfl,(l.pk [])⟩
   ·refine Zc1 (Zaa (Zo (zD (Zb _ y (ckk hp fun t hp=>Zc (zf rfl rfl t) (Zb (.n (i + 1)) rfl (Zh ?_)))))))
    cases hp
    exact ⟨rfl,v,rfl,(l.pk [])⟩
  ·refine Zbo (zK ?_)
   cases hp
   exact ⟨nofun,rfl,(l.pk [])⟩
 rintro (_ | _) hp _ H E o
 ·obtain ⟨rfl,j⟩:=o
  refine Zaw (Zo (Zk (Zb (.b true) rfl (Ze (Zav (z8 (Zag rfl ZQ) ?_))))))
  cases hp
  exact ⟨rfl,(j.pk [])⟩
 ·obtain ⟨rfl,C,j⟩:=o
  refine Zbw (zE (z8 (Zag C ZQ) ?_))
  cases hp
  exact ⟨rfl,(j.pk [])⟩

end Mu
