/- The code comes to what was worked out. -/
import Derived.Test.YtfdidkebomeiaaaMuDf
import Derived.Test.YtfdidkebomeiaaaMuPa
set_option linter.unusedVariables false
set_option linter.unnecessarySimpa false
set_option linter.unusedSimpArgs false
set_option maxHeartbeats 2000000
set_option maxRecDepth 10000
namespace Mu
open Go (IntKind BinOp UnOp)
theorem zL {x:Za}{i:Int}(h:0≤i∧i<4):(Zd.c x)[0+i.toNat*1]?=some (.n ((x.Next).get i)):=by
 rcases (show i=0∨i=1∨i=2∨i=3 by omega) with rfl|rfl|rfl|rfl<;>rfl
theorem ZcR {x:Za}{i:Int}{w:Int}(h:0≤i∧i<4):over (Zd.c x) (0+i.toNat*1) [.n w]=Zd.c ({ x with Next:=(x.Next).set i w }):=by
 rcases (show i=0∨i=1∨i=2∨i=3 by omega) with rfl|rfl|rfl|rfl<;>rfl
theorem Zc2 {x:Za}{i:Int}(h:0≤i∧i<4):(Zd.c x)[4+i.toNat*1]?=some (.n ((x.Owner).get i)):=by
 rcases (show i=0∨i=1∨i=2∨i=3 by omega) with rfl|rfl|rfl|rfl<;>rfl
theorem Zdg {x:Za}{i:Int}{w:Int}(h:0≤i∧i<4):over (Zd.c x) (4+i.toNat*1) [.n w]=Zd.c ({ x with Owner:=(x.Owner).set i w }):=by
 rcases (show i=0∨i=1∨i=2∨i=3 by omega) with rfl|rfl|rfl|rfl<;>rfl
theorem Zqq {x:A4 Int}{i:Int}(h:0≤i∧i<4):(Zdi.c x)[0+i.toNat*1]?=some (.n ((x).get i)):=by
 rcases (show i=0∨i=1∨i=2∨i=3 by omega) with rfl|rfl|rfl|rfl<;>rfl
theorem Zjg {x:A4 Int}{i:Int}(h:0≤i∧i<4):Zdw false (Zdi.c x) (i.toNat*1) 1=some (.n ((x).get i)):=by
 rcases (show i=0∨i=1∨i=2∨i=3 by omega) with rfl|rfl|rfl|rfl<;>rfl
theorem Zqr {x:A4 Int}{i:Int}{w:Int}(h:0≤i∧i<4):over (Zdi.c x) (0+i.toNat*1) [.n w]=Zdi.c ((x).set i w):=by
 rcases (show i=0∨i=1∨i=2∨i=3 by omega) with rfl|rfl|rfl|rfl<;>rfl
theorem Zqp {x:A2 Int}{i:Int}(h:0≤i∧i<2):(Zbk.c x)[0+i.toNat*1]?=some (.n ((x).get i)):=by
 rcases (show i=0∨i=1 by omega) with rfl|rfl<;>rfl
theorem Zqo {x:A2 Int}{i:Int}(h:0≤i∧i<2):Zdw false (Zbk.c x) (i.toNat*1) 1=some (.n ((x).get i)):=by
 rcases (show i=0∨i=1 by omega) with rfl|rfl<;>rfl
theorem Zjt {x:A2 Int}{i:Int}{w:Int}(h:0≤i∧i<2):over (Zbk.c x) (0+i.toNat*1) [.n w]=Zbk.c ((x).set i w):=by
 rcases (show i=0∨i=1 by omega) with rfl|rfl<;>rfl
theorem ZkV (cs:List Go.Value) (h:OkL [some .u8] cs):∃ x:Int,ZhU.c x=cs.map toV∧ZgT x:=by
 obtain ⟨n0,cs0,rfl,w0,h0⟩:=h.inv_i
 obtain rfl:=h0.inv_n
 exact ⟨n0,rfl,w0⟩
theorem Zp2 (cs:List Go.Value) (h:OkL [some .i8] cs):∃ x:Int,Zmf.c x=cs.map toV∧Zl2 x:=by
 obtain ⟨n0,cs0,rfl,w0,h0⟩:=h.inv_i
 obtain rfl:=h0.inv_n
 exact ⟨n0,rfl,w0⟩
theorem ZmR (cs:List Go.Value) (h:OkL [none] cs):∃ x:Bool,e_bool.c x=cs.map toV∧Zjv x:=by
 obtain ⟨n0,cs0,rfl,h0⟩:=h.inv_b
 obtain rfl:=h0.inv_n
 exact ⟨n0,rfl,trivial⟩
theorem Zme (cs:List Go.Value) (h:OkL [some .u8,some .u8,some .u8] cs):∃ x:A3 Int,ZgJ.c x=cs.map toV∧Zhk x:=by
 obtain ⟨n0,cs0,rfl,w0,h0⟩:=h.inv_i
 obtain ⟨n1,cs1,rfl,w1,h1⟩:=h0.inv_i
 obtain ⟨n2,cs2,rfl,w2,h2⟩:=h1.inv_i
 obtain rfl:=h2.inv_n
 exact ⟨⟨n0,n1,n2⟩,rfl,⟨w0,w1,w2⟩⟩
theorem Zis (cs:List Go.Value) (h:OkL [some .i64,some .i64,some .i64,some .i64,some .i64,some .i64,some .i64,some .i64] cs):∃ x:Za,Zd.c x=cs.map toV∧Zf8 x:=by
 obtain ⟨n0,cs0,rfl,w0,h0⟩:=h.inv_i
 obtain ⟨n1,cs1,rfl,w1,h1⟩:=h0.inv_i
 obtain ⟨n2,cs2,rfl,w2,h2⟩:=h1.inv_i
 obtain ⟨n3,cs3,rfl,w3,h3⟩:=h2.inv_i
 obtain ⟨n4,cs4,rfl,w4,h4⟩:=h3.inv_i
 obtain ⟨n5,cs5,rfl,w5,h5⟩:=h4.inv_i
 obtain ⟨n6,cs6,rfl,w6,h6⟩:=h5.inv_i
 obtain ⟨n7,cs7,rfl,w7,h7⟩:=h6.inv_i
 obtain rfl:=h7.inv_n
 exact ⟨⟨⟨n0,n1,n2,n3⟩,⟨n4,n5,n6,n7⟩⟩,rfl,⟨w0,w1,w2,w3,w4,w5,w6,w7⟩⟩
theorem ZO.ok {h:Hp}{n:Int}   {r:(List Za)}(hp:ZO n=some r) :
  ∃ u k',Is G 46 [.n n] h u k'∧∃ t,t=u∧Own (fun r=>r<h.n) h k' [eSl Zd t r]:=by
 refine WC.is (ZaD ZeZ ?_)
 unfold ZO at hp
 let B:Nat→Prop:=(fun r=>r<h.n)
 have hO:Own B h h []:=Own.start0 h
 refine Zg (Zb (.sn) rfl (Ze (Zg (Zb (.n n) rfl (ckk hp fun A hp=>zQ (hO.mks (E:=Zd) (y:=(⟨⟨0,0,0,0⟩,⟨0,0,0,0⟩⟩:Za)) (bytes:=64) (z:=n) hO.fr rfl rfl rfl A (by decide)) ?_)))))
 rintro a _ ⟨_,_,F⟩
 refine Zb a rfl (Ze (Z9 (Zg (Zb (.n 0) rfl (Ze (Zai (ZbM hp (fun|(l,v),fr,k=>fr 0=.n n∧fr 3=a∧fr 4=.n v∧Own B h k [eSl Zd a l]) (fun l1 e fr k=>e=(.exit 0)∧fr 3=a∧Own B h k [eSl Zd a l1]) ⟨rfl,rfl,rfl,(F.pk [0])⟩ ?_ ?_)))))))
 ·rintro ⟨l,v⟩ _ _ ⟨o,p,q,m⟩ _ hp
  dsimp only [ZO.s0] at hp
  refine Z9 (Zg (Zb _ q (Zb _ o (Zc (zA rfl rfl) (Ze (zu hp rfl (fun w hp=>?_) (fun w hp=>?_)))))))
  ·refine Zak (Z9 (Zai (Zg (Zb (.n 0) rfl (Ze (Zai (ZbM hp (fun|(l2,d),fr,k=>fr 0=.n n∧fr 3=a∧fr 4=.n v∧fr 5=.n d∧Own B h k [eSl Zd a l2]) (fun l3 e fr k=>e=(.exit 2)∧fr 0=.n n∧fr 3=a∧fr 4=.n v∧Own B h k [eSl Zd a l3]) ⟨o,p,q,rfl,(m.pk [0])⟩ ?_ ?_)))))))
   ·rintro ⟨l2,d⟩ _ _ ⟨s,g,i,j,b⟩ _ hp
    dsimp only [ZO.s1] at hp
    refine Z9 (Zg (Zb _ j (Zc (zA rfl rfl) (Ze (zu hp rfl (fun x hp=>?_) (fun x hp=>?_))))))
    ·refine Zak (Z9 (Zai (Zaf (Zb _ g (Zb _ i (Zb _ j (ckk hp fun c hp=>Zc (ZP (b.sl 0 rfl) rfl rfl c) (Zc (ZaR (b.sl 0 rfl) (Zf c) rfl rfl) (ckk hp fun f hp=>Zc (Zbd (b.sl 0 rfl) (Zf c) rfl rfl f rfl) (zQ (b.ste (y:=({ gi l2 v.toNat with Next:=((gi l2 v.toNat).Next).set d (-1) })) 0 rfl rfl (Zf c) rfl rfl ⟨rfl,(by have:=f;exact (show 0+d.toNat*1+1≤8 by omega)),rfl⟩ (ZcR f)) ?_))))))))))
     rintro _ _ ⟨rfl,_,_,J⟩
     refine Zj (Zam (Zt (Zaf (Zb _ j (ckk hp fun C hp=>Zc (ZV rfl rfl C) (Zb (.n (d+1)) rfl (Zj ?_)))))))
     cases hp
     exact ⟨rfl,s,g,i,rfl,(J.pk [0])⟩
    ·refine Zb8 (zW ?_)
     cases hp
     exact ⟨nofun,rfl,s,g,i,(b.pk [0])⟩
   rintro l3 hp _ _ _ ⟨rfl,L,M,N,I⟩
   refine Za9 (Zam (Zt (Zaf (Zb _ N (ckk hp fun D hp=>Zc (ZV rfl rfl D) (Zb (.n (v+1)) rfl (Zj ?_)))))))
   cases hp
   exact ⟨rfl,L,M,rfl,(I.pk [0])⟩
  ·refine Zb8 (zW ?_)
   cases hp
   exact ⟨nofun,rfl,p,(m.pk [0])⟩
 rintro l1 hp _ _ _ ⟨rfl,K,H⟩
 refine Za9 (Zt (Zg (Zb _ K (Zb a rfl (Ze (zK (ZN (ZY rfl Z6) ?_)))))))
 cases hp
 exact ⟨a,rfl,(H.pk [0])⟩

theorem zm.ok {h:Hp}{at_:List Z3}{i:Int}{d:Int}{v_at_:V}(s_at_:Sl ZE h v_at_ at_) {r:Int}(hp:zm at_ i d=some r) :
  ∃ u k',Is G 63 [v_at_,.n i,.n d] h u k'∧V.n r=u∧Own (fun r=>r<h.n) h k' []:=by
 refine WC.is (ZaD ZdT ?_)
 unfold zm at hp
 let B:Nat→Prop:=(fun r=>r<h.n)
 have hO:Own B h h []:=Own.start0 h
 refine Zg (Zb (.n 0) rfl (Ze (Zg (Zb (.n (-1)) rfl (Ze (Z9 (Zg (Zb (.n 0) rfl ?_))))))))
 refine Ze (Zai (ZbM hp (fun|(best,k_),fr,k=>fr 0=v_at_∧fr 1=.n i∧fr 2=.n d∧fr 7=.n best∧fr 8=.n k_∧Own B h k []) (fun best1 e fr k=>e=(.exit 0)∧fr 7=.n best1∧Own B h k []) ⟨rfl,rfl,rfl,rfl,rfl,(hO.pk [])⟩ ?_ ?_))
 ·rintro ⟨best,k_⟩ _ I ⟨C,an,ao,ap,K,am⟩ _ hp
  dsimp only [zm.s0] at hp
  refine Z9 (Zg (Zb _ K (Zb _ C (Zc (Zap (am.rd0 s_at_.rd) rfl) (Zc (zA rfl rfl) (Ze (zu hp rfl (fun aG hp=>?_) (fun aG hp=>?_))))))))
  ·refine Zak (Z9 (Zai (Z9 (Z9 (Zhl ?_)))))
   have o:=am.bump 45
   refine ZaK _ ao (za rfl (Zb7 rfl rfl) (ZaK (.b (decide (d=0))) rfl ?_))
   obtain ⟨t,a9,hp⟩:=ZaP hp
   refine Zdm 12 (fun f k=>(I.bump 45)=k∧f 29=.b t∧f 0=v_at_∧f 1=.n i∧f 2=.n d∧f 7=.n best∧f 8=.n k_) ?_ ?_
   ·clear hp;rcases Zbi a9 with ⟨c,hp⟩|⟨c,hp⟩
    ·refine ZU rfl c (ZaK _ C (ZU rfl c (ZaK _ K (ZU rfl c (ckk hp fun M hp=>za rfl (ZP (o.rd0 s_at_.rd) rfl rfl M) (ZU rfl c (za rfl (ZaR (o.rd0 s_at_.rd) (Zf M) rfl rfl) (ZU rfl c (za rfl (zw (o.rd0 s_at_.rd) rfl (Zf M) rfl) (ZU rfl c (ZaK _ C (ZU rfl c ?_))))))))))))
     refine ZaK _ an (ZU rfl c (ckk hp fun Q hp=>za rfl (ZP (o.rd0 s_at_.rd) rfl rfl Q) (ZU rfl c (za rfl (ZaR (o.rd0 s_at_.rd) (Zf Q) rfl rfl) (ZU rfl c (za rfl (zw (o.rd0 s_at_.rd) rfl (Zf Q) rfl) (ZU rfl c (za rfl (Zb7 rfl rfl) (za rfl (ZaT (v:=.b t) rfl c (Eq.trans (b:=V.b (decide ((gi at_ k_.toNat).Y=(gi at_ i.toNat).Y))) rfl (congrArg V.b (Option.some.inj hp)))) (Zba ?_))))))))))
     exact ⟨rfl,rfl,C,an,ao,ap,K⟩
    ·refine ZB rfl c (ZB rfl c (ZB rfl c (ZB rfl c (ZB rfl c (ZB rfl c (ZB rfl c (ZB rfl c (ZB rfl c (ZB rfl c (ZB rfl c (za rfl (ZaI (v:=.b t) rfl c (Eq.trans (b:=V.b false) rfl (congrArg V.b (Option.some.inj hp)))) (Zba ?_))))))))))))
     exact ⟨rfl,rfl,C,an,ao,ap,K⟩
   rintro _ _ ⟨rfl,aL,D,ac,av,aw,ad⟩
   refine ZaK _ aL ?_
   obtain ⟨t1,ba,hp⟩:=ZaP hp
   refine Zdm 12 (fun f k=>(I.bump 45)=k∧f 42=.b t1∧f 0=v_at_∧f 1=.n i∧f 2=.n d∧f 7=.n best∧f 8=.n k_) ?_ ?_
   ·clear hp;rcases Zbi ba with ⟨g,hp⟩|⟨g,hp⟩
    ·refine ZU rfl g (ZaK _ D (ZU rfl g (ZaK _ ad (ZU rfl g (ckk hp fun R hp=>za rfl (ZP (o.rd0 s_at_.rd) rfl rfl R) (ZU rfl g (za rfl (ZaR (o.rd0 s_at_.rd) (Zf R) rfl rfl) (ZU rfl g (za rfl (zw (o.rd0 s_at_.rd) rfl (Zf R) rfl) (ZU rfl g (ZaK _ D (ZU rfl g ?_))))))))))))
     refine ZaK _ ac (ZU rfl g (ckk hp fun S hp=>za rfl (ZP (o.rd0 s_at_.rd) rfl rfl S) (ZU rfl g (za rfl (ZaR (o.rd0 s_at_.rd) (Zf S) rfl rfl) (ZU rfl g (za rfl (zw (o.rd0 s_at_.rd) rfl (Zf S) rfl) (ZU rfl g (za rfl (Zd1 rfl rfl) (za rfl (ZaT (v:=.b t1) rfl g (Eq.trans (b:=V.b (decide (((gi at_ i.toNat).X)<((gi at_ k_.toNat).X)))) rfl (congrArg V.b (Option.some.inj hp)))) (Zba ?_))))))))))
     exact ⟨rfl,rfl,D,ac,av,aw,ad⟩
    ·refine ZB rfl g (ZB rfl g (ZB rfl g (ZB rfl g (ZB rfl g (ZB rfl g (ZB rfl g (ZB rfl g (ZB rfl g (ZB rfl g (ZB rfl g (za rfl (ZaI (v:=.b t1) rfl g (Eq.trans (b:=V.b false) rfl (congrArg V.b (Option.some.inj hp)))) (Zba ?_))))))))))))
     exact ⟨rfl,rfl,D,ac,av,aw,ad⟩
   rintro _ _ ⟨rfl,aM,w,ae,af,x,E⟩
   refine ZaK _ aM ?_
   obtain ⟨t2,bb,hp⟩:=ZaP hp
   refine Zdm 16 (fun f k=>(I.bump 45)=k∧f 59=.b t2∧f 0=v_at_∧f 1=.n i∧f 2=.n d∧f 7=.n best∧f 8=.n k_) ?_ ?_
   ·clear hp;rcases Zbi bb with ⟨q,hp⟩|⟨q,hp⟩
    ·refine ZU rfl q (ZaK _ x (ZU rfl q (za rfl (zA rfl rfl) (ZU rfl q (ZaK (.b (decide (best<0))) rfl ?_)))))
     obtain ⟨t3,bc,hp⟩:=ZaP hp
     refine Zdm 12 (fun f k=>(I.bump 45)=k∧f 58=.b t3∧f 0=v_at_∧f 1=.n i∧f 2=.n d∧f 43=.b t1∧f 7=.n best∧f 8=.n k_) ?_ ?_
     ·clear hp;rcases Zbi bc with ⟨j,hp⟩|⟨j,hp⟩
      ·refine ZB rfl j (ZB rfl j (ZB rfl j (ZB rfl j (ZB rfl j (ZB rfl j (ZB rfl j (ZB rfl j (ZB rfl j (ZB rfl j (ZB rfl j (ZU rfl q (za rfl (ZaT (v:=.b t3) rfl j (Eq.trans (b:=V.b true) rfl (congrArg V.b (Option.some.inj hp)))) (Zba ?_)))))))))))))
       exact ⟨rfl,rfl,w,ae,af,rfl,x,E⟩
      ·refine ZU rfl j (ZaK _ w (ZU rfl j (ZaK _ E (ZU rfl j (ckk hp fun T hp=>za rfl (ZP (o.rd0 s_at_.rd) rfl rfl T) (ZU rfl j (za rfl (ZaR (o.rd0 s_at_.rd) (Zf T) rfl rfl) (ZU rfl j (za rfl (zw (o.rd0 s_at_.rd) rfl (Zf T) rfl) (ZU rfl j (ZaK _ w (ZU rfl j ?_))))))))))))
       refine ZaK _ x (ZU rfl j (ckk hp fun U hp=>za rfl (ZP (o.rd0 s_at_.rd) rfl rfl U) (ZU rfl j (za rfl (ZaR (o.rd0 s_at_.rd) (Zf U) rfl rfl) (ZU rfl j (za rfl (zw (o.rd0 s_at_.rd) rfl (Zf U) rfl) (ZU rfl j (za rfl (zA rfl rfl) (ZU rfl q (za rfl (ZaI (v:=.b t3) rfl j (Eq.trans (b:=V.b (decide (((gi at_ k_.toNat).X)<((gi at_ best.toNat).X)))) rfl (congrArg V.b (Option.some.inj hp)))) (Zba ?_)))))))))))
       exact ⟨rfl,rfl,w,ae,af,rfl,x,E⟩
     rintro _ _ ⟨rfl,aR,aN,aO,aP,aQ,aS,aT⟩
     refine za rfl (ZaT (v:=.b t2) aQ q (Eq.trans (b:=V.b t3) aR (congrArg V.b (Option.some.inj hp)))) (Zba ?_)
     exact ⟨rfl,rfl,aN,aO,aP,aS,aT⟩
    ·refine ZB rfl q (ZB rfl q (ZB rfl q (ZdJ rfl (ZdJ rfl (ZdJ rfl (ZdJ rfl (ZdJ rfl (ZdJ rfl (ZdJ rfl (ZdJ rfl (ZdJ rfl (ZdJ rfl (ZdJ rfl ?_)))))))))))))
     refine ZB rfl q (za rfl (ZaI (v:=.b t2) rfl q (Eq.trans (b:=V.b false) rfl (congrArg V.b (Option.some.inj hp)))) (Zba ?_))
     exact ⟨rfl,rfl,w,ae,af,x,E⟩
   rintro _ _ ⟨rfl,aU,ax,ay,az,aV,ag⟩
   refine Zba (Zt (Zii hp (fun best2 e fr k=>e=.normal∧fr 0=v_at_∧fr 1=.n i∧fr 2=.n d∧fr 7=.n best2∧fr 8=.n k_∧Own B h k []) (fun _ hp=>?_) ?_))
   ·refine zu hp aU (fun aI hp=>?_) (fun aI hp=>?_)
    ·refine Zaf (Zb _ ag (Zb (.n k_) rfl (Zj ?_)))
     cases hp
     exact ⟨rfl,ax,ay,az,rfl,ag,(o.pk [])⟩
    ·refine ZcB ?_
     cases hp
     exact ⟨rfl,ax,ay,az,aV,ag,(o.pk [])⟩
   rintro best2 hp _ _ J ⟨rfl,L,aq,ar,aF,au,a8⟩
   refine Zt (Z9 (Zhl ?_))
   have p:=a8.bump 45
   refine ZaK _ ar (za rfl (Zb7 rfl rfl) (ZaK (.b (decide (d=1))) rfl ?_))
   obtain ⟨t4,bd,hp⟩:=ZaP hp
   refine Zdm 12 (fun f k=>(J.bump 45)=k∧f 75=.b t4∧f 0=v_at_∧f 1=.n i∧f 2=.n d∧f 7=.n best2∧f 8=.n k_) ?_ ?_
   ·clear hp;rcases Zbi bd with ⟨l,hp⟩|⟨l,hp⟩
    ·refine ZU rfl l (ZaK _ L (ZU rfl l (ZaK _ au (ZU rfl l (ckk hp fun W hp=>za rfl (ZP (p.rd0 s_at_.rd) rfl rfl W) (ZU rfl l (za rfl (ZaR (p.rd0 s_at_.rd) (Zf W) rfl rfl) (ZU rfl l (za rfl (zw (p.rd0 s_at_.rd) rfl (Zf W) rfl) (ZU rfl l (ZaK _ L (ZU rfl l ?_))))))))))))
     refine ZaK _ aq (ZU rfl l (ckk hp fun aa hp=>za rfl (ZP (p.rd0 s_at_.rd) rfl rfl aa) (ZU rfl l (za rfl (ZaR (p.rd0 s_at_.rd) (Zf aa) rfl rfl) (ZU rfl l (za rfl (zw (p.rd0 s_at_.rd) rfl (Zf aa) rfl) (ZU rfl l (za rfl (Zb7 rfl rfl) (za rfl (ZaT (v:=.b t4) rfl l (Eq.trans (b:=V.b (decide ((gi at_ k_.toNat).X=(gi at_ i.toNat).X))) rfl (congrArg V.b (Option.some.inj hp)))) (Zba ?_))))))))))
     exact ⟨rfl,rfl,L,aq,ar,aF,au⟩
    ·refine ZB rfl l (ZB rfl l (ZB rfl l (ZB rfl l (ZB rfl l (ZB rfl l (ZB rfl l (ZB rfl l (ZB rfl l (ZB rfl l (ZB rfl l (za rfl (ZaI (v:=.b t4) rfl l (Eq.trans (b:=V.b false) rfl (congrArg V.b (Option.some.inj hp)))) (Zba ?_))))))))))))
     exact ⟨rfl,rfl,L,aq,ar,aF,au⟩
   rintro _ _ ⟨rfl,aW,F,ah,aA,aB,ai⟩
   refine ZaK _ aW ?_
   obtain ⟨t5,be,hp⟩:=ZaP hp
   refine Zdm 12 (fun f k=>(J.bump 45)=k∧f 88=.b t5∧f 0=v_at_∧f 1=.n i∧f 2=.n d∧f 7=.n best2∧f 8=.n k_) ?_ ?_
   ·clear hp;rcases Zbi be with ⟨m,hp⟩|⟨m,hp⟩
    ·refine ZU rfl m (ZaK _ F (ZU rfl m (ZaK _ ai (ZU rfl m (ckk hp fun ab hp=>za rfl (ZP (p.rd0 s_at_.rd) rfl rfl ab) (ZU rfl m (za rfl (ZaR (p.rd0 s_at_.rd) (Zf ab) rfl rfl) (ZU rfl m (za rfl (zw (p.rd0 s_at_.rd) rfl (Zf ab) rfl) (ZU rfl m (ZaK _ F (ZU rfl m ?_))))))))))))
     refine ZaK _ ah (ZU rfl m (ckk hp fun N hp=>za rfl (ZP (p.rd0 s_at_.rd) rfl rfl N) (ZU rfl m (za rfl (ZaR (p.rd0 s_at_.rd) (Zf N) rfl rfl) (ZU rfl m (za rfl (zw (p.rd0 s_at_.rd) rfl (Zf N) rfl) (ZU rfl m (za rfl (Zd1 rfl rfl) (za rfl (ZaT (v:=.b t5) rfl m (Eq.trans (b:=V.b (decide (((gi at_ i.toNat).Y)<((gi at_ k_.toNat).Y)))) rfl (congrArg V.b (Option.some.inj hp)))) (Zba ?_))))))))))
     exact ⟨rfl,rfl,F,ah,aA,aB,ai⟩
    ·refine ZB rfl m (ZB rfl m (ZB rfl m (ZB rfl m (ZB rfl m (ZB rfl m (ZB rfl m (ZB rfl m (ZB rfl m (ZB rfl m (ZB rfl m (za rfl (ZaI (v:=.b t5) rfl m (Eq.trans (b:=V.b false) rfl (congrArg V.b (Option.some.inj hp)))) (Zba ?_))))))))))))
     exact ⟨rfl,rfl,F,ah,aA,aB,ai⟩
   rintro _ _ ⟨rfl,aX,y,aj,ak,A,H⟩
   refine ZaK _ aX ?_
   obtain ⟨t6,bf,hp⟩:=ZaP hp
   refine Zdm 16 (fun f k=>(J.bump 45)=k∧f 105=.b t6∧f 0=v_at_∧f 1=.n i∧f 2=.n d∧f 7=.n best2∧f 8=.n k_) ?_ ?_
   ·clear hp;rcases Zbi bf with ⟨s,hp⟩|⟨s,hp⟩
    ·refine ZU rfl s (ZaK _ A (ZU rfl s (za rfl (zA rfl rfl) (ZU rfl s (ZaK (.b (decide (best2<0))) rfl ?_)))))
     obtain ⟨t7,bg,hp⟩:=ZaP hp
     refine Zdm 12 (fun f k=>(J.bump 45)=k∧f 104=.b t7∧f 0=v_at_∧f 1=.n i∧f 2=.n d∧f 7=.n best2∧f 8=.n k_∧f 89=.b t5) ?_ ?_
     ·clear hp;rcases Zbi bg with ⟨a,hp⟩|⟨a,hp⟩
      ·refine ZB rfl a (ZB rfl a (ZB rfl a (ZB rfl a (ZB rfl a (ZB rfl a (ZB rfl a (ZB rfl a (ZB rfl a (ZB rfl a (ZB rfl a (ZU rfl s (za rfl (ZaT (v:=.b t7) rfl a (Eq.trans (b:=V.b true) rfl (congrArg V.b (Option.some.inj hp)))) (Zba ?_)))))))))))))
       exact ⟨rfl,rfl,y,aj,ak,A,H,rfl⟩
      ·refine ZU rfl a (ZaK _ y (ZU rfl a (ZaK _ H (ZU rfl a (ckk hp fun O hp=>za rfl (ZP (p.rd0 s_at_.rd) rfl rfl O) (ZU rfl a (za rfl (ZaR (p.rd0 s_at_.rd) (Zf O) rfl rfl) (ZU rfl a (za rfl (zw (p.rd0 s_at_.rd) rfl (Zf O) rfl) (ZU rfl a (ZaK _ y (ZU rfl a ?_))))))))))))
       refine ZaK _ A (ZU rfl a (ckk hp fun P hp=>za rfl (ZP (p.rd0 s_at_.rd) rfl rfl P) (ZU rfl a (za rfl (ZaR (p.rd0 s_at_.rd) (Zf P) rfl rfl) (ZU rfl a (za rfl (zw (p.rd0 s_at_.rd) rfl (Zf P) rfl) (ZU rfl a (za rfl (zA rfl rfl) (ZU rfl s (za rfl (ZaI (v:=.b t7) rfl a (Eq.trans (b:=V.b (decide (((gi at_ k_.toNat).Y)<((gi at_ best2.toNat).Y)))) rfl (congrArg V.b (Option.some.inj hp)))) (Zba ?_)))))))))))
       exact ⟨rfl,rfl,y,aj,ak,A,H,rfl⟩
     rintro _ _ ⟨rfl,a0,aY,aZ,a1,a2,a3,a4⟩
     refine za rfl (ZaT (v:=.b t6) a4 s (Eq.trans (b:=V.b t7) a0 (congrArg V.b (Option.some.inj hp)))) (Zba ?_)
     exact ⟨rfl,rfl,aY,aZ,a1,a2,a3⟩
    ·refine ZB rfl s (ZB rfl s (ZB rfl s (ZdJ rfl (ZdJ rfl (ZdJ rfl (ZdJ rfl (ZdJ rfl (ZdJ rfl (ZdJ rfl (ZdJ rfl (ZdJ rfl (ZdJ rfl (ZdJ rfl ?_)))))))))))))
     refine ZB rfl s (za rfl (ZaI (v:=.b t6) rfl s (Eq.trans (b:=V.b false) rfl (congrArg V.b (Option.some.inj hp)))) (Zba ?_))
     exact ⟨rfl,rfl,y,aj,ak,A,H⟩
   rintro _ _ ⟨rfl,a5,aC,aD,aE,a6,al⟩
   refine Zba (Zt (zu hp a5 (fun aH hp=>?_) (fun aH hp=>?_)))
   ·refine Zaf (Zb _ al (Zb (.n k_) rfl (Zj (Zam (Zt (Zaf (Zb _ al (ckk hp fun aJ hp=>Zc (ZV rfl rfl aJ) (Zb (.n (k_+1)) rfl (Zj ?_))))))))))
    cases hp
    exact ⟨rfl,aC,aD,aE,rfl,rfl,(p.pk [])⟩
   ·refine ZcB (Zam (Zt (Zaf (Zb _ al (ckk hp fun aK hp=>Zc (ZV rfl rfl aK) (Zb (.n (k_+1)) rfl (Zj ?_)))))))
    cases hp
    exact ⟨rfl,aC,aD,aE,a6,rfl,(p.pk [])⟩
  ·refine Zb8 (zW ?_)
   cases hp
   exact ⟨nofun,rfl,ap,(am.pk [])⟩
 rintro best1 hp _ _ _ ⟨rfl,bh,a7⟩
 refine Za9 (Zt (Zg (Zb _ bh (Zb (.n best1) rfl (Ze (zK (ZN (ZY rfl Z6) ?_)))))))
 cases hp
 exact ⟨rfl,(a7.pk [])⟩

theorem zl.ok {h:Hp}{at_:List Z3}{l:List Za}{i:Int}{w:Int}{v_at_:V}{v_l:V}(s_at_:Sl ZE h v_at_ at_) (s_l:Sl Zd h v_l l) {r:Bool}(hp:zl at_ l i w=some r) :
  ∃ u k',Is G 64 [v_at_,v_l,.n i,.n w] h u k'∧V.b r=u∧Own (fun r=>r<h.n) h k' []:=by
 refine WC.is (ZaD ZdS ?_)
 unfold zl at hp
 let B:Nat→Prop:=(fun r=>r<h.n)
 have hO:Own B h h []:=Own.start0 h
 refine Zg (Zb (.b false) rfl (Ze (Z9 (Zg (Zb (.n 0) rfl (Ze (Zai (ZbM hp (fun a fr k=>fr 0=v_at_∧fr 1=v_l∧fr 2=.n i∧fr 3=.n w∧fr 9=.n a∧Own B h k []) (fun|.inl _,e,fr,k=>e=(.exit 0)∧Own B h k []|.inr _,e,fr,k=>e=.ret∧fr 8=.b true∧Own B h k []) ⟨rfl,rfl,rfl,rfl,rfl,(hO.pk [])⟩ ?_ ?_))))))))
 ·rintro a _ _ ⟨ch,bB,ci,cj,bC,aN⟩ _ hp
  dsimp only [zl.s0] at hp
  refine Z9 (Zg (Zb _ bC (Zb _ bB (Zc (Zap (aN.rd0 s_l.rd) rfl) (Zc (zA rfl rfl) (Ze (zu hp rfl (fun bD hp=>?_) (fun bD hp=>?_))))))))
  ·refine Zak (Z9 (Zai (Zg (Zb (.n 0) rfl (Ze (Zai (ZbM hp (fun d fr k=>fr 0=v_at_∧fr 1=v_l∧fr 2=.n i∧fr 3=.n w∧fr 9=.n a∧fr 10=.n d∧Own B h k []) (fun|.inl _,e,fr,k=>e=(.exit 2)∧fr 0=v_at_∧fr 1=v_l∧fr 2=.n i∧fr 3=.n w∧fr 9=.n a∧Own B h k []|.inr _,e,fr,k=>e=.ret∧fr 8=.b true∧Own B h k []) ⟨ch,bB,ci,cj,bC,rfl,(aN.pk [])⟩ ?_ ?_)))))))
   ·rintro d _ _ ⟨L,N,P,Q,M,O,K⟩ _ hp
    dsimp only [zl.s1] at hp
    refine Z9 (Zg (Zb _ O (Zc (zA rfl rfl) (Ze (zu hp rfl (fun bF hp=>?_) (fun bF hp=>?_))))))
    ·refine Zak (Z9 (Zai (Zg (Zb _ N (Zb _ M (Zb _ O (ckk hp fun R hp=>Zc (ZP (K.rd0 s_l.rd) rfl rfl R) (Zc (ZaR (K.rd0 s_l.rd) (Zf R) rfl rfl) (ckk hp fun aP hp=>Zc (Zbd (K.rd0 s_l.rd) (Zf R) rfl rfl aP rfl) ?_)))))))))
     refine Zc (zw (K.rd0 s_l.rd) rfl (Zf R) (zL aP)) (Zb (.n (((gi l a.toNat).Next).get d)) rfl (Ze (Z9 (Zg (Zb (.n (((gi l a.toNat).Next).get d)) rfl (Zc (zA rfl rfl) (Ze (zu hp rfl (fun bG hp=>?_) (fun bG hp=>?_)))))))))
     ·refine Zb8 (zW (Za9 (Zt (Zaf (Zb _ O (ckk hp fun bK hp=>Zc (ZV rfl rfl bK) (Zb (.n (d+1)) rfl (Zj ?_))))))))
      cases hp
      exact ⟨rfl,L,N,P,Q,M,rfl,(K.pk [])⟩
     ·refine Zak (Zg (Zb _ L (Zb _ M (ckk hp fun aQ hp=>Zc (ZP (K.rd0 s_at_.rd) rfl rfl aQ) (Zc (Zfm (K.rd0 s_at_.rd) rfl (Zf aQ)) (zQ (K.alloc (cs:=ZE.c (⟨0,0⟩:Z3)) K.fr) ?_))))))
      rintro _ _ ⟨I,rfl,_,_,b3⟩
      refine zQ (b3.stb (cs':=ZE.c (gi at_ a.toNat)) 0 rfl rfl rfl rfl ⟨rfl,Nat.le_of_ble_eq_true rfl,rfl⟩ rfl) ?_
      rintro _ _ ⟨rfl,_,_,T⟩
      refine Ze (Zg (Zb _ L (Zb (.n (((gi l a.toNat).Next).get d)) rfl (ckk hp fun aR hp=>Zc (ZP (T.rd0 s_at_.rd) rfl rfl aR) (Zc (Zfm (T.rd0 s_at_.rd) rfl (Zf aR)) (zQ (T.alloc (cs:=ZE.c (⟨0,0⟩:Z3)) T.fr) ?_))))))
      rintro _ _ ⟨J,rfl,_,_,b4⟩
      refine zQ (b4.stb (cs':=ZE.c (gi at_ (((gi l a.toNat).Next).get d:Int).toNat)) 1 rfl rfl rfl rfl ⟨rfl,Nat.le_of_ble_eq_true rfl,rfl⟩ rfl) ?_
      rintro _ g ⟨rfl,_,_,b5⟩
      refine Ze (Z9 (Z9 (Zhl ?_)))
      have m:=b5.bump 58
      refine za rfl (Zal (r:=I) (o:=0) rfl rfl) (za rfl (zy (m.box 0 rfl) rfl rfl) (za rfl (Zal (r:=J) (o:=0) rfl rfl) (za rfl (zy (m.box 1 rfl) rfl rfl) (za rfl (Zb7 rfl rfl) (ZaK (.b (decide ((gi at_ a.toNat).Y=(gi at_ (((gi l a.toNat).Next).get d:Int).toNat).Y))) rfl ?_)))))
      obtain ⟨t,b6,hp⟩:=ZaP hp
      refine Zdm 12 (fun f k=>(g.bump 58)=k∧f 58=.b t∧f 0=v_at_∧f 1=v_l∧f 10=.n d∧f 12=.p I 0∧f 13=.p J 0∧f 2=.n i∧f 3=.n w∧f 9=.n a) ?_ ?_
      ·clear hp;rcases Zbi b6 with ⟨s,hp⟩|⟨s,hp⟩
       ·refine ZU rfl s (ZaK _ L (ZU rfl s (ZaK _ P (ZU rfl s (ckk hp fun ag hp=>za rfl (ZP (m.rd0 s_at_.rd) rfl rfl ag) (ZU rfl s (za rfl (ZaR (m.rd0 s_at_.rd) (Zf ag) rfl rfl) (ZU rfl s (za rfl (zw (m.rd0 s_at_.rd) rfl (Zf ag) rfl) (ZU rfl s (ZaK _ L (ZU rfl s ?_))))))))))))
        refine ZaK _ Q (ZU rfl s (ckk hp fun ah hp=>za rfl (ZP (m.rd0 s_at_.rd) rfl rfl ah) (ZU rfl s (za rfl (ZaR (m.rd0 s_at_.rd) (Zf ah) rfl rfl) (ZU rfl s (za rfl (zw (m.rd0 s_at_.rd) rfl (Zf ah) rfl) (ZU rfl s (za rfl (Zb7 rfl rfl) (za rfl (ZaT (v:=.b t) rfl s (Eq.trans (b:=V.b (decide ((gi at_ i.toNat).X=(gi at_ w.toNat).X))) rfl (congrArg V.b (Option.some.inj hp)))) (Zba ?_))))))))))
        exact ⟨rfl,rfl,L,N,O,rfl,rfl,P,Q,M⟩
       ·refine ZB rfl s (ZB rfl s (ZB rfl s (ZB rfl s (ZB rfl s (ZB rfl s (ZB rfl s (ZB rfl s (ZB rfl s (ZB rfl s (ZB rfl s (za rfl (ZaI (v:=.b t) rfl s (Eq.trans (b:=V.b false) rfl (congrArg V.b (Option.some.inj hp)))) (Zba ?_))))))))))))
        exact ⟨rfl,rfl,L,N,O,rfl,rfl,P,Q,M⟩
      rintro _ _ ⟨rfl,bS,ak,aS,aT,al,aU,am,aV,aW⟩
      refine ZaK _ bS ?_
      obtain ⟨t1,b8,hp⟩:=ZaP hp
      refine Zdm 9 (fun f k=>(g.bump 58)=k∧f 68=.b t1∧f 0=v_at_∧f 1=v_l∧f 10=.n d∧f 12=.p I 0∧f 13=.p J 0∧f 2=.n i∧f 3=.n w∧f 9=.n a) ?_ ?_
      ·clear hp;rcases Zbi b8 with ⟨D,hp⟩|⟨D,hp⟩
       ·refine ZU rfl D (za rfl (Zal (r:=I) (o:=0) al rfl) (ZU rfl D (za rfl (zy (m.box 0 rfl) rfl rfl) (ZU rfl D (ZaK _ ak (ZU rfl D (ZaK _ am (ZU rfl D (ckk hp fun ai hp=>za rfl (ZP (m.rd0 s_at_.rd) rfl rfl ai) (ZU rfl D (za rfl (ZaR (m.rd0 s_at_.rd) (Zf ai) rfl rfl) (ZU rfl D ?_))))))))))))
        refine za rfl (zw (m.rd0 s_at_.rd) rfl (Zf ai) rfl) (ZU rfl D (za rfl (zA rfl rfl) (za rfl (ZaT (v:=.b t1) rfl D (Eq.trans (b:=V.b (decide (((gi at_ a.toNat).X)<((gi at_ i.toNat).X)))) rfl (congrArg V.b (Option.some.inj hp)))) (Zba ?_))))
        exact ⟨rfl,rfl,ak,aS,aT,al,aU,am,aV,aW⟩
       ·refine ZB rfl D (ZB rfl D (ZB rfl D (ZB rfl D (ZB rfl D (ZB rfl D (ZB rfl D (ZB rfl D (za rfl (ZaI (v:=.b t1) rfl D (Eq.trans (b:=V.b false) rfl (congrArg V.b (Option.some.inj hp)))) (Zba ?_)))))))))
        exact ⟨rfl,rfl,ak,aS,aT,al,aU,am,aV,aW⟩
      rintro _ _ ⟨rfl,bT,an,aX,aY,aZ,ao,ap,a0,a1⟩
      refine ZaK _ bT ?_
      obtain ⟨t2,b9,hp⟩:=ZaP hp
      refine Zdm 9 (fun f k=>(g.bump 58)=k∧f 78=.b t2∧f 0=v_at_∧f 1=v_l∧f 10=.n d∧f 12=.p I 0∧f 13=.p J 0∧f 2=.n i∧f 3=.n w∧f 9=.n a) ?_ ?_
      ·clear hp;rcases Zbi b9 with ⟨E,hp⟩|⟨E,hp⟩
       ·refine ZU rfl E (ZaK _ an (ZU rfl E (ZaK _ ap (ZU rfl E (ckk hp fun aj hp=>za rfl (ZP (m.rd0 s_at_.rd) rfl rfl aj) (ZU rfl E (za rfl (ZaR (m.rd0 s_at_.rd) (Zf aj) rfl rfl) (ZU rfl E (za rfl (zw (m.rd0 s_at_.rd) rfl (Zf aj) rfl) (ZU rfl E (za rfl (Zal (r:=J) (o:=0) ao rfl) (ZU rfl E ?_))))))))))))
        refine za rfl (zy (m.box 1 rfl) rfl rfl) (ZU rfl E (za rfl (zA rfl rfl) (za rfl (ZaT (v:=.b t2) rfl E (Eq.trans (b:=V.b (decide (((gi at_ i.toNat).X)<((gi at_ (((gi l a.toNat).Next).get d:Int).toNat).X)))) rfl (congrArg V.b (Option.some.inj hp)))) (Zba ?_))))
        exact ⟨rfl,rfl,an,aX,aY,aZ,ao,ap,a0,a1⟩
       ·refine ZB rfl E (ZB rfl E (ZB rfl E (ZB rfl E (ZB rfl E (ZB rfl E (ZB rfl E (ZB rfl E (za rfl (ZaI (v:=.b t2) rfl E (Eq.trans (b:=V.b false) rfl (congrArg V.b (Option.some.inj hp)))) (Zba ?_)))))))))
        exact ⟨rfl,rfl,an,aX,aY,aZ,ao,ap,a0,a1⟩
      rintro _ _ ⟨rfl,bU,aq,a2,a3,ar,a4,au,a5,a6⟩
      refine ZaK _ bU ?_
      obtain ⟨t3,ca,hp⟩:=ZaP hp
      refine Zdm 9 (fun f k=>(g.bump 58)=k∧f 88=.b t3∧f 0=v_at_∧f 1=v_l∧f 10=.n d∧f 12=.p I 0∧f 13=.p J 0∧f 2=.n i∧f 3=.n w∧f 9=.n a) ?_ ?_
      ·clear hp;rcases Zbi ca with ⟨F,hp⟩|⟨F,hp⟩
       ·refine ZU rfl F (ZaK _ aq (ZU rfl F (ZaK _ au (ZU rfl F (ckk hp fun U hp=>za rfl (ZP (m.rd0 s_at_.rd) rfl rfl U) (ZU rfl F (za rfl (ZaR (m.rd0 s_at_.rd) (Zf U) rfl rfl) (ZU rfl F (za rfl (zw (m.rd0 s_at_.rd) rfl (Zf U) rfl) (ZU rfl F (za rfl (Zal (r:=I) (o:=0) ar rfl) (ZU rfl F ?_))))))))))))
        refine za rfl (zy (m.box 0 rfl) rfl rfl) (ZU rfl F (za rfl (zA rfl rfl) (za rfl (ZaT (v:=.b t3) rfl F (Eq.trans (b:=V.b (decide (((gi at_ i.toNat).Y)<((gi at_ a.toNat).Y)))) rfl (congrArg V.b (Option.some.inj hp)))) (Zba ?_))))
        exact ⟨rfl,rfl,aq,a2,a3,ar,a4,au,a5,a6⟩
       ·refine ZB rfl F (ZB rfl F (ZB rfl F (ZB rfl F (ZB rfl F (ZB rfl F (ZB rfl F (ZB rfl F (za rfl (ZaI (v:=.b t3) rfl F (Eq.trans (b:=V.b false) rfl (congrArg V.b (Option.some.inj hp)))) (Zba ?_)))))))))
        exact ⟨rfl,rfl,aq,a2,a3,ar,a4,au,a5,a6⟩
      rintro _ _ ⟨rfl,bV,av,a7,a8,aw,a9,ba,ax,bb⟩
      refine ZaK _ bV ?_
      obtain ⟨t4,cb,hp⟩:=ZaP hp
      refine Zdm 9 (fun f k=>(g.bump 58)=k∧f 98=.b t4∧f 0=v_at_∧f 1=v_l∧f 10=.n d∧f 12=.p I 0∧f 13=.p J 0∧f 2=.n i∧f 3=.n w∧f 9=.n a) ?_ ?_
      ·clear hp;rcases Zbi cb with ⟨H,hp⟩|⟨H,hp⟩
       ·refine ZU rfl H (za rfl (Zal (r:=I) (o:=0) aw rfl) (ZU rfl H (za rfl (zy (m.box 0 rfl) rfl rfl) (ZU rfl H (ZaK _ av (ZU rfl H (ZaK _ ax (ZU rfl H (ckk hp fun W hp=>za rfl (ZP (m.rd0 s_at_.rd) rfl rfl W) (ZU rfl H (za rfl (ZaR (m.rd0 s_at_.rd) (Zf W) rfl rfl) (ZU rfl H ?_))))))))))))
        refine za rfl (zw (m.rd0 s_at_.rd) rfl (Zf W) rfl) (ZU rfl H (za rfl (zA rfl rfl) (za rfl (ZaT (v:=.b t4) rfl H (Eq.trans (b:=V.b (decide (((gi at_ a.toNat).Y)<((gi at_ w.toNat).Y)))) rfl (congrArg V.b (Option.some.inj hp)))) (Zba ?_))))
        exact ⟨rfl,rfl,av,a7,a8,aw,a9,ba,ax,bb⟩
       ·refine ZB rfl H (ZB rfl H (ZB rfl H (ZB rfl H (ZB rfl H (ZB rfl H (ZB rfl H (ZB rfl H (za rfl (ZaI (v:=.b t4) rfl H (Eq.trans (b:=V.b false) rfl (congrArg V.b (Option.some.inj hp)))) (Zba ?_)))))))))
        exact ⟨rfl,rfl,av,a7,a8,aw,a9,ba,ax,bb⟩
      rintro _ _ ⟨rfl,bW,S,bc,bd,ay,az,aA,aB,be⟩
      refine Zba (Zt (zu hp bW (fun bH hp=>?_) (fun bH hp=>?_)))
      ·refine Zg (Zb (.b true) rfl (Ze (zK (ZI (ZaZ (ZI ?_))))))
       cases hp
       exact ⟨nofun,rfl,rfl,(m.pk [])⟩
      ·refine Zak (Z9 (Zhl ?_))
       have j:=m.bump 58
       refine za rfl (Zal (r:=I) (o:=0) ay rfl) (za rfl (zy (j.box 0 rfl) rfl rfl) (za rfl (Zal (r:=J) (o:=0) az rfl) (za rfl (zy (j.box 1 rfl) rfl rfl) (za rfl (Zb7 rfl rfl) (ZaK (.b (decide ((gi at_ a.toNat).X=(gi at_ (((gi l a.toNat).Next).get d:Int).toNat).X))) rfl ?_)))))
       obtain ⟨t5,cc,hp⟩:=ZaP hp
       refine Zdm 12 (fun f k=>((g.bump 58).bump 58)=k∧f 116=.b t5∧f 0=v_at_∧f 1=v_l∧f 10=.n d∧f 12=.p I 0∧f 13=.p J 0∧f 2=.n i∧f 3=.n w∧f 9=.n a) ?_ ?_
       ·clear hp;rcases Zbi cc with ⟨q,hp⟩|⟨q,hp⟩
        ·refine ZU rfl q (ZaK _ S (ZU rfl q (ZaK _ aA (ZU rfl q (ckk hp fun aa hp=>za rfl (ZP (j.rd0 s_at_.rd:Sl ZE ((g.bump 58).bump 58) v_at_ at_) rfl rfl aa) (ZU rfl q (za rfl (ZaR (j.rd0 s_at_.rd:Sl ZE ((g.bump 58).bump 58) v_at_ at_) (Zf aa) rfl rfl) (ZU rfl q (za rfl (zw (j.rd0 s_at_.rd:Sl ZE ((g.bump 58).bump 58) v_at_ at_) rfl (Zf aa) rfl) (ZU rfl q (ZaK _ S (ZU rfl q ?_))))))))))))
         refine ZaK _ aB (ZU rfl q (ckk hp fun ab hp=>za rfl (ZP (j.rd0 s_at_.rd:Sl ZE ((g.bump 58).bump 58) v_at_ at_) rfl rfl ab) (ZU rfl q (za rfl (ZaR (j.rd0 s_at_.rd:Sl ZE ((g.bump 58).bump 58) v_at_ at_) (Zf ab) rfl rfl) (ZU rfl q (za rfl (zw (j.rd0 s_at_.rd:Sl ZE ((g.bump 58).bump 58) v_at_ at_) rfl (Zf ab) rfl) (ZU rfl q (za rfl (Zb7 rfl rfl) (za rfl (ZaT (v:=.b t5) rfl q (Eq.trans (b:=V.b (decide ((gi at_ i.toNat).Y=(gi at_ w.toNat).Y))) rfl (congrArg V.b (Option.some.inj hp)))) (Zba ?_))))))))))
         exact ⟨rfl,rfl,S,bc,bd,ay,az,aA,aB,be⟩
        ·refine ZB rfl q (ZB rfl q (ZB rfl q (ZB rfl q (ZB rfl q (ZB rfl q (ZB rfl q (ZB rfl q (ZB rfl q (ZB rfl q (ZB rfl q (za rfl (ZaI (v:=.b t5) rfl q (Eq.trans (b:=V.b false) rfl (congrArg V.b (Option.some.inj hp)))) (Zba ?_))))))))))))
         exact ⟨rfl,rfl,S,bc,bd,ay,az,aA,aB,be⟩
       rintro _ _ ⟨rfl,bX,aC,bf,bg,aD,bh,aE,bi,bj⟩
       refine ZaK _ bX ?_
       obtain ⟨t6,cd,hp⟩:=ZaP hp
       refine Zdm 9 (fun f k=>((g.bump 58).bump 58)=k∧f 126=.b t6∧f 0=v_at_∧f 1=v_l∧f 10=.n d∧f 12=.p I 0∧f 13=.p J 0∧f 2=.n i∧f 3=.n w∧f 9=.n a) ?_ ?_
       ·clear hp;rcases Zbi cd with ⟨x,hp⟩|⟨x,hp⟩
        ·refine ZU rfl x (ZaK _ aC (ZU rfl x (ZaK _ aE (ZU rfl x (ckk hp fun ac hp=>za rfl (ZP (j.rd0 s_at_.rd:Sl ZE ((g.bump 58).bump 58) v_at_ at_) rfl rfl ac) (ZU rfl x (za rfl (ZaR (j.rd0 s_at_.rd:Sl ZE ((g.bump 58).bump 58) v_at_ at_) (Zf ac) rfl rfl) (ZU rfl x (za rfl (zw (j.rd0 s_at_.rd:Sl ZE ((g.bump 58).bump 58) v_at_ at_) rfl (Zf ac) rfl) (ZU rfl x (za rfl (Zal (r:=I) (o:=0) aD rfl) (ZU rfl x ?_))))))))))))
         refine za rfl (zy (j.box 0 rfl) rfl rfl) (ZU rfl x (za rfl (zA rfl rfl) (za rfl (ZaT (v:=.b t6) rfl x (Eq.trans (b:=V.b (decide (((gi at_ i.toNat).X)<((gi at_ a.toNat).X)))) rfl (congrArg V.b (Option.some.inj hp)))) (Zba ?_))))
         exact ⟨rfl,rfl,aC,bf,bg,aD,bh,aE,bi,bj⟩
        ·refine ZB rfl x (ZB rfl x (ZB rfl x (ZB rfl x (ZB rfl x (ZB rfl x (ZB rfl x (ZB rfl x (za rfl (ZaI (v:=.b t6) rfl x (Eq.trans (b:=V.b false) rfl (congrArg V.b (Option.some.inj hp)))) (Zba ?_)))))))))
         exact ⟨rfl,rfl,aC,bf,bg,aD,bh,aE,bi,bj⟩
       rintro _ _ ⟨rfl,bY,aF,bk,bl,aG,bm,bn,aH,bo⟩
       refine ZaK _ bY ?_
       obtain ⟨t7,ce,hp⟩:=ZaP hp
       refine Zdm 9 (fun f k=>((g.bump 58).bump 58)=k∧f 136=.b t7∧f 0=v_at_∧f 1=v_l∧f 10=.n d∧f 12=.p I 0∧f 13=.p J 0∧f 2=.n i∧f 3=.n w∧f 9=.n a) ?_ ?_
       ·clear hp;rcases Zbi ce with ⟨y,hp⟩|⟨y,hp⟩
        ·refine ZU rfl y (za rfl (Zal (r:=I) (o:=0) aG rfl) (ZU rfl y (za rfl (zy (j.box 0 rfl) rfl rfl) (ZU rfl y (ZaK _ aF (ZU rfl y (ZaK _ aH (ZU rfl y (ckk hp fun ad hp=>za rfl (ZP (j.rd0 s_at_.rd:Sl ZE ((g.bump 58).bump 58) v_at_ at_) rfl rfl ad) (ZU rfl y (za rfl (ZaR (j.rd0 s_at_.rd:Sl ZE ((g.bump 58).bump 58) v_at_ at_) (Zf ad) rfl rfl) (ZU rfl y ?_))))))))))))
         refine za rfl (zw (j.rd0 s_at_.rd:Sl ZE ((g.bump 58).bump 58) v_at_ at_) rfl (Zf ad) rfl) (ZU rfl y (za rfl (zA rfl rfl) (za rfl (ZaT (v:=.b t7) rfl y (Eq.trans (b:=V.b (decide (((gi at_ a.toNat).X)<((gi at_ w.toNat).X)))) rfl (congrArg V.b (Option.some.inj hp)))) (Zba ?_))))
         exact ⟨rfl,rfl,aF,bk,bl,aG,bm,bn,aH,bo⟩
        ·refine ZB rfl y (ZB rfl y (ZB rfl y (ZB rfl y (ZB rfl y (ZB rfl y (ZB rfl y (ZB rfl y (za rfl (ZaI (v:=.b t7) rfl y (Eq.trans (b:=V.b false) rfl (congrArg V.b (Option.some.inj hp)))) (Zba ?_)))))))))
         exact ⟨rfl,rfl,aF,bk,bl,aG,bm,bn,aH,bo⟩
       rintro _ _ ⟨rfl,b0,aI,bp,bq,bZ,br,aJ,bs,bt⟩
       refine ZaK _ b0 ?_
       obtain ⟨t8,cf,hp⟩:=ZaP hp
       refine Zdm 9 (fun f k=>((g.bump 58).bump 58)=k∧f 146=.b t8∧f 0=v_at_∧f 1=v_l∧f 10=.n d∧f 13=.p J 0∧f 2=.n i∧f 3=.n w∧f 9=.n a) ?_ ?_
       ·clear hp;rcases Zbi cf with ⟨A,hp⟩|⟨A,hp⟩
        ·refine ZU rfl A (za rfl (Zal (r:=I) (o:=0) bZ rfl) (ZU rfl A (za rfl (zy (j.box 0 rfl) rfl rfl) (ZU rfl A (ZaK _ aI (ZU rfl A (ZaK _ aJ (ZU rfl A (ckk hp fun ae hp=>za rfl (ZP (j.rd0 s_at_.rd:Sl ZE ((g.bump 58).bump 58) v_at_ at_) rfl rfl ae) (ZU rfl A (za rfl (ZaR (j.rd0 s_at_.rd:Sl ZE ((g.bump 58).bump 58) v_at_ at_) (Zf ae) rfl rfl) (ZU rfl A ?_))))))))))))
         refine za rfl (zw (j.rd0 s_at_.rd:Sl ZE ((g.bump 58).bump 58) v_at_ at_) rfl (Zf ae) rfl) (ZU rfl A (za rfl (zA rfl rfl) (za rfl (ZaT (v:=.b t8) rfl A (Eq.trans (b:=V.b (decide (((gi at_ a.toNat).Y)<((gi at_ i.toNat).Y)))) rfl (congrArg V.b (Option.some.inj hp)))) (Zba ?_))))
         exact ⟨rfl,rfl,aI,bp,bq,br,aJ,bs,bt⟩
        ·refine ZB rfl A (ZB rfl A (ZB rfl A (ZB rfl A (ZB rfl A (ZB rfl A (ZB rfl A (ZB rfl A (za rfl (ZaI (v:=.b t8) rfl A (Eq.trans (b:=V.b false) rfl (congrArg V.b (Option.some.inj hp)))) (Zba ?_)))))))))
         exact ⟨rfl,rfl,aI,bp,bq,br,aJ,bs,bt⟩
       rintro _ _ ⟨rfl,b2,aK,bu,bv,b1,aL,bw,bx⟩
       refine ZaK _ b2 ?_
       obtain ⟨t9,b7,hp⟩:=ZaP hp
       refine Zdm 9 (fun f k=>((g.bump 58).bump 58)=k∧f 156=.b t9∧f 0=v_at_∧f 1=v_l∧f 10=.n d∧f 2=.n i∧f 3=.n w∧f 9=.n a) ?_ ?_
       ·clear hp;rcases Zbi b7 with ⟨C,hp⟩|⟨C,hp⟩
        ·refine ZU rfl C (ZaK _ aK (ZU rfl C (ZaK _ aL (ZU rfl C (ckk hp fun af hp=>za rfl (ZP (j.rd0 s_at_.rd:Sl ZE ((g.bump 58).bump 58) v_at_ at_) rfl rfl af) (ZU rfl C (za rfl (ZaR (j.rd0 s_at_.rd:Sl ZE ((g.bump 58).bump 58) v_at_ at_) (Zf af) rfl rfl) (ZU rfl C (za rfl (zw (j.rd0 s_at_.rd:Sl ZE ((g.bump 58).bump 58) v_at_ at_) rfl (Zf af) rfl) (ZU rfl C (za rfl (Zal (r:=J) (o:=0) b1 rfl) (ZU rfl C ?_))))))))))))
         refine za rfl (zy (j.box 1 rfl) rfl rfl) (ZU rfl C (za rfl (zA rfl rfl) (za rfl (ZaT (v:=.b t9) rfl C (Eq.trans (b:=V.b (decide (((gi at_ i.toNat).Y)<((gi at_ (((gi l a.toNat).Next).get d:Int).toNat).Y)))) rfl (congrArg V.b (Option.some.inj hp)))) (Zba ?_))))
         exact ⟨rfl,rfl,aK,bu,bv,aL,bw,bx⟩
        ·refine ZB rfl C (ZB rfl C (ZB rfl C (ZB rfl C (ZB rfl C (ZB rfl C (ZB rfl C (ZB rfl C (za rfl (ZaI (v:=.b t9) rfl C (Eq.trans (b:=V.b false) rfl (congrArg V.b (Option.some.inj hp)))) (Zba ?_)))))))))
         exact ⟨rfl,rfl,aK,bu,bv,aL,bw,bx⟩
       rintro _ _ ⟨rfl,bO,bL,bM,bN,bP,bQ,bR⟩
       refine Zba (Zt (zu hp bO (fun bE hp=>?_) (fun bE hp=>?_)))
       ·refine Zg (Zb (.b true) rfl (Ze (zK (ZaZ (ZI ?_)))))
        cases hp
        exact ⟨nofun,rfl,rfl,(j.pk [])⟩
       ·refine ZcB (Zam (Zt (Zaf (Zb _ bN (ckk hp fun bI hp=>Zc (ZV rfl rfl bI) (Zb (.n (d+1)) rfl (Zj ?_)))))))
        cases hp
        exact ⟨rfl,bL,bM,bP,bQ,bR,rfl,(j.pk [])⟩
    ·refine Zb8 (zW ?_)
     cases hp
     exact ⟨nofun,rfl,L,N,P,Q,M,(K.pk [])⟩
   rintro (_|_) hp _ _ _ bA
   ·obtain ⟨rfl,ck,cl,cm,cn,cp,aO⟩:=bA
    refine Za9 (Zam (Zt (Zaf (Zb _ cp (ckk hp fun bJ hp=>Zc (ZV rfl rfl bJ) (Zb (.n (a+1)) rfl (Zj ?_)))))))
    cases hp
    exact ⟨rfl,ck,cl,cm,cn,rfl,(aO.pk [])⟩
   ·obtain ⟨rfl,co,aO⟩:=bA
    refine ZaZ (ZaZ (ZI ?_))
    cases hp
    exact ⟨nofun,rfl,co,(aO.pk [])⟩
  ·refine Zb8 (zW ?_)
   cases hp
   exact ⟨nofun,rfl,(aN.pk [])⟩
 rintro (_|_) hp _ _ _ bz
 ·obtain ⟨rfl,aM⟩:=bz
  refine Za9 (Zt (Zg (Zb (.b false) rfl (Ze (zK (ZN (ZY rfl Z6) ?_))))))
  cases hp
  exact ⟨rfl,(aM.pk [])⟩
 ·obtain ⟨rfl,cg,aM⟩:=bz
  refine ZaZ (ZI (ZN (ZY cg Z6) ?_))
  cases hp
  exact ⟨rfl,(aM.pk [])⟩

theorem Zae.ok {h:Hp}{l:List Za}{v:Int}{d:Int}{w:Int}{o:Int}{v_l:V}(s_l:Sl Zd h v_l l) {r:(List Za)}(hp:Zae l v d w o=some r) :
  ∃ u k',Is G 65 [v_l,.n v,.n d,.n w,.n o] h u k'∧∃ U,U=u∧Own (fun r=>r<h.n) h k' [eSl Zd U r]:=by
 refine WC.is (ZaD ZeJ ?_)
 unfold Zae at hp
 let B:Nat→Prop:=(fun r=>r<h.n)
 have hO:Own B h h []:=Own.start0 h
 refine Zg (Zb (.sn) rfl (Ze (Zg (Zb (.sn) rfl (Ze (Z9 (Zg (Zb (.n 0) rfl ?_))))))))
 refine Ze (Zai ?_)
 have ak:=hO.nil Zd
 refine ZbM hp (fun|(out,i),fr,k=>∃ j,fr 0=v_l∧fr 1=.n v∧fr 2=.n d∧fr 3=.n w∧fr 4=.n o∧fr 11=j∧fr 12=.n i∧Own B h k [eSl Zd j out]) (fun out1 e fr k=>e=(.exit 0)∧∃ q,fr 11=q∧Own B h k [eSl Zd q out1]) ⟨V.sn,rfl,rfl,rfl,rfl,rfl,rfl,rfl,(ak.pk [0])⟩ ?_ ?_
 ·rintro ⟨out,i⟩ _ _ ⟨j,t,H,x,J,K,I,m,f⟩ _ hp
  dsimp only [Zae.s0] at hp
  refine Z9 (Zg (Zb _ m (Zb _ t (Zc (Zap (f.rd0 s_l.rd) rfl) (Zc (zA rfl rfl) (Ze (zu hp rfl (fun Y hp=>?_) (fun Y hp=>?_))))))))
  ·refine Zak (Z9 (Zai (Zg (Zb _ t (Zb _ m (ckk hp fun P hp=>Zc (ZP (f.rd0 s_l.rd) rfl rfl P) (Zc (Zfm (f.rd0 s_l.rd) rfl (Zf P)) (zQ (f.alloc (cs:=Zd.c (⟨⟨0,0,0,0⟩,⟨0,0,0,0⟩⟩:Za)) f.fr) ?_))))))))
   rintro _ _ ⟨g,rfl,_,_,al⟩
   refine zQ (al.stb (cs':=Zd.c (gi l i.toNat)) 1 rfl rfl rfl rfl ⟨rfl,Nat.le_of_ble_eq_true rfl,rfl⟩ rfl) ?_
   rintro _ _ ⟨rfl,_,_,R⟩
   refine Ze (Z9 (Zg (Zb _ m (Zb _ H (Zc (Zb7 rfl rfl) (Ze (Zii hp (fun c e fr k=>e=.normal∧fr 0=v_l∧fr 1=.n v∧fr 2=.n d∧fr 3=.n w∧fr 4=.n o∧fr 11=j∧fr 12=.n i∧fr 13=.p g 0∧Own B h k [eSl Zd j out,zO g (Zd.c c)]) (fun _ hp=>?_) ?_)))))))
   ·refine zu hp rfl (fun aa hp=>?_) (fun aa hp=>?_)
    ·refine Zg (Zb _ x (Zb _ J (Zc (Zal (r:=g) (o:=0) rfl rfl) (ckk hp fun a hp=>Zc (Zjx (o:=0) (o':=(0+d.toNat*1)) rfl rfl a rfl) (zQ (R.stb (cs':=Zd.c ({ gi l i.toNat with Next:=((gi l i.toNat).Next).set d w })) 1 rfl rfl rfl rfl ⟨rfl,(by have:=a;exact (show 0+d.toNat*1+1≤8 by omega)),rfl⟩ (ZcR a)) ?_)))))
     rintro _ _ ⟨rfl,_,_,am⟩
     refine Ze (Zaf (Zb _ x (Zb _ K (Zc (Zal (r:=g) (o:=0) rfl rfl) (Zc (Zjx (o:=4) (o':=(4+d.toNat*1)) rfl rfl a rfl) (zQ (am.stb (cs':=Zd.c ({ { gi l i.toNat with Next:=((gi l i.toNat).Next).set d w } with Owner:=(({ gi l i.toNat with Next:=((gi l i.toNat).Next).set d w }).Owner).set d o })) 1 rfl rfl rfl rfl ⟨rfl,(by have:=a;exact (show 4+d.toNat*1+1≤8 by omega)),rfl⟩ (Zdg a)) ?_))))))
     rintro _ _ ⟨rfl,_,_,an⟩
     refine Zj ?_
     cases hp
     exact ⟨rfl,t,H,x,J,K,I,m,rfl,(an.pk [0,1])⟩
    ·refine ZcB ?_
     cases hp
     exact ⟨rfl,t,H,x,J,K,I,m,rfl,(R.pk [0,1])⟩
   rintro c hp _ _ _ ⟨rfl,S,L,A,N,O,T,M,y,s⟩
   refine Zt (Z9 (Zg (Zb _ M (Zb _ N (Zc (Zb7 rfl rfl) (Ze (zu hp rfl (fun ab hp=>?_) (fun ab hp=>?_))))))))
   ·refine Zg (Zb _ A (ckk hp fun Q hp=>Zc (ZV rfl rfl Q) (Zc (ZcO rfl rfl (by decide)) (Zb _ L (Zc (Zal (r:=g) (o:=0) y rfl) (ckk hp fun b hp=>Zc (Zjx (o:=0) (o':=(0+((d+2).tmod 4:Int).toNat*1)) rfl rfl b rfl) (zQ (s.stb (cs':=Zd.c ({ c with Next:=c.Next.set ((d+2).tmod 4) v })) 1 rfl rfl rfl rfl ⟨rfl,(by have:=b;exact (show 0+((d+2).tmod 4:Int).toNat*1+1≤8 by omega)),rfl⟩ (ZcR b)) ?_)))))))
    rintro _ _ ⟨rfl,_,_,ao⟩
    refine Ze (Zaf (Zb _ A (Zc (ZV rfl rfl Q) (Zc (ZcO rfl rfl (by decide)) (Zb _ O (Zc (Zal (r:=g) (o:=0) y rfl) (Zc (Zjx (o:=4) (o':=(4+((d+2).tmod 4:Int).toNat*1)) rfl rfl b rfl) (zQ (ao.stb (cs':=Zd.c ({ { c with Next:=c.Next.set ((d+2).tmod 4) v } with Owner:=(({ c with Next:=c.Next.set ((d+2).tmod 4) v }).Owner).set ((d+2).tmod 4) o })) 1 rfl rfl rfl rfl ⟨rfl,(by have:=b;exact (show 4+((d+2).tmod 4:Int).toNat*1+1≤8 by omega)),rfl⟩ (Zdg b)) ?_))))))))
    rintro _ _ ⟨rfl,_,_,C⟩
    refine Ze (Zaf (Zb _ T (Zc (ZbI (C.box 1 rfl) y rfl) (zQ (C.bsl (E:=Zd) (l:=[{ { c with Next:=c.Next.set ((d+2).tmod 4) v } with Owner:=(({ c with Next:=c.Next.set ((d+2).tmod 4) v }).Owner).set ((d+2).tmod 4) o }]) C.fr (by rw [(zf (v:=.ag (Zd.c ({ { c with Next:=c.Next.set ((d+2).tmod 4) v } with Owner:=(({ c with Next:=c.Next.set ((d+2).tmod 4) v }).Owner).set ((d+2).tmod 4) o }))) rfl Zbb)];rfl) rfl) ?_))))
    rintro ar ap ⟨_,_,D⟩
    refine ckk hp fun ac hp=>zQ (D.app (bytes:=64) 0 D.fr rfl (D.sl 2 rfl:Sl Zd ap ar [{ { c with Next:=c.Next.set ((d+2).tmod 4) v } with Owner:=(({ c with Next:=c.Next.set ((d+2).tmod 4) v }).Owner).set ((d+2).tmod 4) o }]) rfl rfl (fun _=>rfl) ac (by decide)) ?_
    rintro W _ ⟨_,ai⟩
    refine Zb W rfl (Zj (Zam (Zt (Zaf (Zb _ M (ckk hp fun ad hp=>Zc (ZV rfl rfl ad) (Zb (.n (i+1)) rfl (Zj ?_))))))))
    cases hp
    exact ⟨rfl,W,S,L,A,N,O,rfl,rfl,(ai.pk [0])⟩
   ·refine Zak (Zaf (Zb _ T (Zc (ZbI (s.box 1 rfl) y rfl) (zQ (s.bsl (E:=Zd) (l:=[c]) s.fr (by rw [(zf (v:=.ag (Zd.c c)) rfl Zbb)];rfl) rfl) ?_))))
    rintro _ _ ⟨_,_,F⟩
    refine ckk hp fun ae hp=>zQ (F.app (bytes:=64) 0 F.fr rfl (F.sl 2 rfl) rfl rfl (fun _=>rfl) ae (by decide)) ?_
    rintro X _ ⟨_,aj⟩
    refine Zb X rfl (Zj (Zam (Zt (Zaf (Zb _ M (ckk hp fun af hp=>Zc (ZV rfl rfl af) (Zb (.n (i+1)) rfl (Zj ?_))))))))
    cases hp
    exact ⟨rfl,X,S,L,A,N,O,rfl,rfl,(aj.pk [0])⟩
  ·refine Zb8 (zW ?_)
   cases hp
   exact ⟨nofun,rfl,j,I,(f.pk [0])⟩
 rintro out1 hp _ _ _ ⟨rfl,q,aq,ah⟩
 refine Za9 (Zt (Zg (Zb _ aq (Zb q rfl (Ze (zK (ZN (ZY rfl Z6) ?_)))))))
 cases hp
 exact ⟨q,rfl,(ah.pk [0])⟩

theorem ZR.ok {h:Hp}{z:Zao}{most:Int}{v_z_At:V}{v_z_Bits:V}{v_z_Own:V}(s_z_At:Sl ZhU h v_z_At z.At) (s_z_Bits:Sl ZhU h v_z_Bits z.Bits) (s_z_Own:Sl Zmf h v_z_Own z.Own) {r:(List Za)×(List Z3)}(hp:ZR z most=some r) :
  ∃ u k',Is G 28 [.ag [v_z_At,v_z_Bits,v_z_Own],.n most] h u k'∧∃ aY a0,V.tu [aY,a0]=u∧Own (fun r=>r<h.n) h k' [eSl Zd aY r.1,eSl ZE a0 r.2]:=by
 refine WC.is (ZaD ZeH ?_)
 unfold ZR at hp
 let B:Nat→Prop:=(fun r=>r<h.n)
 have hO:Own B h h []:=Own.start0 h
 refine Zg (zQ (hO.boxd (cs:=[v_z_At,v_z_Bits,v_z_Own]) hO.fr rfl rfl) ?_)
 rintro _ _ ⟨a,rfl,_,_,bH⟩
 refine Zb (.sn) rfl (Zb (.sn) rfl (Ze (Zg (Zb (.sn) rfl (Ze (Z9 (Zg (Zb (.n 0) rfl (Zj ?_)))))))))
 refine Zt (Zai ?_)
 have bO:=bH.nil ZE
 refine ZbM hp (fun|(at_,i),fr,k=>∃ A,fr 1=.n most∧fr 2=.p a 0∧fr 6=A∧fr 7=.n i∧Own B h k [zO a [v_z_At,v_z_Bits,v_z_Own],eSl ZE A at_]) (fun at_1 e fr k=>e=(.exit 0)∧∃ g,fr 2=.p a 0∧fr 6=g∧Own B h k [zO a [v_z_At,v_z_Bits,v_z_Own],eSl ZE g at_1]) ⟨V.sn,rfl,rfl,rfl,rfl,(bO.pk [0,1])⟩ ?_ ?_
 ·rintro ⟨at_,i⟩ _ au ⟨A,ay,az,aA,aB,s⟩ _ hp
  dsimp only [ZR.s0] at hp
  refine Z9 (Zg (Zb _ aB (Zc (Zal (r:=a) (o:=0) az rfl) (Zc (zy (s.box 0 rfl) rfl rfl) (Zc (Zap (s.rd0 s_z_At.rd) rfl) (Zc (zA rfl rfl) (Zb (.b (decide (i<(z.At.length:Int)))) rfl (zN 5 (fun f k=>au=k∧f 28=.b ((decide (i<(z.At.length:Int)))&&(decide ((at_.length:Int)<most)))∧f 1=.n most∧f 2=.p a 0∧f 6=A∧f 7=.n i) ?_ ?_))))))))
  ·rcases bc (decide (i<(z.At.length:Int))) with y|y
   ·refine Zq rfl y (Zb _ aA (Zq rfl y (Zc (Zap (s.sl 1 rfl) rfl) (Zq rfl y (Zb _ ay (Zq rfl y (Zc (zA rfl rfl) (Zc (ZcU rfl y rfl) (Zj ?_)))))))))
    exact ⟨rfl,rfl,ay,az,aA,aB⟩
   ·refine Zl rfl y (Zl rfl y (Zl rfl y (Zl rfl y (Zc (ZcT (w:=(decide (i<(z.At.length:Int)))&&(decide ((at_.length:Int)<most))) rfl y rfl) (Zj ?_)))))
    exact ⟨rfl,rfl,ay,az,aA,aB⟩
  rintro _ _ ⟨rfl,bx,bw,T,aN,al⟩
  refine Ze (zu hp bx (fun a6 hp=>?_) (fun a6 hp=>?_))
  ·refine Zak (Z9 (Zai (Z9 (Zgp ?_))))
   have I:=s.bump 18
   have bv:=Fresh.start au 18
   have b1:∀ {i:Nat},h.n≤au.n+i:=Nat.le_trans s.n (Nat.le_add_right _ _)
   refine z8 (Zal (r:=a) (o:=0) T rfl) (z8 (zy (I.box 0 rfl) rfl rfl) (Zbl _ al (ckk hp fun K hp=>z8 (ZP (I.rd0 s_z_At.rd) rfl rfl K) (z8 (zw (I.rd0 s_z_At.rd) rfl (Zf K) rfl) (ckk hp fun aK hp=>z8 (Zf9 rfl aK) (z8 (ZcO rfl rfl (by decide)) (z8 (Zal (r:=a) (o:=0) T rfl) (z8 (zy (I.box 0 rfl) rfl rfl) (Zbl _ al (z8 (ZP (I.rd0 s_z_At.rd) rfl rfl K) (z8 (zw (I.rd0 s_z_At.rd) rfl (Zf K) rfl) ?_)))))))))))
   refine z8 (Zf9 rfl aK) (ckk hp fun bl hp=>z8 (Zm4 rfl rfl bl) (z8 (ZcO rfl rfl (by decide)) (z8 (Zdy (cs:=ZE.c (⟨(gi z.At i.toNat).tmod 8,((gi z.At i.toNat).tdiv 8).tmod 8⟩:Z3)) (by rw [(zf (v:=.n ((gi z.At i.toNat).tmod 8)) rfl (zf (v:=.n (((gi z.At i.toNat).tdiv 8).tmod 8)) rfl Zbb))];rfl)) (ZeT (I.alloc (cs:=ZE.c (⟨0,0⟩:Z3)) ⟨bv.m 16 (by decide) (by decide),b1⟩) ?_))))
   rintro _ _ _ ⟨R,rfl,_,_,bP⟩
   refine ZeT (bP.stb (cs':=ZE.c (⟨(gi z.At i.toNat).tmod 8,((gi z.At i.toNat).tdiv 8).tmod 8⟩:Z3)) 2 rfl rfl rfl rfl ⟨rfl,Nat.le_of_ble_eq_true rfl,rfl⟩ rfl) ?_
   rintro _ _ _ ⟨rfl,_,_,bQ⟩
   refine ZcW ?_
   refine And.intro ?_ ?_
   ·intro q hq
    simp only [List.mem_cons,List.not_mem_nil,or_false] at hq
    rcases hq with rfl|rfl|rfl|rfl|rfl|rfl|rfl|rfl
    ·refine ZaX ?_ ?_
     ·exact (fun h=>nomatch h)
     ·exact (fun h=>nomatch h)
    ·refine ZaX ?_ ?_
     ·exact (fun h=>nomatch h)
     ·exact (fun h=>nomatch h)
    ·refine ZaX ?_ ?_
     ·exact (fun h=>nomatch h)
     ·exact (fun h=>nomatch h)
    ·refine ZaX ?_ ?_
     ·exact (fun h=>nomatch h)
     ·exact (fun h=>nomatch h)
    ·refine ZaX ?_ ?_
     ·exact (fun h=>nomatch h)
     ·exact (fun _ hm=>Nat.lt_irrefl _ (Nat.lt_of_lt_of_le (s.ltAt 0 rfl _ (tch (ZcV hm) rfl)) (Nat.le_add_right _ _)))
    ·refine ZaX ?_ ?_
     ·exact (fun h=>nomatch h)
     ·exact (fun _ hm=>Nat.lt_irrefl _ (Nat.lt_of_lt_of_le (Nat.lt_of_lt_of_le (s.lo _ (Rd.B s_z_At.rd s.lo (Zf K) _ (Zc7 (tch (ZcV hm) rfl)))) s.n) (Nat.le_add_right _ _)))
    ·refine ZaX ?_ ?_
     ·exact (fun h=>nomatch h)
     ·exact (fun _ hm=>Nat.lt_irrefl _ (Nat.lt_of_lt_of_le (s.ltAt 0 rfl _ (tch (ZcV hm) rfl)) (Nat.le_add_right _ _)))
    ·refine ZaX ?_ ?_
     ·exact (fun h=>nomatch h)
     ·exact (fun _ hm=>Nat.lt_irrefl _ (Nat.lt_of_lt_of_le (Nat.lt_of_lt_of_le (s.lo _ (Rd.B s_z_At.rd s.lo (Zf K) _ (Zc7 (tch (ZcV hm) rfl)))) s.n) (Nat.le_add_right _ _)))
   refine Zt (Zg (Zb (.b false) rfl (Ze (Z9 (Zg (Zb (.n 0) rfl (Ze (Zai (ZbM hp (fun|(met,k_),fr,k=>fr 1=.n most∧fr 2=.p a 0∧fr 6=A∧fr 7=.n i∧fr 8=.p R 0∧fr 9=.b met∧fr 10=.n k_∧Own B h k [zO a [v_z_At,v_z_Bits,v_z_Own],eSl ZE A at_,zO R (ZE.c (⟨(gi z.At i.toNat).tmod 8,((gi z.At i.toNat).tdiv 8).tmod 8⟩:Z3))]) (fun|(at_2,met1),e,fr,k=>e=(.exit 2)∧fr 1=.n most∧fr 2=.p a 0∧fr 6=A∧fr 7=.n i∧fr 8=.p R 0∧fr 9=.b met1∧Own B h k [zO a [v_z_At,v_z_Bits,v_z_Own],eSl ZE A at_2,zO R (ZE.c (⟨(gi z.At i.toNat).tmod 8,((gi z.At i.toNat).tdiv 8).tmod 8⟩:Z3))]) ⟨bw,T,aN,al,rfl,rfl,rfl,(bQ.pk [0,1,2])⟩ ?_ ?_)))))))))
   ·rintro ⟨met,k_⟩ _ b0 ⟨aC,aD,O,aE,ah,aX,af,ar⟩ _ hp
    dsimp only [ZR.s1] at hp
    refine Z9 (Zg (Zb _ af (Zb _ O (Zc (Zap (ar.sl 1 rfl) rfl) (Zc (zA rfl rfl) (Ze (zu hp rfl (fun a7 hp=>?_) (fun a7 hp=>?_))))))))
    ·refine Zak (Z9 (Zai (Zhl ?_)))
     have aa:=ar.bump 10
     refine ZaK _ aX (ZaK (.b met) rfl ?_)
     obtain ⟨t,bV,hp⟩:=ZaP hp
     refine Zdm 7 (fun f k=>(b0.bump 10)=k∧f 61=.b t∧f 1=.n most∧f 10=.n k_∧f 2=.p a 0∧f 6=A∧f 7=.n i∧f 8=.p R 0) ?_ ?_
     ·clear hp;rcases Zbi bV with ⟨j,hp⟩|⟨j,hp⟩
      ·refine ZB rfl j (ZB rfl j (ZB rfl j (ZB rfl j (ZB rfl j (ZB rfl j (za rfl (ZaT (v:=.b t) rfl j (Eq.trans (b:=V.b true) rfl (congrArg V.b (Option.some.inj hp)))) (Zba ?_)))))))
       exact ⟨rfl,rfl,aC,af,aD,O,aE,ah⟩
      ·refine ZU rfl j (ZaK _ O (ZU rfl j (ZaK _ af (ZU rfl j (ckk hp fun aL hp=>za rfl (ZP (aa.sl 1 rfl) rfl rfl aL) (ZU rfl j (za rfl (Zfm (aa.sl 1 rfl) rfl (Zf aL)) (ZU rfl j (za rfl (ZbI (aa.box 2 rfl) ah rfl) (ZU rfl j (za rfl (Zq5 (as:=ZE.c (gi at_ k_.toNat)) (bs:=ZE.c (⟨(gi z.At i.toNat).tmod 8,((gi z.At i.toNat).tdiv 8).tmod 8⟩:Z3)) rfl rfl (Mu.ZE.same _ _)) (za rfl (ZaI (v:=.b t) rfl j (Eq.trans (b:=V.b (decide (gi at_ k_.toNat=(⟨(gi z.At i.toNat).tmod 8,((gi z.At i.toNat).tdiv 8).tmod 8⟩:Z3)))) rfl (congrArg V.b (Option.some.inj hp)))) ?_))))))))))))
       refine Zba ?_
       exact ⟨rfl,rfl,aC,af,aD,O,aE,ah⟩
     rintro _ _ ⟨rfl,bD,bz,bA,bB,bC,bE,bF⟩
     refine ZaK _ bD (Zba (Zam (Zt (Zaf (Zb _ bA (ckk hp fun bm hp=>Zc (ZV rfl rfl bm) (Zb (.n (k_+1)) rfl (Zj ?_))))))))
     cases hp
     exact ⟨rfl,bz,bB,bC,bE,bF,rfl,rfl,(aa.pk [0,1,2])⟩
    ·refine Zb8 (zW ?_)
     cases hp
     exact ⟨nofun,rfl,aC,aD,O,aE,ah,aX,(ar.pk [0,1,2])⟩
   rintro ⟨at_2,met1⟩ hp _ _ _ ⟨rfl,aT,aU,aV,aW,b3,b4,ac⟩
   refine Za9 (Zt (Zg (Zb _ b4 (Zc (ZcJ rfl) (Ze (zu hp rfl (fun a8 hp=>?_) (fun a8 hp=>?_)))))))
   ·refine Zaf (Zb _ aV (Zc (ZbI (ac.box 2 rfl) b3 rfl) (zQ (ac.bsl (E:=ZE) (l:=[(⟨(gi z.At i.toNat).tmod 8,((gi z.At i.toNat).tdiv 8).tmod 8⟩:Z3)]) ac.fr (by rw [(zf (v:=.ag (ZE.c (⟨(gi z.At i.toNat).tmod 8,((gi z.At i.toNat).tdiv 8).tmod 8⟩:Z3))) rfl Zbb)];rfl) rfl) ?_)))
    rintro ch bW ⟨_,_,ao⟩
    refine ckk hp fun bn hp=>zQ (ao.app (bytes:=16) 1 ao.fr rfl (ao.sl 3 rfl:Sl ZE bW ch [(⟨(gi z.At i.toNat).tmod 8,((gi z.At i.toNat).tdiv 8).tmod 8⟩:Z3)]) rfl rfl (fun _=>rfl) bn (by decide)) ?_
    rintro a1 _ ⟨_,bI⟩
    refine Zb a1 rfl (Zj (Zam (Zt (Zaf (Zb _ aW (ckk hp fun bo hp=>Zc (ZV rfl rfl bo) (Zb (.n (i+1)) rfl (Zj ?_))))))))
    cases hp
    exact ⟨rfl,a1,aT,aU,rfl,rfl,(bI.pk [0,1])⟩
   ·refine ZcB (Zam (Zt (Zaf (Zb _ aW (ckk hp fun bp hp=>Zc (ZV rfl rfl bp) (Zb (.n (i+1)) rfl (Zj ?_)))))))
    cases hp
    exact ⟨rfl,A,aT,aU,aV,rfl,(ac.pk [0,1])⟩
  ·refine Zb8 (zW ?_)
   cases hp
   exact ⟨nofun,rfl,A,T,aN,(s.pk [0,1])⟩
 rintro at_1 hp _ _ bY ⟨rfl,g,b2,aS,aP⟩
 refine Za9 (Zt (Zg (Zb _ aS (Zc (Zap (aP.sl 1 rfl) rfl) ?_))))
 obtain ⟨x,⟨_,_,bq,a2,rfl,bR⟩,hp⟩:=bdk hp fun _=>ZO.ok (h:=bY)  
 refine zU rfl rfl bq ?_
 have bJ:=aP.call bR rfl
 refine Zb a2 rfl (Ze (Z9 (Zg (Zb (.n 0) rfl (Ze (Zai (ZbM hp (fun|(at_3,l,i1),fr,k=>∃ D,fr 2=.p a 0∧fr 6=g∧fr 11=D∧fr 12=.n i1∧Own B h k [zO a [v_z_At,v_z_Bits,v_z_Own],eSl ZE g at_3,eSl Zd D l]) (fun|(at_4,l1),e,fr,k=>e=(.exit 4)∧∃ S,fr 6=g∧fr 11=S∧Own B h k [eSl ZE g at_4,eSl Zd S l1]) ⟨a2,b2,aS,rfl,rfl,(bJ.pk [0,1,2])⟩ ?_ ?_)))))))
 ·rintro ⟨at_3,l,i1⟩ _ _ ⟨D,ai,aj,aF,P,C⟩ _ hp
  dsimp only [ZR.s2] at hp
  refine Z9 (Zg (Zb _ P (Zb _ aj (Zc (Zap (C.sl 1 rfl) rfl) (Zc (zA rfl rfl) (Ze (zu hp rfl (fun a9 hp=>?_) (fun a9 hp=>?_))))))))
  ·refine Zak (Z9 (Zai (Zg (Zb (.i .u8 3) rfl (Ze (Z9 (Zg (Zb _ P (Zc (Zal (r:=a) (o:=0) ai rfl) ?_)))))))))
   refine Zc (zy (C.box 0 rfl) rfl rfl) (Zc (Zap (C.rd0 s_z_Bits.rd) rfl) (Zc (zA rfl rfl) (Ze (Zii hp (fun|(at_5,l2,bits),e,fr,k=>e=.normal∧fr 2=.p a 0∧fr 6=g∧fr 11=D∧fr 12=.n i1∧fr 13=.i .u8 bits∧Own B h k [zO a [v_z_At,v_z_Bits,v_z_Own],eSl ZE g at_5,eSl Zd D l2]) (fun _ hp=>?_) ?_))))
   ·refine zu hp rfl (fun ba hp=>?_) (fun ba hp=>?_)
    ·refine Zaf (Zc (Zal (r:=a) (o:=0) ai rfl) (Zc (zy (C.box 0 rfl) rfl rfl) (Zb _ P (ckk hp fun aM hp=>Zc (ZP (C.rd0 s_z_Bits.rd) rfl rfl aM) (Zc (zw (C.rd0 s_z_Bits.rd) rfl (Zf aM) rfl) (Zb (.i .u8 (gi z.Bits i1.toNat)) rfl (Zj ?_)))))))
     cases hp
     exact ⟨rfl,ai,aj,aF,P,rfl,(C.pk [0,1,2])⟩
    ·refine ZcB ?_
     cases hp
     exact ⟨rfl,ai,aj,aF,P,rfl,(C.pk [0,1,2])⟩
   rintro ⟨at_5,l2,bits⟩ hp _ _ _ ⟨rfl,Q,aI,aG,L,aH,F⟩
   refine Zt (Zg (Zb _ L (Zb (.n i1) rfl (Ze (Z9 (Zg (Zb _ L (Zc (Zal (r:=a) (o:=0) Q rfl) (Zc (zy (F.box 0 rfl) rfl rfl) (Zc (Zap (F.rd0 s_z_Own.rd) rfl) ?_))))))))))
   refine Zc (zA rfl rfl) (Ze (Zii hp (fun|(at_6,l3,own),e,fr,k=>e=.normal∧fr 2=.p a 0∧fr 6=g∧fr 11=D∧fr 12=.n i1∧fr 13=.i .u8 bits∧fr 14=.n own∧Own B h k [zO a [v_z_At,v_z_Bits,v_z_Own],eSl ZE g at_6,eSl Zd D l3]) (fun _ hp=>?_) ?_))
   ·refine zu hp rfl (fun bb hp=>?_) (fun bb hp=>?_)
    ·refine Zg (Zc (Zal (r:=a) (o:=0) Q rfl) (Zc (zy (F.box 0 rfl) rfl rfl) (Zb _ L (ckk hp fun aJ hp=>Zc (ZP (F.rd0 s_z_Own.rd) rfl rfl aJ) (Zc (zw (F.rd0 s_z_Own.rd) rfl (Zf aJ) rfl) (ckk hp fun be hp=>Zc (Zf9 rfl be) (Zb (.n (gi z.Own i1.toNat)) rfl (Ze (Z9 ?_)))))))))
     refine Zaf (Zb (.n (gi z.Own i1.toNat)) rfl (Zc (zA rfl rfl) (Ze (zu hp rfl (fun bd hp=>?_) (fun bd hp=>?_)))))
     ·refine Zaf (Zb (.n (gi z.Own i1.toNat)) rfl (ckk hp fun bf hp=>Zc (ZqC rfl bf) (Zb (.n (-(gi z.Own i1.toNat))) rfl (Zj ?_))))
      cases hp
      exact ⟨rfl,Q,aI,aG,L,aH,rfl,(F.pk [0,1,2])⟩
     ·refine ZcB ?_
      cases hp
      exact ⟨rfl,Q,aI,aG,L,aH,rfl,(F.pk [0,1,2])⟩
    ·refine ZcB ?_
     cases hp
     exact ⟨rfl,Q,aI,aG,L,aH,rfl,(F.pk [0,1,2])⟩
   rintro ⟨at_6,l3,own⟩ hp _ _ _ ⟨rfl,cb,cc,b7,b8,b9,ca,bL⟩
   refine Zt (Zg (Zb (.n 0) rfl (Ze (Zai (ZbM hp (fun|(l4,d),fr,k=>∃ J,fr 2=.p a 0∧fr 6=g∧fr 11=J∧fr 12=.n i1∧fr 13=.i .u8 bits∧fr 14=.n own∧fr 15=.n d∧Own B h k [zO a [v_z_At,v_z_Bits,v_z_Own],eSl ZE g at_6,eSl Zd J l4]) (fun l5 e fr k=>e=(.exit 6)∧∃ ak,fr 2=.p a 0∧fr 6=g∧fr 11=ak∧fr 12=.n i1∧Own B h k [zO a [v_z_At,v_z_Bits,v_z_Own],eSl ZE g at_6,eSl Zd ak l5]) ⟨D,cb,cc,b7,b8,b9,ca,rfl,(bL.pk [0,1,2])⟩ ?_ ?_)))))
   ·rintro ⟨l4,d⟩ _ bX ⟨J,ax,ae,av,ad,aw,aR,N,ap⟩ _ hp
    dsimp only [ZR.s3] at hp
    refine Z9 (Zg (Zb _ N (Zc (zA rfl rfl) (Ze (zu hp rfl (fun a3 hp=>?_) (fun a3 hp=>?_))))))
    ·refine Zak (Z9 (Zai (Zg (Zb _ ae (Zb _ ad (Zb _ N ?_))))))
     obtain ⟨x1,⟨_,aQ,br,rfl,bS⟩,hp⟩:=bdk hp fun _=>zm.ok (h:=bX)  (ap.sl 1 rfl)
     refine zU rfl rfl br ?_
     have ab:=ap.call bS rfl
     refine Zb (.n x1) rfl (Ze (Z9 (Zg (Zb _ aw (Zb _ N (ckk hp fun bg hp=>Zc (ZfV (v:=.i .u8 (zD .u8 bits d)) rfl rfl (by decide) (Ze5 bg)) (Zc (Zf3 (v:=.i .u8 (ZK .u8 (zD .u8 bits d) 1)) rfl rfl (by decide) rfl) (Zc (Zb7 rfl rfl) (Zb (.b (decide (ZK .u8 (zD .u8 bits d) 1=0))) rfl (zN 3 (fun f k=>aQ=k∧f 119=.b ((decide (ZK .u8 (zD .u8 bits d) 1=0))||(decide (x1<0)))∧f 11=J∧f 12=.n i1∧f 13=.i .u8 bits∧f 14=.n own∧f 15=.n d∧f 16=.n x1∧f 2=.p a 0∧f 6=g) ?_ ?_))))))))))
     ·rcases bc (decide (ZK .u8 (zD .u8 bits d) 1=0)) with H|H
      ·refine Zl rfl H (Zl rfl H (Zc (Zct (w:=(decide (ZK .u8 (zD .u8 bits d) 1=0))||(decide (x1<0))) rfl H rfl) (Zj ?_)))
       exact ⟨rfl,rfl,av,ad,aw,aR,N,rfl,ax,ae⟩
      ·refine Zq rfl H (Zb (.n x1) rfl (Zq rfl H (Zc (zA rfl rfl) (Zc (Zcu rfl H rfl) (Zj ?_)))))
       exact ⟨rfl,rfl,av,ad,aw,aR,N,rfl,ax,ae⟩
     rintro _ _ ⟨rfl,bG,U,M,am,W,X,aO,an,Y⟩
     refine Ze (zu hp bG (fun a4 hp=>?_) (fun a4 hp=>?_))
     ·refine Zb8 (zW (Za9 (Zt (Zaf (Zb _ X (ckk hp fun bh hp=>Zc (ZV rfl rfl bh) (Zb (.n (d+1)) rfl (Zj ?_))))))))
      cases hp
      exact ⟨rfl,J,an,Y,U,M,am,W,rfl,(ab.pk [0,1,2])⟩
     ·refine Zak (Zg (Zb _ Y (Zb _ U (Zb _ M (Zb _ aO ?_)))))
      obtain ⟨x2,⟨_,bZ,bt,rfl,bT⟩,hp⟩:=bdk hp fun _=>zl.ok (h:=aQ)  (ab.sl 1 rfl) (ab.sl 2 rfl)
      refine zU rfl rfl bt ?_
      have aq:=ab.call bT rfl
      refine Zb (.b x2) rfl (Ze (Zg (Zb (.b x2) rfl (Zc (ZcJ rfl) (Ze (zu hp rfl (fun a5 hp=>?_) (fun a5 hp=>?_)))))))
      ·refine Zaf (Zb _ U (Zb _ M (Zb _ X (Zb _ aO (Zb _ W ?_)))))
       obtain ⟨x3,⟨_,_,bu,aZ,rfl,bU⟩,hp⟩:=bdk hp fun _=>Zae.ok (h:=bZ)  (aq.sl 2 rfl)
       refine zU rfl rfl bu ?_
       have bN:=aq.call bU rfl
       refine Zb aZ rfl (Zj (Zam (Zt (Zaf (Zb _ X (ckk hp fun bi hp=>Zc (ZV rfl rfl bi) (Zb (.n (d+1)) rfl (Zj ?_))))))))
       cases hp
       exact ⟨rfl,aZ,an,Y,rfl,M,am,W,rfl,(bN.pk [0,1,3])⟩
      ·refine ZcB (Zam (Zt (Zaf (Zb _ X (ckk hp fun bj hp=>Zc (ZV rfl rfl bj) (Zb (.n (d+1)) rfl (Zj ?_)))))))
       cases hp
       exact ⟨rfl,J,an,Y,U,M,am,W,rfl,(aq.pk [0,1,2])⟩
    ·refine Zb8 (zW ?_)
     cases hp
     exact ⟨nofun,rfl,J,ax,ae,av,ad,(ap.pk [0,1,2])⟩
   rintro l5 hp _ _ _ ⟨rfl,ak,cf,cg,cd,ce,bM⟩
   refine Za9 (Zam (Zt (Zaf (Zb _ ce (ckk hp fun bk hp=>Zc (ZV rfl rfl bk) (Zb (.n (i1+1)) rfl (Zj ?_)))))))
   cases hp
   exact ⟨rfl,ak,cf,cg,cd,rfl,(bM.pk [0,1,2])⟩
  ·refine Zb8 (zW ?_)
   cases hp
   exact ⟨nofun,rfl,D,aj,aF,(C.pk [1,2])⟩
 rintro ⟨at_4,l1⟩ hp _ _ _ ⟨rfl,S,b6,b5,bK⟩
 refine Za9 (Zt (Zg (Zb _ b5 (Zb _ b6 (Zb S rfl (Zb g rfl (Ze (zK (ZN (ZY rfl (ZY rfl Z6)) ?_)))))))))
 cases hp
 exact ⟨S,g,rfl,(bK.pk [1,0])⟩

theorem zM.ok {h:Hp}{z:Zbr}{most:Int}{v_z_Boxes:V}{v_z_Edges:V}{v_z_Bends:V}(s_z_Boxes:Sl e_bool h v_z_Boxes z.Boxes) (s_z_Edges:Sl ZgJ h v_z_Edges z.Edges) (s_z_Bends:Sl ZhU h v_z_Bends z.Bends) {r:zX}(hp:zM z most=some r) :
  ∃ u k',Is G 171 [.ag [v_z_Boxes,v_z_Edges,v_z_Bends],.n most] h u k'∧∃ aX aZ,V.ag [aX,aZ]=u∧Own (fun r=>r<h.n) h k' [eSl e_bool aX r.Boxes,eSl zt aZ r.Edges]:=by
 refine WC.is (ZaD ZeE ?_)
 unfold zM at hp
 let B:Nat→Prop:=(fun r=>r<h.n)
 have hO:Own B h h []:=Own.start0 h
 refine Zg (zQ (hO.boxd (cs:=[v_z_Boxes,v_z_Edges,v_z_Bends]) hO.fr rfl rfl) ?_)
 rintro _ _ ⟨d,rfl,_,_,aK⟩
 refine zQ (aK.alloc (cs:=[.sn,.sn]) aK.fr) ?_
 rintro _ aO ⟨y,rfl,_,_,aL⟩
 refine Ze (Zg (Zc (Zdy (cs:=[.sn,.sn]) (by rw [Zbb];simp [fill,over,Zj4,Zj2,Zj3,Zj6,Zj1,Zj5,(Sl.nil:Sl e_bool aO .sn ([]:List Bool)).cells,(Sl.nil:Sl zt aO .sn ([]:List ZaQ)).cells])) (zQ (aL.alloc (cs:=[.sn,.sn]) aL.fr) ?_)))
 rintro _ aP ⟨g,rfl,_,_,bz⟩
 refine zQ (bz.stb (cs':=[.sn,.sn]) 2 rfl rfl rfl rfl ⟨rfl,Nat.le_of_ble_eq_true rfl,(all_cons (Sl.nil:Sl e_bool aP .sn ([]:List Bool)).oneV (all_cons (Sl.nil:Sl zt aP .sn ([]:List ZaQ)).oneV all_nil))⟩ rfl) ?_
 rintro _ _ ⟨rfl,_,_,bA⟩
 refine Ze (Z9 (Zg (Zb (.n 0) rfl (Ze (Zai ?_)))))
 have bC:=bA.nil e_bool
 refine ZbM hp (fun|(s,i),fr,k=>∃ af,fr 1=.n most∧fr 2=.p d 0∧fr 4=.p y 0∧fr 5=.p g 0∧fr 6=.n i∧Own B h k [zO d [v_z_Boxes,v_z_Edges,v_z_Bends],zO y [.sn,.sn],zO g [af,.sn],eSl e_bool af s]) (fun s1 e fr k=>e=(.exit 0)∧∃ A,fr 1=.n most∧fr 2=.p d 0∧fr 4=.p y 0∧fr 5=.p g 0∧Own B h k [zO d [v_z_Boxes,v_z_Edges,v_z_Bends],zO y [.sn,.sn],zO g [A,.sn],eSl e_bool A s1]) ⟨V.sn,rfl,rfl,rfl,rfl,rfl,(bC.pk [0,1,2,3])⟩ ?_ ?_
 ·rintro ⟨s,i⟩ _ ao ⟨af,ap,aq,aS,aT,ac,O⟩ _ hp
  dsimp only [zM.s0] at hp
  refine Z9 (Zg (Zb _ ac (Zc (Zal (r:=d) (o:=0) aq rfl) (Zc (zy (O.box 0 rfl) rfl rfl) (Zc (Zap (O.rd0 s_z_Boxes.rd) rfl) (Zc (zA rfl rfl) (Zb (.b (decide (i<(z.Boxes.length:Int)))) rfl (zN 4 (fun f k=>ao=k∧f 20=.b ((decide (i<(z.Boxes.length:Int)))&&(decide (i<most)))∧f 1=.n most∧f 2=.p d 0∧f 4=.p y 0∧f 5=.p g 0∧f 6=.n i) ?_ ?_))))))))
  ·rcases bc (decide (i<(z.Boxes.length:Int))) with K|K
   ·refine Zq rfl K (Zb _ ac (Zq rfl K (Zb _ ap (Zq rfl K (Zc (zA rfl rfl) (Zc (ZcU rfl K rfl) (Zj ?_)))))))
    exact ⟨rfl,rfl,ap,aq,aS,aT,ac⟩
   ·refine Zl rfl K (Zl rfl K (Zl rfl K (Zc (ZcT (w:=(decide (i<(z.Boxes.length:Int)))&&(decide (i<most))) rfl K rfl) (Zj ?_))))
    exact ⟨rfl,rfl,ap,aq,aS,aT,ac⟩
  rintro _ _ ⟨rfl,bo,aC,ai,aD,W,aE⟩
  refine Ze (zu hp bo (fun a0 hp=>?_) (fun a0 hp=>?_))
  ·refine Zak (Z9 (Zai (Zgp ?_)))
   have Q:=O.bump 11
   have aB:=Fresh.start ao 11
   have aR:∀ {i:Nat},h.n≤ao.n+i:=Nat.le_trans O.n (Nat.le_add_right _ _)
   refine z8 (Zal (r:=g) (o:=0) W rfl) (z8 (zy (Q.box 2 rfl) rfl rfl) (z8 (Zal (r:=d) (o:=0) ai rfl) (z8 (zy (Q.box 0 rfl) rfl rfl) (Zbl _ aE (ckk hp fun az hp=>z8 (ZP (Q.rd0 s_z_Boxes.rd) rfl rfl az) (z8 (zw (Q.rd0 s_z_Boxes.rd) rfl (Zf az) rfl) (ZeT (Q.bsl (E:=e_bool) (l:=[gi z.Boxes i.toNat]) ⟨aB.m 7 (by decide) (by decide),aR⟩ (by rw [(zf (v:=.b (gi z.Boxes i.toNat)) rfl Zbb)];rfl) rfl) ?_)))))))
   rintro _ _ _ ⟨_,bl,aN⟩
   have bm:=aB.kept bl (by decide)
   refine ckk hp fun bf hp=>ZeT (aN.app (bytes:=1) 3 ⟨bm.m 8 (by decide) (by decide),aR⟩ rfl (aN.sl 4 rfl) rfl rfl (fun _=>rfl) bf (by decide)) ?_
   rintro ah aQ _ ⟨_,al⟩
   refine z8 (Zal (r:=g) (o:=0) W rfl) (ZeT (al.stb (cs':=[ah,.sn]) 2 rfl rfl rfl (al.sl 3 rfl:Sl e_bool aQ ah (s++[gi z.Boxes i.toNat])).cells ⟨rfl,Nat.le_of_ble_eq_true rfl,(all_cons (al.sl 3 rfl:Sl e_bool aQ ah (s++[gi z.Boxes i.toNat])).oneV rfl)⟩ rfl) ?_)
   rintro _ _ _ ⟨rfl,_,_,br⟩
   refine ZcW ?_
   refine And.intro ?_ ?_
   ·intro q hq
    simp only [List.mem_cons,List.not_mem_nil,or_false] at hq
    rcases hq with rfl|rfl|rfl
    ·refine ZaX ?_ ?_
     ·exact (fun h=>nomatch h)
     ·exact (fun h=>nomatch h)
    ·refine ZaX ?_ ?_
     ·exact (fun h=>nomatch h)
     ·exact (fun h=>nomatch h)
    ·refine ZaX ?_ ?_
     ·exact (fun h=>nomatch h)
     ·exact (fun _ hm=>Nat.lt_irrefl _ (Nat.lt_of_lt_of_le (O.ltAt 2 rfl _ (tch (ZcV hm) rfl)) (Nat.le_add_right _ _)))
   refine Zam (Zt (Zaf (Zb _ aE (ckk hp fun bg hp=>Zc (ZV rfl rfl bg) (Zb (.n (i+1)) rfl (Zj ?_))))))
   cases hp
   exact ⟨rfl,ah,aC,ai,aD,W,rfl,(br.pk [0,1,2,3])⟩
  ·refine Zb8 (zW ?_)
   cases hp
   exact ⟨nofun,rfl,af,aC,ai,aD,W,(O.pk [0,1,2,3])⟩
 rintro s1 hp _ _ _ ⟨rfl,A,bF,bG,bH,bI,bB⟩
 refine Za9 (Zt (Z9 (Zg (Zb (.n 0) rfl (Ze (Zai ?_))))))
 have bs:=bB.nil zt
 refine ZbM hp (fun|(s2,i1),fr,k=>∃ J,fr 1=.n most∧fr 2=.p d 0∧fr 4=.p y 0∧fr 5=.p g 0∧fr 7=.n i1∧Own B h k [zO d [v_z_Boxes,v_z_Edges,v_z_Bends],zO y [.sn,.sn],zO g [A,J],eSl e_bool A s1,eSl zt J s2]) (fun s3 e fr k=>e=(.exit 2)∧∃ T,fr 4=.p y 0∧fr 5=.p g 0∧Own B h k [zO y [.sn,.sn],zO g [A,T],eSl e_bool A s1,eSl zt T s3]) ⟨V.sn,bF,bG,bH,bI,rfl,(bs.pk [0,1,2,3,4])⟩ ?_ ?_
 ·rintro ⟨s2,i1⟩ _ ab ⟨J,ar,au,aV,aW,ad,j⟩ _ hp
  dsimp only [zM.s1] at hp
  refine Z9 (Zg (Zb _ ad (Zc (Zal (r:=d) (o:=0) au rfl) (Zc (zy (j.box 0 rfl) rfl rfl) (Zc (Zap (j.rd0 s_z_Edges.rd) rfl) (Zc (zA rfl rfl) (Zb (.b (decide (i1<(z.Edges.length:Int)))) rfl ?_)))))))
  obtain ⟨t,bD,hp⟩:=ZaP hp
  refine zN 5 (fun f k=>ab=k∧f 43=.b t∧f 1=.n most∧f 2=.p d 0∧f 4=.p y 0∧f 5=.p g 0∧f 7=.n i1) ?_ ?_
  ·clear hp;rcases Zbi bD with ⟨D,hp⟩|⟨D,hp⟩
   ·refine Zq rfl D (Zb _ ad (Zq rfl D (Zb _ ar (Zq rfl D (ckk hp fun bh hp=>Zc (Zij rfl rfl bh) (Zq rfl D (Zc (zA rfl rfl) (Zc (ZaT (v:=.b t) rfl D (Eq.trans (b:=V.b (decide (i1<(2*most)))) rfl (congrArg V.b (Option.some.inj hp)))) (Zj ?_)))))))))
    exact ⟨rfl,rfl,ar,au,aV,aW,ad⟩
   ·refine Zl rfl D (Zl rfl D (Zl rfl D (Zl rfl D (Zc (ZaI (v:=.b t) rfl D (Eq.trans (b:=V.b false) rfl (congrArg V.b (Option.some.inj hp)))) (Zj ?_)))))
    exact ⟨rfl,rfl,ar,au,aV,aW,ad⟩
  rintro _ _ ⟨rfl,bp,aF,aG,aH,aj,aI⟩
  refine Zb _ bp (zN 5 (fun f k=>ab=k∧f 49=.b (t&&(decide (0<(s1.length:Int))))∧f 1=.n most∧f 2=.p d 0∧f 4=.p y 0∧f 5=.p g 0∧f 7=.n i1) ?_ ?_)
  ·rcases bc t with F|F
   ·refine Zq rfl F (Zc (Zal (r:=g) (o:=0) aj rfl) (Zq rfl F (Zc (zy (j.box 2 rfl) rfl rfl) (Zq rfl F (Zc (Zap (j.sl 3 rfl) rfl) (Zq rfl F (Zc (Zd1 rfl rfl) (Zc (ZcU rfl F rfl) (Zj ?_)))))))))
    exact ⟨rfl,rfl,aF,aG,aH,aj,aI⟩
   ·refine Zl rfl F (Zl rfl F (Zl rfl F (Zl rfl F (Zc (ZcT (w:=t&&(decide (0<(s1.length:Int)))) rfl F rfl) (Zj ?_)))))
    exact ⟨rfl,rfl,aF,aG,aH,aj,aI⟩
  rintro _ _ ⟨rfl,bq,aJ,M,ak,P,N⟩
  refine Ze (zu hp bq (fun a1 hp=>?_) (fun a1 hp=>?_))
  ·refine Zak (Z9 (Zai (Z9 (Zgp ?_))))
   have x:=j.bump 33
   have bn:=Fresh.start ab 33
   have bE:∀ {i:Nat},h.n≤ab.n+i:=Nat.le_trans j.n (Nat.le_add_right _ _)
   refine z8 (Zal (r:=d) (o:=0) M rfl) (z8 (zy (x.box 0 rfl) rfl rfl) (Zbl _ N (ckk hp fun C hp=>z8 (ZP (x.rd0 s_z_Edges.rd) rfl rfl C) (z8 (Zbd (x.rd0 s_z_Edges.rd) (Zf C) rfl rfl (by decide) rfl) (z8 (zw (x.rd0 s_z_Edges.rd) rfl (Zf C) rfl) (ckk hp fun bi hp=>z8 (Zf9 rfl bi) (z8 (Zal (r:=g) (o:=0) P rfl) (z8 (zy (x.box 2 rfl) rfl rfl) (z8 (Zap (x.sl 3 rfl) rfl) (ckk hp fun aA hp=>z8 (ZcO rfl rfl aA) ?_))))))))))
   refine z8 (Zal (r:=d) (o:=0) M rfl) (z8 (zy (x.box 0 rfl) rfl rfl) (Zbl _ N (z8 (ZP (x.rd0 s_z_Edges.rd) rfl rfl C) (z8 (Zbd (x.rd0 s_z_Edges.rd) (Zf C) rfl rfl (by decide) rfl) (z8 (zw (x.rd0 s_z_Edges.rd) rfl (Zf C) rfl) (ckk hp fun bj hp=>z8 (Zf9 rfl bj) (z8 (Zal (r:=g) (o:=0) P rfl) (z8 (zy (x.box 2 rfl) rfl rfl) (z8 (Zap (x.sl 3 rfl) rfl) (z8 (ZcO rfl rfl aA) (z8 (Zal (r:=d) (o:=0) M rfl) (z8 (zy (x.box 0 rfl) rfl rfl) ?_))))))))))))
   refine Zbl _ N (z8 (ZP (x.rd0 s_z_Edges.rd) rfl rfl C) (z8 (Zbd (x.rd0 s_z_Edges.rd) (Zf C) rfl rfl (by decide) rfl) (z8 (zw (x.rd0 s_z_Edges.rd) rfl (Zf C) rfl) (ckk hp fun bk hp=>z8 (Zf9 rfl bk) (z8 (ZcO rfl rfl (by decide)) (z8 (Zdy (cs:=zt.c (⟨((gi z.Edges i1.toNat).get 0).tmod (s1.length:Int),((gi z.Edges i1.toNat).get 1).tmod (s1.length:Int),((gi z.Edges i1.toNat).get 2).tmod 4,(⟨#[]⟩:ByteArray)⟩:ZaQ)) (by rw [(zf (v:=.n (((gi z.Edges i1.toNat).get 0).tmod (s1.length:Int))) rfl (zf (v:=.n (((gi z.Edges i1.toNat).get 1).tmod (s1.length:Int))) rfl (zf (v:=.n (((gi z.Edges i1.toNat).get 2).tmod 4)) rfl Zbb)))];rfl)) (ZeT (x.alloc (cs:=zt.c (⟨0,0,0,(⟨#[]⟩:ByteArray)⟩:ZaQ)) ⟨bn.m 31 (by decide) (by decide),bE⟩) ?_)))))))
   rintro _ _ _ ⟨I,rfl,_,_,bt⟩
   refine ZeT (bt.stb (cs':=zt.c (⟨((gi z.Edges i1.toNat).get 0).tmod (s1.length:Int),((gi z.Edges i1.toNat).get 1).tmod (s1.length:Int),((gi z.Edges i1.toNat).get 2).tmod 4,(⟨#[]⟩:ByteArray)⟩:ZaQ)) 5 rfl rfl rfl rfl ⟨rfl,Nat.le_of_ble_eq_true rfl,rfl⟩ rfl) ?_
   rintro _ _ _ ⟨rfl,_,_,Y⟩
   refine ZcW ?_
   refine And.intro ?_ ?_
   ·intro q hq
    simp only [List.mem_cons,List.not_mem_nil,or_false] at hq
    rcases hq with rfl|rfl|rfl|rfl|rfl|rfl|rfl|rfl|rfl|rfl|rfl|rfl|rfl|rfl|rfl|rfl|rfl|rfl|rfl|rfl|rfl|rfl|rfl|rfl|rfl|rfl|rfl|rfl|rfl|rfl|rfl|rfl|rfl
    ·refine ZaX ?_ ?_
     ·exact (fun h=>nomatch h)
     ·exact (fun h=>nomatch h)
    ·refine ZaX ?_ ?_
     ·exact (fun h=>nomatch h)
     ·exact (fun h=>nomatch h)
    ·refine ZaX ?_ ?_
     ·exact (fun h=>nomatch h)
     ·exact (fun h=>nomatch h)
    ·refine ZaX ?_ ?_
     ·exact (fun h=>nomatch h)
     ·exact (fun h=>nomatch h)
    ·refine ZaX ?_ ?_
     ·exact (fun h=>nomatch h)
     ·exact (fun h=>nomatch h)
    ·refine ZaX ?_ ?_
     ·exact (fun h=>nomatch h)
     ·exact (fun h=>nomatch h)
    ·refine ZaX ?_ ?_
     ·exact (fun h=>nomatch h)
     ·exact (fun h=>nomatch h)
    ·refine ZaX ?_ ?_
     ·exact (fun h=>nomatch h)
     ·exact (fun h=>nomatch h)
    ·refine ZaX ?_ ?_
     ·exact (fun h=>nomatch h)
     ·exact (fun h=>nomatch h)
    ·refine ZaX ?_ ?_
     ·exact (fun h=>nomatch h)
     ·exact (fun h=>nomatch h)
    ·refine ZaX ?_ ?_
     ·exact (fun h=>nomatch h)
     ·exact (fun h=>nomatch h)
    ·refine ZaX ?_ ?_
     ·exact (fun h=>nomatch h)
     ·exact (fun h=>nomatch h)
    ·refine ZaX ?_ ?_
     ·exact (fun h=>nomatch h)
     ·exact (fun h=>nomatch h)
    ·refine ZaX ?_ ?_
     ·exact (fun h=>nomatch h)
     ·exact (fun h=>nomatch h)
    ·refine ZaX ?_ ?_
     ·exact (fun h=>nomatch h)
     ·exact (fun h=>nomatch h)
    ·refine ZaX ?_ ?_
     ·exact (fun h=>nomatch h)
     ·exact (fun h=>nomatch h)
    ·refine ZaX ?_ ?_
     ·exact (fun h=>nomatch h)
     ·exact (fun h=>nomatch h)
    ·refine ZaX ?_ ?_
     ·exact (fun h=>nomatch h)
     ·exact (fun h=>nomatch h)
    ·refine ZaX ?_ ?_
     ·exact (fun h=>nomatch h)
     ·exact (fun h=>nomatch h)
    ·refine ZaX ?_ ?_
     ·exact (fun h=>nomatch h)
     ·exact (fun h=>nomatch h)
    ·refine ZaX ?_ ?_
     ·exact (fun h=>nomatch h)
     ·exact (fun h=>nomatch h)
    ·refine ZaX ?_ ?_
     ·exact (fun h=>nomatch h)
     ·exact (fun h=>nomatch h)
    ·refine ZaX ?_ ?_
     ·exact (fun h=>nomatch h)
     ·exact (fun h=>nomatch h)
    ·refine ZaX ?_ ?_
     ·exact (fun h=>nomatch h)
     ·exact (fun h=>nomatch h)
    ·refine ZaX ?_ ?_
     ·exact (fun h=>nomatch h)
     ·exact (fun h=>nomatch h)
    ·refine ZaX ?_ ?_
     ·exact (fun h=>nomatch h)
     ·exact (fun _ hm=>Nat.lt_irrefl _ (Nat.lt_of_lt_of_le (j.ltAt 0 rfl _ (tch (ZcV hm) rfl)) (Nat.le_add_right _ _)))
    ·refine ZaX ?_ ?_
     ·exact (fun h=>nomatch h)
     ·exact (fun _ hm=>Nat.lt_irrefl _ (Nat.lt_of_lt_of_le (Nat.lt_of_lt_of_le (j.lo _ (Rd.B s_z_Edges.rd j.lo (Zf C) _ (Zc7 (tch (ZcV hm) rfl)))) j.n) (Nat.le_add_right _ _)))
    ·refine ZaX ?_ ?_
     ·exact (fun h=>nomatch h)
     ·exact (fun _ hm=>Nat.lt_irrefl _ (Nat.lt_of_lt_of_le (j.ltAt 2 rfl _ (tch (ZcV hm) rfl)) (Nat.le_add_right _ _)))
    ·refine ZaX ?_ ?_
     ·exact (fun h=>nomatch h)
     ·exact (fun _ hm=>Nat.lt_irrefl _ (Nat.lt_of_lt_of_le (j.ltAt 0 rfl _ (tch (ZcV hm) rfl)) (Nat.le_add_right _ _)))
    ·refine ZaX ?_ ?_
     ·exact (fun h=>nomatch h)
     ·exact (fun _ hm=>Nat.lt_irrefl _ (Nat.lt_of_lt_of_le (Nat.lt_of_lt_of_le (j.lo _ (Rd.B s_z_Edges.rd j.lo (Zf C) _ (Zc7 (tch (ZcV hm) rfl)))) j.n) (Nat.le_add_right _ _)))
    ·refine ZaX ?_ ?_
     ·exact (fun h=>nomatch h)
     ·exact (fun _ hm=>Nat.lt_irrefl _ (Nat.lt_of_lt_of_le (j.ltAt 2 rfl _ (tch (ZcV hm) rfl)) (Nat.le_add_right _ _)))
    ·refine ZaX ?_ ?_
     ·exact (fun h=>nomatch h)
     ·exact (fun _ hm=>Nat.lt_irrefl _ (Nat.lt_of_lt_of_le (j.ltAt 0 rfl _ (tch (ZcV hm) rfl)) (Nat.le_add_right _ _)))
    ·refine ZaX ?_ ?_
     ·exact (fun h=>nomatch h)
     ·exact (fun _ hm=>Nat.lt_irrefl _ (Nat.lt_of_lt_of_le (Nat.lt_of_lt_of_le (j.lo _ (Rd.B s_z_Edges.rd j.lo (Zf C) _ (Zc7 (tch (ZcV hm) rfl)))) j.n) (Nat.le_add_right _ _)))
   refine Zt (Z9 (Zg (Zb _ N (Zc (Zal (r:=d) (o:=0) M rfl) (Zc (zy (Y.box 0 rfl) rfl rfl) (Zc (Zap (Y.rd0 s_z_Bends.rd) rfl) (Zc (zA rfl rfl) (Ze (Zii hp (fun e_ e fr k=>e=.normal∧fr 1=.n most∧fr 2=.p d 0∧fr 4=.p y 0∧fr 5=.p g 0∧fr 7=.n i1∧fr 8=.p I 0∧Own B h k [zO d [v_z_Boxes,v_z_Edges,v_z_Bends],zO y [.sn,.sn],zO g [A,J],eSl e_bool A s1,eSl zt J s2,zO I (zt.c e_)]) (fun _ hp=>?_) ?_)))))))))
   ·refine zu hp rfl (fun a2 hp=>?_) (fun a2 hp=>?_)
    ·refine Zg (Zb (.n 0) rfl (Ze (Zai (ZbM hp (fun|(e_1,k_),fr,k=>fr 1=.n most∧fr 2=.p d 0∧fr 4=.p y 0∧fr 5=.p g 0∧fr 7=.n i1∧fr 8=.p I 0∧fr 9=.n k_∧Own B h k [zO d [v_z_Boxes,v_z_Edges,v_z_Bends],zO y [.sn,.sn],zO g [A,J],eSl e_bool A s1,eSl zt J s2,zO I (zt.c e_1)]) (fun e_2 e fr k=>e=(.exit 4)∧fr 1=.n most∧fr 2=.p d 0∧fr 4=.p y 0∧fr 5=.p g 0∧fr 7=.n i1∧fr 8=.p I 0∧Own B h k [zO d [v_z_Boxes,v_z_Edges,v_z_Bends],zO y [.sn,.sn],zO g [A,J],eSl e_bool A s1,eSl zt J s2,zO I (zt.c e_2)]) ⟨aJ,M,ak,P,N,rfl,rfl,(Y.pk [0,1,2,3,4,5])⟩ ?_ ?_))))
     ·rintro ⟨e_1,k_⟩ _ _ ⟨aw,R,ax,ay,S,L,ae,H⟩ _ hp
      dsimp only [zM.s2] at hp
      refine Z9 (Zg (Zb _ ae (Zc (Zal (r:=d) (o:=0) R rfl) (Zc (zy (H.box 0 rfl) rfl rfl) (Zb _ S (ckk hp fun U hp=>Zc (ZP (H.rd0 s_z_Bends.rd) rfl rfl U) (Zc (zw (H.rd0 s_z_Bends.rd) rfl (Zf U) rfl) (ckk hp fun a5 hp=>Zc (Zf9 rfl a5) (Zc (ZcO rfl rfl (by decide)) (Zc (zA rfl rfl) ?_))))))))))
      refine Ze (zu hp rfl (fun a3 hp=>?_) (fun a3 hp=>?_))
      ·refine Zak (Z9 (Zai (Zg (Zc (Zal (r:=d) (o:=0) R rfl) (Zc (zy (H.box 0 rfl) rfl rfl) (Zb _ S (Zc (ZP (H.rd0 s_z_Bends.rd) rfl rfl U) (Zc (zw (H.rd0 s_z_Bends.rd) rfl (Zf U) rfl) (Zb _ ae (ckk hp fun a6 hp=>Zc (ZV rfl rfl a6) ?_))))))))))
       refine ckk hp fun a7 hp=>Zc (ZfV (v:=.i .u8 (zD .u8 (gi z.Bends i1.toNat) (2+k_))) rfl rfl (by decide) (Ze5 a7)) (Zc (Zf3 (v:=.i .u8 (ZK .u8 (zD .u8 (gi z.Bends i1.toNat) (2+k_)) 1)) rfl rfl (by decide) rfl) (Zc (Zb7 rfl rfl) (Ze (zu hp rfl (fun a4 hp=>?_) (fun a4 hp=>?_)))))
       ·refine Zaf (Zc (Zal (r:=I) (o:=0) L rfl) (Zc (zy (H.box 5 rfl) rfl rfl) (ckk hp fun a8 hp=>Zc (Zm5 (a:=e_1.Bends) (b:=(⟨#[76]⟩:ByteArray)) rfl rfl a8) (Zc (Zal (r:=I) (o:=0) L rfl) (zQ (H.stb (cs':=zt.c ({ e_1 with Bends:=e_1.Bends++(⟨#[76]⟩:ByteArray) })) 5 rfl rfl rfl rfl ⟨rfl,Nat.le_of_ble_eq_true rfl,rfl⟩ rfl) ?_)))))
        rintro _ _ ⟨rfl,_,_,bv⟩
        refine Zj (Zam (Zt (Zaf (Zb _ ae (ckk hp fun a9 hp=>Zc (ZV rfl rfl a9) (Zb (.n (k_+1)) rfl (Zj ?_)))))))
        cases hp
        exact ⟨rfl,aw,R,ax,ay,S,L,rfl,(bv.pk [0,1,2,3,4,5])⟩
       ·refine Zaf (Zc (Zal (r:=I) (o:=0) L rfl) (Zc (zy (H.box 5 rfl) rfl rfl) (ckk hp fun ba hp=>Zc (Zm5 (a:=e_1.Bends) (b:=(⟨#[82]⟩:ByteArray)) rfl rfl ba) (Zc (Zal (r:=I) (o:=0) L rfl) (zQ (H.stb (cs':=zt.c ({ e_1 with Bends:=e_1.Bends++(⟨#[82]⟩:ByteArray) })) 5 rfl rfl rfl rfl ⟨rfl,Nat.le_of_ble_eq_true rfl,rfl⟩ rfl) ?_)))))
        rintro _ _ ⟨rfl,_,_,bw⟩
        refine Zj (Zam (Zt (Zaf (Zb _ ae (ckk hp fun bb hp=>Zc (ZV rfl rfl bb) (Zb (.n (k_+1)) rfl (Zj ?_)))))))
        cases hp
        exact ⟨rfl,aw,R,ax,ay,S,L,rfl,(bw.pk [0,1,2,3,4,5])⟩
      ·refine Zb8 (zW ?_)
       cases hp
       exact ⟨nofun,rfl,aw,R,ax,ay,S,L,(H.pk [0,1,2,3,4,5])⟩
     rintro e_2 hp _ _ _ ⟨rfl,bP,bQ,bR,bS,bT,bU,bu⟩
     refine Za9 ?_
     cases hp
     exact ⟨rfl,bP,bQ,bR,bS,bT,bU,(bu.pk [0,1,2,3,4,5])⟩
    ·refine ZcB ?_
     cases hp
     exact ⟨rfl,aJ,M,ak,P,N,rfl,(Y.pk [0,1,2,3,4,5])⟩
   rintro e_ hp _ _ _ ⟨rfl,bK,bL,bM,av,bN,bO,aa⟩
   refine Zt (Zaf (Zc (Zal (r:=g) (o:=0) av rfl) (Zc (zy (aa.box 2 rfl) rfl rfl) (Zc (ZbI (aa.box 5 rfl) bO rfl) (zQ (aa.bsl (E:=zt) (l:=[e_]) aa.fr (by rw [(zf (v:=.ag (zt.c e_)) rfl Zbb)];rfl) rfl) ?_)))))
   rintro _ _ ⟨_,_,am⟩
   refine ckk hp fun bd hp=>zQ (am.app (bytes:=40) 4 am.fr rfl (am.sl 6 rfl) rfl rfl (fun _=>rfl) bd (by decide)) ?_
   rintro aY _ ⟨_,an⟩
   refine Zc (Zal (r:=g) (o:=0) av rfl) (zQ (an.stb (cs':=[A,aY]) 2 rfl rfl rfl (an.sl 4 rfl).cells ⟨rfl,Nat.le_of_ble_eq_true rfl,(all_cons (an.sl 4 rfl).oneV rfl)⟩ rfl) ?_)
   rintro _ _ ⟨rfl,_,_,bx⟩
   refine Zj (Zam (Zt (Zaf (Zb _ bN (ckk hp fun be hp=>Zc (ZV rfl rfl be) (Zb (.n (i1+1)) rfl (Zj ?_)))))))
   cases hp
   exact ⟨rfl,aY,bK,bL,bM,av,rfl,(bx.pk [0,1,2,3,4])⟩
  ·refine Zb8 (zW ?_)
   cases hp
   exact ⟨nofun,rfl,J,ak,P,(j.pk [1,2,3,4])⟩
 rintro s3 hp _ _ _ ⟨rfl,T,aU,bJ,X⟩
 refine Za9 (Zt (Zg (Zc (ZbI (X.box 1 rfl) bJ rfl) (zQ (X.stb (cs':=[A,T]) 0 rfl aU rfl rfl ⟨rfl,Nat.le_of_ble_eq_true rfl,(all_cons (X.sl 2 rfl).oneV (all_cons (X.sl 3 rfl).oneV all_nil))⟩ rfl) ?_))))
 rintro _ _ ⟨rfl,_,_,aM⟩
 refine Ze (zK (ZN (ZiR aU (aM.box 0 rfl) rfl Z6) ?_))
 cases hp
 exact ⟨A,T,rfl,(aM.pk [2,3])⟩

theorem ZQ.ok {h:Hp}{l:List Za}{v:Int}{d:Int}{w:Int}{o:Int}{v_l:V}(H:Own (Bm h [eSl Zd v_l l]) h h [eSl Zd v_l l]) {r:(List Za)×Int}(hp:ZQ l v d w o=some r) :
  ∃ u k',Is G 53 [v_l,.n v,.n d,.n w,.n o] h u k'∧∃ ar,V.tu [ar,.n r.2]=u∧Own (Bm h [eSl Zd v_l l]) h k' [eSl Zd ar r.1]:=by
 refine WC.is (ZaD ZeG ?_)
 unfold ZQ at hp
 let B:Nat→Prop:=(Bm h [eSl Zd v_l l])
 have hO:Own B h h [eSl Zd v_l l]:=H
 refine Zg (Zb (.sn) rfl (Zb (.n 0) rfl (Ze (Z9 (Zg (Zb (.n v) rfl (Zc (zA rfl rfl) (Zb (.b (decide (v<0))) rfl (zN 5 (fun f k=>h=k∧f 20=.b ((decide (v<0))||(decide ((l.length:Int)≤v)))∧f 0=v_l∧f 1=.n v∧f 2=.n d∧f 3=.n w∧f 4=.n o) ?_ ?_)))))))))
 ·rcases bc (decide (v<0)) with c|c
  ·refine Zl rfl c (Zl rfl c (Zl rfl c (Zl rfl c (Zc (Zct (w:=(decide (v<0))||(decide ((l.length:Int)≤v))) rfl c rfl) (Zj ?_)))))
   exact ⟨rfl,rfl,rfl,rfl,rfl,rfl,rfl⟩
  ·refine Zq rfl c (Zb (.n v) rfl (Zq rfl c (Zb v_l rfl (Zq rfl c (Zc (Zap (hO.sl 0 rfl) rfl) (Zq rfl c (Zc (Zda rfl rfl) (Zc (Zcu rfl c rfl) (Zj ?_)))))))))
   exact ⟨rfl,rfl,rfl,rfl,rfl,rfl,rfl⟩
 rintro _ _ ⟨rfl,ay,R,S,T,D,U⟩
 refine Zb _ ay (zN 3 (fun f k=>h=k∧f 24=.b (((decide (v<0))||(decide ((l.length:Int)≤v)))||(decide (w<0)))∧f 0=v_l∧f 1=.n v∧f 2=.n d∧f 3=.n w∧f 4=.n o) ?_ ?_)
 ·rcases bc ((decide (v<0))||(decide ((l.length:Int)≤v))) with i|i
  ·refine Zl rfl i (Zl rfl i (Zc (Zct (w:=((decide (v<0))||(decide ((l.length:Int)≤v)))||(decide (w<0))) rfl i rfl) (Zj ?_)))
   exact ⟨rfl,rfl,R,S,T,D,U⟩
  ·refine Zq rfl i (Zb _ D (Zq rfl i (Zc (zA rfl rfl) (Zc (Zcu rfl i rfl) (Zj ?_)))))
   exact ⟨rfl,rfl,R,S,T,D,U⟩
 rintro _ _ ⟨rfl,az,E,W,X,F,Y⟩
 refine Zb _ az (zN 5 (fun f k=>h=k∧f 30=.b ((((decide (v<0))||(decide ((l.length:Int)≤v)))||(decide (w<0)))||(decide ((l.length:Int)≤w)))∧f 0=v_l∧f 1=.n v∧f 2=.n d∧f 3=.n w∧f 4=.n o) ?_ ?_)
 ·rcases bc (((decide (v<0))||(decide ((l.length:Int)≤v)))||(decide (w<0))) with e|e
  ·refine Zl rfl e (Zl rfl e (Zl rfl e (Zl rfl e (Zc (Zct (w:=(((decide (v<0))||(decide ((l.length:Int)≤v)))||(decide (w<0)))||(decide ((l.length:Int)≤w))) rfl e rfl) (Zj ?_)))))
   exact ⟨rfl,rfl,E,W,X,F,Y⟩
  ·refine Zq rfl e (Zb _ F (Zq rfl e (Zb _ E (Zq rfl e (Zc (Zap (hO.sl 0 rfl) rfl) (Zq rfl e (Zc (Zda rfl rfl) (Zc (Zcu rfl e rfl) (Zj ?_)))))))))
   exact ⟨rfl,rfl,E,W,X,F,Y⟩
 rintro _ _ ⟨rfl,aA,aa,I,ab,J,ac⟩
 refine Zb _ aA (zN 4 (fun f k=>h=k∧f 35=.b (((((decide (v<0))||(decide ((l.length:Int)≤v)))||(decide (w<0)))||(decide ((l.length:Int)≤w)))||(decide (v=w)))∧f 0=v_l∧f 1=.n v∧f 2=.n d∧f 3=.n w∧f 4=.n o) ?_ ?_)
 ·rcases bc ((((decide (v<0))||(decide ((l.length:Int)≤v)))||(decide (w<0)))||(decide ((l.length:Int)≤w))) with g|g
  ·refine Zl rfl g (Zl rfl g (Zl rfl g (Zc (Zct (w:=((((decide (v<0))||(decide ((l.length:Int)≤v)))||(decide (w<0)))||(decide ((l.length:Int)≤w)))||(decide (v=w))) rfl g rfl) (Zj ?_))))
   exact ⟨rfl,rfl,aa,I,ab,J,ac⟩
  ·refine Zq rfl g (Zb _ I (Zq rfl g (Zb _ J (Zq rfl g (Zc (Zb7 rfl rfl) (Zc (Zcu rfl g rfl) (Zj ?_)))))))
   exact ⟨rfl,rfl,aa,I,ab,J,ac⟩
 rintro _ _ ⟨rfl,aB,ad,ae,K,af,ag⟩
 refine Zb _ aB (zN 3 (fun f k=>h=k∧f 39=.b ((((((decide (v<0))||(decide ((l.length:Int)≤v)))||(decide (w<0)))||(decide ((l.length:Int)≤w)))||(decide (v=w)))||(decide (d<0)))∧f 0=v_l∧f 1=.n v∧f 2=.n d∧f 3=.n w∧f 4=.n o) ?_ ?_)
 ·rcases bc (((((decide (v<0))||(decide ((l.length:Int)≤v)))||(decide (w<0)))||(decide ((l.length:Int)≤w)))||(decide (v=w))) with j|j
  ·refine Zl rfl j (Zl rfl j (Zc (Zct (w:=(((((decide (v<0))||(decide ((l.length:Int)≤v)))||(decide (w<0)))||(decide ((l.length:Int)≤w)))||(decide (v=w)))||(decide (d<0))) rfl j rfl) (Zj ?_)))
   exact ⟨rfl,rfl,ad,ae,K,af,ag⟩
  ·refine Zq rfl j (Zb _ K (Zq rfl j (Zc (zA rfl rfl) (Zc (Zcu rfl j rfl) (Zj ?_)))))
   exact ⟨rfl,rfl,ad,ae,K,af,ag⟩
 rintro _ _ ⟨rfl,aC,ah,ai,L,aj,ak⟩
 refine Zb _ aC (zN 3 (fun f k=>h=k∧f 43=.b (((((((decide (v<0))||(decide ((l.length:Int)≤v)))||(decide (w<0)))||(decide ((l.length:Int)≤w)))||(decide (v=w)))||(decide (d<0)))||(decide (3<d)))∧f 0=v_l∧f 1=.n v∧f 2=.n d∧f 3=.n w∧f 4=.n o) ?_ ?_)
 ·rcases bc ((((((decide (v<0))||(decide ((l.length:Int)≤v)))||(decide (w<0)))||(decide ((l.length:Int)≤w)))||(decide (v=w)))||(decide (d<0))) with m|m
  ·refine Zl rfl m (Zl rfl m (Zc (Zct (w:=((((((decide (v<0))||(decide ((l.length:Int)≤v)))||(decide (w<0)))||(decide ((l.length:Int)≤w)))||(decide (v=w)))||(decide (d<0)))||(decide (3<d))) rfl m rfl) (Zj ?_)))
   exact ⟨rfl,rfl,ah,ai,L,aj,ak⟩
  ·refine Zq rfl m (Zb _ L (Zq rfl m (Zc (Zd1 rfl rfl) (Zc (Zcu rfl m rfl) (Zj ?_)))))
   exact ⟨rfl,rfl,ah,ai,L,aj,ak⟩
 rintro _ _ ⟨rfl,aD,al,am,an,ao,M⟩
 refine Zb _ aD (zN 3 (fun f k=>h=k∧f 47=.b ((((((((decide (v<0))||(decide ((l.length:Int)≤v)))||(decide (w<0)))||(decide ((l.length:Int)≤w)))||(decide (v=w)))||(decide (d<0)))||(decide (3<d)))||(decide (o<(-2))))∧f 0=v_l∧f 1=.n v∧f 2=.n d∧f 3=.n w∧f 4=.n o) ?_ ?_)
 ·rcases bc (((((((decide (v<0))||(decide ((l.length:Int)≤v)))||(decide (w<0)))||(decide ((l.length:Int)≤w)))||(decide (v=w)))||(decide (d<0)))||(decide (3<d))) with p|p
  ·refine Zl rfl p (Zl rfl p (Zc (Zct (w:=(((((((decide (v<0))||(decide ((l.length:Int)≤v)))||(decide (w<0)))||(decide ((l.length:Int)≤w)))||(decide (v=w)))||(decide (d<0)))||(decide (3<d)))||(decide (o<(-2)))) rfl p rfl) (Zj ?_)))
   exact ⟨rfl,rfl,al,am,an,ao,M⟩
  ·refine Zq rfl p (Zb _ M (Zq rfl p (Zc (zA rfl rfl) (Zc (Zcu rfl p rfl) (Zj ?_)))))
   exact ⟨rfl,rfl,al,am,an,ao,M⟩
 rintro _ _ ⟨rfl,aE,q,N,A,O,ap⟩
 refine Ze (zu hp aE (fun av hp=>?_) (fun av hp=>?_))
 ·refine Zg (Zb _ q (Zb v_l rfl (Zb (.n 2) rfl (Ze (zK (ZI (ZN (ZY rfl (ZY rfl Z6)) ?_)))))))
  cases hp
  exact ⟨v_l,rfl,(hO.pk [0])⟩
 ·refine Zak (Z9 (Zg (Zb _ q (Zb _ N (Zb _ A (ckk hp fun s hp=>Zc (ZP (hO.sl 0 rfl) rfl rfl s) (Zc (ZaR (hO.sl 0 rfl) (Zf s) rfl rfl) (ckk hp fun P hp=>Zc (Zbd (hO.sl 0 rfl) (Zf s) rfl rfl P rfl) (Zc (zw (hO.sl 0 rfl) rfl (Zf s) (zL P)) ?_)))))))))
  refine Zc (Zca rfl rfl) (Zb (.b (!(decide (((gi l v.toNat).Next).get d=(-1))))) rfl ?_)
  obtain ⟨t,aM,hp⟩:=ZaP hp
  refine zN 11 (fun f k=>h=k∧f 68=.b t∧f 0=v_l∧f 1=.n v∧f 2=.n d∧f 3=.n w∧f 4=.n o) ?_ ?_
  ·clear hp;rcases Zbi aM with ⟨a,hp⟩|⟨a,hp⟩
   ·refine Zl rfl a (Zl rfl a (Zl rfl a (Zl rfl a (Zl rfl a (Zl rfl a (Zl rfl a (Zl rfl a (Zl rfl a (Zl rfl a (Zc (ZaT (v:=.b t) rfl a (Eq.trans (b:=V.b true) rfl (congrArg V.b (Option.some.inj hp)))) (Zj ?_)))))))))))
    exact ⟨rfl,rfl,q,N,A,O,ap⟩
   ·refine Zq rfl a (Zb _ q (Zq rfl a (Zb _ O (Zq rfl a (Zb _ A (Zq rfl a (ckk hp fun aw hp=>Zc (ZV rfl rfl aw) (Zq rfl a (Zc (ZcO rfl rfl (by decide)) (Zq rfl a (ckk hp fun y hp=>Zc (ZP (hO.sl 0 rfl) rfl rfl y) ?_)))))))))))
    refine Zq rfl a (Zc (ZaR (hO.sl 0 rfl) (Zf y) rfl rfl) (Zq rfl a (ckk hp fun Q hp=>Zc (Zbd (hO.sl 0 rfl) (Zf y) rfl rfl Q rfl) (Zq rfl a (Zc (zw (hO.sl 0 rfl) rfl (Zf y) (zL Q)) (Zq rfl a (Zc (Zca rfl rfl) (Zc (ZaI (v:=.b t) rfl a (Eq.trans (b:=V.b (!(decide (((gi l w.toNat).Next).get ((d+2).tmod 4)=(-1))))) rfl (congrArg V.b (Option.some.inj hp)))) (Zj ?_)))))))))
    exact ⟨rfl,rfl,q,N,A,O,ap⟩
  rintro _ _ ⟨rfl,aJ,aq,aF,aG,aH,aI⟩
  refine Ze (zu hp aJ (fun au hp=>?_) (fun au hp=>?_))
  ·refine Zg (Zb _ aq (Zb v_l rfl (Zb (.n 9) rfl (Ze (zK (ZI (ZN (ZY rfl (ZY rfl Z6)) ?_)))))))
   cases hp
   exact ⟨v_l,rfl,(hO.pk [0])⟩
  ·refine Zak (Zg (Zb _ aq (Zb _ aF (Zb _ aG (Zb _ aH (Zb _ aI ?_))))))
   obtain ⟨x,⟨_,_,ax,C,rfl,aL⟩,hp⟩:=bdk hp fun _=>Zae.ok (h:=h)  (hO.sl 0 rfl)
   refine zU rfl rfl ax ?_
   have aK:=hO.call aL rfl
   refine Zb C rfl (Ze (Zg (Zb C rfl (Zb C rfl (Zb (.n 0) rfl (Ze (zK (ZN (ZY rfl (ZY rfl Z6)) ?_))))))))
   cases hp
   exact ⟨C,rfl,(aK.pk [1])⟩

theorem Zbv.ok {h:Hp}{d:Int}   {r:Bool}(hp:Zbv d=some r) :
  ∃ u k',Is G 90 [.n d] h u k'∧V.b r=u∧Own (fun r=>r<h.n) h k' []:=by
 refine WC.is (ZaD ZfD ?_)
 unfold Zbv at hp
 let B:Nat→Prop:=(fun r=>r<h.n)
 have hO:Own B h h []:=Own.start0 h
 refine Zg (Zb (.b false) rfl (Ze (Zg (Zb (.n d) rfl (Zc (Zda rfl rfl) (Zb (.b (decide (0≤d))) rfl (zN 3 (fun f k=>h=k∧f 8=.b ((decide (0≤d))&&(decide (d≤3)))) ?_ ?_)))))))
 ·rcases bc (decide (0≤d)) with a|a
  ·refine Zq rfl a (Zb (.n d) rfl (Zq rfl a (Zc (Zkw rfl rfl) (Zc (ZcU rfl a rfl) (Zj ?_)))))
   exact ⟨rfl,rfl⟩
  ·refine Zl rfl a (Zl rfl a (Zc (ZcT (w:=(decide (0≤d))&&(decide (d≤3))) rfl a rfl) (Zj ?_)))
   exact ⟨rfl,rfl⟩
 rintro _ _ ⟨rfl,c⟩
 refine Zb _ c (Ze (zK (ZN (ZY rfl Z6) ?_)))
 cases hp
 exact ⟨rfl,(hO.pk [])⟩

end Mu
