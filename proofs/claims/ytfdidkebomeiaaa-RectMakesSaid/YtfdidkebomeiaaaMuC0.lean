/- The code comes to what was worked out. -/
import Derived.Test.YtfdidkebomeiaaaMuDf
import Derived.Test.YtfdidkebomeiaaaMuPa
set_option linter.unusedVariables false
set_option linter.unnecessarySimpa false
set_option linter.unusedSimpArgs false
set_option maxHeartbeats 2000000
set_option maxRecDepth 10000
namespace Mu
open Go (IntKind BinOp UnOp)
theorem zS {x:Za}{i:Int}(h:0≤i∧i<4):(Zd.c x)[0+i.toNat*1]?=some (.n ((x.Next).get i)):=by
 rcases (show i=0∨i=1∨i=2∨i=3 by omega) with rfl|rfl|rfl|rfl<;>rfl
theorem Zcq {x:Za}{i:Int}{w:Int}(h:0≤i∧i<4):over (Zd.c x) (0+i.toNat*1) [.n w]=Zd.c ({ x with Next:=(x.Next).set i w }):=by
 rcases (show i=0∨i=1∨i=2∨i=3 by omega) with rfl|rfl|rfl|rfl<;>rfl
theorem Zc3 {x:Za}{i:Int}(h:0≤i∧i<4):(Zd.c x)[4+i.toNat*1]?=some (.n ((x.Owner).get i)):=by
 rcases (show i=0∨i=1∨i=2∨i=3 by omega) with rfl|rfl|rfl|rfl<;>rfl
theorem Zc4 {x:Za}{i:Int}{w:Int}(h:0≤i∧i<4):over (Zd.c x) (4+i.toNat*1) [.n w]=Zd.c ({ x with Owner:=(x.Owner).set i w }):=by
 rcases (show i=0∨i=1∨i=2∨i=3 by omega) with rfl|rfl|rfl|rfl<;>rfl
theorem ZpY {x:A4 Int}{i:Int}(h:0≤i∧i<4):(Zc8.c x)[0+i.toNat*1]?=some (.n ((x).get i)):=by
 rcases (show i=0∨i=1∨i=2∨i=3 by omega) with rfl|rfl|rfl|rfl<;>rfl
theorem Zi2 {x:A4 Int}{i:Int}(h:0≤i∧i<4):ZcU false (Zc8.c x) (i.toNat*1) 1=some (.n ((x).get i)):=by
 rcases (show i=0∨i=1∨i=2∨i=3 by omega) with rfl|rfl|rfl|rfl<;>rfl
theorem ZpZ {x:A4 Int}{i:Int}{w:Int}(h:0≤i∧i<4):over (Zc8.c x) (0+i.toNat*1) [.n w]=Zc8.c ((x).set i w):=by
 rcases (show i=0∨i=1∨i=2∨i=3 by omega) with rfl|rfl|rfl|rfl<;>rfl
theorem ZiU (cs:List Go.Value) (h:OkL [some .u8] cs):∃ x:Int,Zgz.c x=cs.map toV∧ZfC x:=by
 obtain ⟨n0,cs0,rfl,w0,h0⟩:=h.inv_i
 obtain rfl:=h0.inv_n
 exact ⟨n0,rfl,w0⟩
theorem Zpe (cs:List Go.Value) (h:OkL [some .i8] cs):∃ x:Int,Zl5.c x=cs.map toV∧ZkV x:=by
 obtain ⟨n0,cs0,rfl,w0,h0⟩:=h.inv_i
 obtain rfl:=h0.inv_n
 exact ⟨n0,rfl,w0⟩
theorem zu.ok {h:Hp}{n:Int}   {r:(List Za)}(hp:zu n=some r) :
  ∃ u k',Is G 46 [.n n] h u k'∧∃ t,t=u∧Own (fun r=>r<h.n) h k' [eSl Zd t r]:=by
 refine WC.is (ZaB Zej ?_)
 unfold zu at hp
 let B:Nat→Prop:=(fun r=>r<h.n)
 have hO:Own B h h []:=Own.start0 h
 refine Zj (Zb (.sn) rfl (Ze (Zj (Zb (.n n) rfl (ckk hp fun A hp=>Zaw (hO.mks (E:=Zd) (y:=(⟨⟨0,0,0,0⟩,⟨0,0,0,0⟩⟩:Za)) (bytes:=64) (z:=n) hO.fr rfl rfl rfl A (by decide)) ?_)))))
 rintro a _ ⟨_,_,F⟩
 refine Zb a rfl (Ze (ZM (Zj (Zb (.n 0) rfl (Ze (Za2 (Zci hp (fun|(l,v),fr,k=>fr 0=.n n∧fr 3=a∧fr 4=.n v∧Own B h k [eSl Zd a l]) (fun l1 e fr k=>e=(.exit 0)∧fr 3=a∧Own B h k [eSl Zd a l1]) ⟨rfl,rfl,rfl,(F.pk [0])⟩ ?_ ?_)))))))
 ·rintro ⟨l,v⟩ _ _ ⟨o,p,q,m⟩ _ hp
  dsimp only [zu.s0] at hp
  refine ZM (Zj (Zb _ q (Zb _ o (Zc (zV rfl rfl) (Ze (zD hp rfl (fun w hp=>?_) (fun w hp=>?_)))))))
  ·refine Za3 (ZM (Za2 (Zj (Zb (.n 0) rfl (Ze (Za2 (Zci hp (fun|(l2,d),fr,k=>fr 0=.n n∧fr 3=a∧fr 4=.n v∧fr 5=.n d∧Own B h k [eSl Zd a l2]) (fun l3 e fr k=>e=(.exit 2)∧fr 0=.n n∧fr 3=a∧fr 4=.n v∧Own B h k [eSl Zd a l3]) ⟨o,p,q,rfl,(m.pk [0])⟩ ?_ ?_)))))))
   ·rintro ⟨l2,d⟩ _ _ ⟨s,g,i,j,b⟩ _ hp
    dsimp only [zu.s1] at hp
    refine ZM (Zj (Zb _ j (Zc (zV rfl rfl) (Ze (zD hp rfl (fun x hp=>?_) (fun x hp=>?_))))))
    ·refine Za3 (ZM (Za2 (Zar (Zb _ g (Zb _ i (Zb _ j (ckk hp fun c hp=>Zc (ZW (b.sl 0 rfl) rfl rfl c) (Zc (Za6 (b.sl 0 rfl) (Zf c) rfl rfl) (ckk hp fun f hp=>Zc (Zbz (b.sl 0 rfl) (Zf c) rfl rfl f rfl) (Zaw (b.ste (y:=({ gi l2 v.toNat with Next:=((gi l2 v.toNat).Next).set d (-1) })) 0 rfl rfl (Zf c) rfl rfl ⟨rfl,(by have:=f;exact (show 0+d.toNat*1+1≤8 by omega)),rfl⟩ (Zcq f)) ?_))))))))))
     rintro _ _ ⟨rfl,_,_,J⟩
     refine Zo (Zat (Zx (Zar (Zb _ j (ckk hp fun C hp=>Zc (zG rfl rfl C) (Zb (.n (d+1)) rfl (Zo ?_)))))))
     cases hp
     exact ⟨rfl,s,g,i,rfl,(J.pk [0])⟩
    ·refine ZbU (Zas ?_)
     cases hp
     exact ⟨nofun,rfl,s,g,i,(b.pk [0])⟩
   rintro l3 hp _ _ _ ⟨rfl,L,M,N,I⟩
   refine Zbe (Zat (Zx (Zar (Zb _ N (ckk hp fun D hp=>Zc (zG rfl rfl D) (Zb (.n (v+1)) rfl (Zo ?_)))))))
   cases hp
   exact ⟨rfl,L,M,rfl,(I.pk [0])⟩
  ·refine ZbU (Zas ?_)
   cases hp
   exact ⟨nofun,rfl,p,(m.pk [0])⟩
 rintro l1 hp _ _ _ ⟨rfl,K,H⟩
 refine Zbe (Zx (Zj (Zb _ K (Zb a rfl (Ze (zR (zf (zj rfl ZF) ?_)))))))
 cases hp
 exact ⟨a,rfl,(H.pk [0])⟩

theorem ZO.ok {h:Hp}{at_:List Zh}{i:Int}{d:Int}{v_at_:V}(s_at_:Sl Zi h v_at_ at_) {r:Int}(hp:ZO at_ i d=some r) :
  ∃ u k',Is G 63 [v_at_,.n i,.n d] h u k'∧V.n r=u∧Own (fun r=>r<h.n) h k' []:=by
 refine WC.is (ZaB Zdr ?_)
 unfold ZO at hp
 let B:Nat→Prop:=(fun r=>r<h.n)
 have hO:Own B h h []:=Own.start0 h
 refine Zj (Zb (.n 0) rfl (Ze (Zj (Zb (.n (-1)) rfl (Ze (ZM (Zj (Zb (.n 0) rfl ?_))))))))
 refine Ze (Za2 (Zci hp (fun|(best,k_),fr,k=>fr 0=v_at_∧fr 1=.n i∧fr 2=.n d∧fr 7=.n best∧fr 8=.n k_∧Own B h k []) (fun best1 e fr k=>e=(.exit 0)∧fr 7=.n best1∧Own B h k []) ⟨rfl,rfl,rfl,rfl,rfl,(hO.pk [])⟩ ?_ ?_))
 ·rintro ⟨best,k_⟩ _ I ⟨C,an,ao,ap,K,am⟩ _ hp
  dsimp only [ZO.s0] at hp
  refine ZM (Zj (Zb _ K (Zb _ C (Zc (ZaC (am.rd0 s_at_.rd) rfl) (Zc (zV rfl rfl) (Ze (zD hp rfl (fun aG hp=>?_) (fun aG hp=>?_))))))))
  ·refine Za3 (ZM (Za2 (ZM (ZM (Zh2 ?_)))))
   have o:=am.bump 45
   refine Zac _ ao (ZG rfl (ZbZ rfl rfl) (Zac (.b (decide (d=0))) rfl ?_))
   obtain ⟨t,a9,hp⟩:=Za7 hp
   refine Zck 12 (fun f k=>(I.bump 45)=k∧f 29=.b t∧f 0=v_at_∧f 1=.n i∧f 2=.n d∧f 7=.n best∧f 8=.n k_) ?_ ?_
   ·clear hp;rcases ZaW a9 with ⟨c,hp⟩|⟨c,hp⟩
    ·refine Zv rfl c (Zac _ C (Zv rfl c (Zac _ K (Zv rfl c (ckk hp fun M hp=>ZG rfl (ZW (o.rd0 s_at_.rd) rfl rfl M) (Zv rfl c (ZG rfl (Za6 (o.rd0 s_at_.rd) (Zf M) rfl rfl) (Zv rfl c (ZG rfl (zt (o.rd0 s_at_.rd) rfl (Zf M) rfl) (Zv rfl c (Zac _ C (Zv rfl c ?_))))))))))))
     refine Zac _ an (Zv rfl c (ckk hp fun Q hp=>ZG rfl (ZW (o.rd0 s_at_.rd) rfl rfl Q) (Zv rfl c (ZG rfl (Za6 (o.rd0 s_at_.rd) (Zf Q) rfl rfl) (Zv rfl c (ZG rfl (zt (o.rd0 s_at_.rd) rfl (Zf Q) rfl) (Zv rfl c (ZG rfl (ZbZ rfl rfl) (ZG rfl (ZaH (v:=.b t) rfl c (Eq.trans (b:=V.b (decide ((gi at_ k_.toNat).Y=(gi at_ i.toNat).Y))) rfl (congrArg V.b (Option.some.inj hp)))) (Zal ?_))))))))))
     exact ⟨rfl,rfl,C,an,ao,ap,K⟩
    ·refine Zn rfl c (Zn rfl c (Zn rfl c (Zn rfl c (Zn rfl c (Zn rfl c (Zn rfl c (Zn rfl c (Zn rfl c (Zn rfl c (Zn rfl c (ZG rfl (Za0 (v:=.b t) rfl c (Eq.trans (b:=V.b false) rfl (congrArg V.b (Option.some.inj hp)))) (Zal ?_))))))))))))
     exact ⟨rfl,rfl,C,an,ao,ap,K⟩
   rintro _ _ ⟨rfl,aL,D,ac,av,aw,ad⟩
   refine Zac _ aL ?_
   obtain ⟨t1,ba,hp⟩:=Za7 hp
   refine Zck 12 (fun f k=>(I.bump 45)=k∧f 42=.b t1∧f 0=v_at_∧f 1=.n i∧f 2=.n d∧f 7=.n best∧f 8=.n k_) ?_ ?_
   ·clear hp;rcases ZaW ba with ⟨g,hp⟩|⟨g,hp⟩
    ·refine Zv rfl g (Zac _ D (Zv rfl g (Zac _ ad (Zv rfl g (ckk hp fun R hp=>ZG rfl (ZW (o.rd0 s_at_.rd) rfl rfl R) (Zv rfl g (ZG rfl (Za6 (o.rd0 s_at_.rd) (Zf R) rfl rfl) (Zv rfl g (ZG rfl (zt (o.rd0 s_at_.rd) rfl (Zf R) rfl) (Zv rfl g (Zac _ D (Zv rfl g ?_))))))))))))
     refine Zac _ ac (Zv rfl g (ckk hp fun S hp=>ZG rfl (ZW (o.rd0 s_at_.rd) rfl rfl S) (Zv rfl g (ZG rfl (Za6 (o.rd0 s_at_.rd) (Zf S) rfl rfl) (Zv rfl g (ZG rfl (zt (o.rd0 s_at_.rd) rfl (Zf S) rfl) (Zv rfl g (ZG rfl (ZeU rfl rfl) (ZG rfl (ZaH (v:=.b t1) rfl g (Eq.trans (b:=V.b (decide (((gi at_ i.toNat).X)<((gi at_ k_.toNat).X)))) rfl (congrArg V.b (Option.some.inj hp)))) (Zal ?_))))))))))
     exact ⟨rfl,rfl,D,ac,av,aw,ad⟩
    ·refine Zn rfl g (Zn rfl g (Zn rfl g (Zn rfl g (Zn rfl g (Zn rfl g (Zn rfl g (Zn rfl g (Zn rfl g (Zn rfl g (Zn rfl g (ZG rfl (Za0 (v:=.b t1) rfl g (Eq.trans (b:=V.b false) rfl (congrArg V.b (Option.some.inj hp)))) (Zal ?_))))))))))))
     exact ⟨rfl,rfl,D,ac,av,aw,ad⟩
   rintro _ _ ⟨rfl,aM,w,ae,af,x,E⟩
   refine Zac _ aM ?_
   obtain ⟨t2,bb,hp⟩:=Za7 hp
   refine Zck 16 (fun f k=>(I.bump 45)=k∧f 59=.b t2∧f 0=v_at_∧f 1=.n i∧f 2=.n d∧f 7=.n best∧f 8=.n k_) ?_ ?_
   ·clear hp;rcases ZaW bb with ⟨q,hp⟩|⟨q,hp⟩
    ·refine Zv rfl q (Zac _ x (Zv rfl q (ZG rfl (zV rfl rfl) (Zv rfl q (Zac (.b (decide (best<0))) rfl ?_)))))
     obtain ⟨t3,bc,hp⟩:=Za7 hp
     refine Zck 12 (fun f k=>(I.bump 45)=k∧f 58=.b t3∧f 0=v_at_∧f 1=.n i∧f 2=.n d∧f 43=.b t1∧f 7=.n best∧f 8=.n k_) ?_ ?_
     ·clear hp;rcases ZaW bc with ⟨j,hp⟩|⟨j,hp⟩
      ·refine Zn rfl j (Zn rfl j (Zn rfl j (Zn rfl j (Zn rfl j (Zn rfl j (Zn rfl j (Zn rfl j (Zn rfl j (Zn rfl j (Zn rfl j (Zv rfl q (ZG rfl (ZaH (v:=.b t3) rfl j (Eq.trans (b:=V.b true) rfl (congrArg V.b (Option.some.inj hp)))) (Zal ?_)))))))))))))
       exact ⟨rfl,rfl,w,ae,af,rfl,x,E⟩
      ·refine Zv rfl j (Zac _ w (Zv rfl j (Zac _ E (Zv rfl j (ckk hp fun T hp=>ZG rfl (ZW (o.rd0 s_at_.rd) rfl rfl T) (Zv rfl j (ZG rfl (Za6 (o.rd0 s_at_.rd) (Zf T) rfl rfl) (Zv rfl j (ZG rfl (zt (o.rd0 s_at_.rd) rfl (Zf T) rfl) (Zv rfl j (Zac _ w (Zv rfl j ?_))))))))))))
       refine Zac _ x (Zv rfl j (ckk hp fun U hp=>ZG rfl (ZW (o.rd0 s_at_.rd) rfl rfl U) (Zv rfl j (ZG rfl (Za6 (o.rd0 s_at_.rd) (Zf U) rfl rfl) (Zv rfl j (ZG rfl (zt (o.rd0 s_at_.rd) rfl (Zf U) rfl) (Zv rfl j (ZG rfl (zV rfl rfl) (Zv rfl q (ZG rfl (Za0 (v:=.b t3) rfl j (Eq.trans (b:=V.b (decide (((gi at_ k_.toNat).X)<((gi at_ best.toNat).X)))) rfl (congrArg V.b (Option.some.inj hp)))) (Zal ?_)))))))))))
       exact ⟨rfl,rfl,w,ae,af,rfl,x,E⟩
     rintro _ _ ⟨rfl,aR,aN,aO,aP,aQ,aS,aT⟩
     refine ZG rfl (ZaH (v:=.b t2) aQ q (Eq.trans (b:=V.b t3) aR (congrArg V.b (Option.some.inj hp)))) (Zal ?_)
     exact ⟨rfl,rfl,aN,aO,aP,aS,aT⟩
    ·refine Zn rfl q (Zn rfl q (Zn rfl q (Zbv rfl (Zbv rfl (Zbv rfl (Zbv rfl (Zbv rfl (Zbv rfl (Zbv rfl (Zbv rfl (Zbv rfl (Zbv rfl (Zbv rfl ?_)))))))))))))
     refine Zn rfl q (ZG rfl (Za0 (v:=.b t2) rfl q (Eq.trans (b:=V.b false) rfl (congrArg V.b (Option.some.inj hp)))) (Zal ?_))
     exact ⟨rfl,rfl,w,ae,af,x,E⟩
   rintro _ _ ⟨rfl,aU,ax,ay,az,aV,ag⟩
   refine Zal (Zx (ZiE hp (fun best2 e fr k=>e=.normal∧fr 0=v_at_∧fr 1=.n i∧fr 2=.n d∧fr 7=.n best2∧fr 8=.n k_∧Own B h k []) (fun _ hp=>?_) ?_))
   ·refine zD hp aU (fun aI hp=>?_) (fun aI hp=>?_)
    ·refine Zar (Zb _ ag (Zb (.n k_) rfl (Zo ?_)))
     cases hp
     exact ⟨rfl,ax,ay,az,rfl,ag,(o.pk [])⟩
    ·refine Zc5 ?_
     cases hp
     exact ⟨rfl,ax,ay,az,aV,ag,(o.pk [])⟩
   rintro best2 hp _ _ J ⟨rfl,L,aq,ar,aF,au,a8⟩
   refine Zx (ZM (Zh2 ?_))
   have p:=a8.bump 45
   refine Zac _ ar (ZG rfl (ZbZ rfl rfl) (Zac (.b (decide (d=1))) rfl ?_))
   obtain ⟨t4,bd,hp⟩:=Za7 hp
   refine Zck 12 (fun f k=>(J.bump 45)=k∧f 75=.b t4∧f 0=v_at_∧f 1=.n i∧f 2=.n d∧f 7=.n best2∧f 8=.n k_) ?_ ?_
   ·clear hp;rcases ZaW bd with ⟨l,hp⟩|⟨l,hp⟩
    ·refine Zv rfl l (Zac _ L (Zv rfl l (Zac _ au (Zv rfl l (ckk hp fun W hp=>ZG rfl (ZW (p.rd0 s_at_.rd) rfl rfl W) (Zv rfl l (ZG rfl (Za6 (p.rd0 s_at_.rd) (Zf W) rfl rfl) (Zv rfl l (ZG rfl (zt (p.rd0 s_at_.rd) rfl (Zf W) rfl) (Zv rfl l (Zac _ L (Zv rfl l ?_))))))))))))
     refine Zac _ aq (Zv rfl l (ckk hp fun aa hp=>ZG rfl (ZW (p.rd0 s_at_.rd) rfl rfl aa) (Zv rfl l (ZG rfl (Za6 (p.rd0 s_at_.rd) (Zf aa) rfl rfl) (Zv rfl l (ZG rfl (zt (p.rd0 s_at_.rd) rfl (Zf aa) rfl) (Zv rfl l (ZG rfl (ZbZ rfl rfl) (ZG rfl (ZaH (v:=.b t4) rfl l (Eq.trans (b:=V.b (decide ((gi at_ k_.toNat).X=(gi at_ i.toNat).X))) rfl (congrArg V.b (Option.some.inj hp)))) (Zal ?_))))))))))
     exact ⟨rfl,rfl,L,aq,ar,aF,au⟩
    ·refine Zn rfl l (Zn rfl l (Zn rfl l (Zn rfl l (Zn rfl l (Zn rfl l (Zn rfl l (Zn rfl l (Zn rfl l (Zn rfl l (Zn rfl l (ZG rfl (Za0 (v:=.b t4) rfl l (Eq.trans (b:=V.b false) rfl (congrArg V.b (Option.some.inj hp)))) (Zal ?_))))))))))))
     exact ⟨rfl,rfl,L,aq,ar,aF,au⟩
   rintro _ _ ⟨rfl,aW,F,ah,aA,aB,ai⟩
   refine Zac _ aW ?_
   obtain ⟨t5,be,hp⟩:=Za7 hp
   refine Zck 12 (fun f k=>(J.bump 45)=k∧f 88=.b t5∧f 0=v_at_∧f 1=.n i∧f 2=.n d∧f 7=.n best2∧f 8=.n k_) ?_ ?_
   ·clear hp;rcases ZaW be with ⟨m,hp⟩|⟨m,hp⟩
    ·refine Zv rfl m (Zac _ F (Zv rfl m (Zac _ ai (Zv rfl m (ckk hp fun ab hp=>ZG rfl (ZW (p.rd0 s_at_.rd) rfl rfl ab) (Zv rfl m (ZG rfl (Za6 (p.rd0 s_at_.rd) (Zf ab) rfl rfl) (Zv rfl m (ZG rfl (zt (p.rd0 s_at_.rd) rfl (Zf ab) rfl) (Zv rfl m (Zac _ F (Zv rfl m ?_))))))))))))
     refine Zac _ ah (Zv rfl m (ckk hp fun N hp=>ZG rfl (ZW (p.rd0 s_at_.rd) rfl rfl N) (Zv rfl m (ZG rfl (Za6 (p.rd0 s_at_.rd) (Zf N) rfl rfl) (Zv rfl m (ZG rfl (zt (p.rd0 s_at_.rd) rfl (Zf N) rfl) (Zv rfl m (ZG rfl (ZeU rfl rfl) (ZG rfl (ZaH (v:=.b t5) rfl m (Eq.trans (b:=V.b (decide (((gi at_ i.toNat).Y)<((gi at_ k_.toNat).Y)))) rfl (congrArg V.b (Option.some.inj hp)))) (Zal ?_))))))))))
     exact ⟨rfl,rfl,F,ah,aA,aB,ai⟩
    ·refine Zn rfl m (Zn rfl m (Zn rfl m (Zn rfl m (Zn rfl m (Zn rfl m (Zn rfl m (Zn rfl m (Zn rfl m (Zn rfl m (Zn rfl m (ZG rfl (Za0 (v:=.b t5) rfl m (Eq.trans (b:=V.b false) rfl (congrArg V.b (Option.some.inj hp)))) (Zal ?_))))))))))))
     exact ⟨rfl,rfl,F,ah,aA,aB,ai⟩
   rintro _ _ ⟨rfl,aX,y,aj,ak,A,H⟩
   refine Zac _ aX ?_
   obtain ⟨t6,bf,hp⟩:=Za7 hp
   refine Zck 16 (fun f k=>(J.bump 45)=k∧f 105=.b t6∧f 0=v_at_∧f 1=.n i∧f 2=.n d∧f 7=.n best2∧f 8=.n k_) ?_ ?_
   ·clear hp;rcases ZaW bf with ⟨s,hp⟩|⟨s,hp⟩
    ·refine Zv rfl s (Zac _ A (Zv rfl s (ZG rfl (zV rfl rfl) (Zv rfl s (Zac (.b (decide (best2<0))) rfl ?_)))))
     obtain ⟨t7,bg,hp⟩:=Za7 hp
     refine Zck 12 (fun f k=>(J.bump 45)=k∧f 104=.b t7∧f 0=v_at_∧f 1=.n i∧f 2=.n d∧f 7=.n best2∧f 8=.n k_∧f 89=.b t5) ?_ ?_
     ·clear hp;rcases ZaW bg with ⟨a,hp⟩|⟨a,hp⟩
      ·refine Zn rfl a (Zn rfl a (Zn rfl a (Zn rfl a (Zn rfl a (Zn rfl a (Zn rfl a (Zn rfl a (Zn rfl a (Zn rfl a (Zn rfl a (Zv rfl s (ZG rfl (ZaH (v:=.b t7) rfl a (Eq.trans (b:=V.b true) rfl (congrArg V.b (Option.some.inj hp)))) (Zal ?_)))))))))))))
       exact ⟨rfl,rfl,y,aj,ak,A,H,rfl⟩
      ·refine Zv rfl a (Zac _ y (Zv rfl a (Zac _ H (Zv rfl a (ckk hp fun O hp=>ZG rfl (ZW (p.rd0 s_at_.rd) rfl rfl O) (Zv rfl a (ZG rfl (Za6 (p.rd0 s_at_.rd) (Zf O) rfl rfl) (Zv rfl a (ZG rfl (zt (p.rd0 s_at_.rd) rfl (Zf O) rfl) (Zv rfl a (Zac _ y (Zv rfl a ?_))))))))))))
       refine Zac _ A (Zv rfl a (ckk hp fun P hp=>ZG rfl (ZW (p.rd0 s_at_.rd) rfl rfl P) (Zv rfl a (ZG rfl (Za6 (p.rd0 s_at_.rd) (Zf P) rfl rfl) (Zv rfl a (ZG rfl (zt (p.rd0 s_at_.rd) rfl (Zf P) rfl) (Zv rfl a (ZG rfl (zV rfl rfl) (Zv rfl s (ZG rfl (Za0 (v:=.b t7) rfl a (Eq.trans (b:=V.b (decide (((gi at_ k_.toNat).Y)<((gi at_ best2.toNat).Y)))) rfl (congrArg V.b (Option.some.inj hp)))) (Zal ?_)))))))))))
       exact ⟨rfl,rfl,y,aj,ak,A,H,rfl⟩
     rintro _ _ ⟨rfl,a0,aY,aZ,a1,a2,a3,a4⟩
     refine ZG rfl (ZaH (v:=.b t6) a4 s (Eq.trans (b:=V.b t7) a0 (congrArg V.b (Option.some.inj hp)))) (Zal ?_)
     exact ⟨rfl,rfl,aY,aZ,a1,a2,a3⟩
    ·refine Zn rfl s (Zn rfl s (Zn rfl s (Zbv rfl (Zbv rfl (Zbv rfl (Zbv rfl (Zbv rfl (Zbv rfl (Zbv rfl (Zbv rfl (Zbv rfl (Zbv rfl (Zbv rfl ?_)))))))))))))
     refine Zn rfl s (ZG rfl (Za0 (v:=.b t6) rfl s (Eq.trans (b:=V.b false) rfl (congrArg V.b (Option.some.inj hp)))) (Zal ?_))
     exact ⟨rfl,rfl,y,aj,ak,A,H⟩
   rintro _ _ ⟨rfl,a5,aC,aD,aE,a6,al⟩
   refine Zal (Zx (zD hp a5 (fun aH hp=>?_) (fun aH hp=>?_)))
   ·refine Zar (Zb _ al (Zb (.n k_) rfl (Zo (Zat (Zx (Zar (Zb _ al (ckk hp fun aJ hp=>Zc (zG rfl rfl aJ) (Zb (.n (k_+1)) rfl (Zo ?_))))))))))
    cases hp
    exact ⟨rfl,aC,aD,aE,rfl,rfl,(p.pk [])⟩
   ·refine Zc5 (Zat (Zx (Zar (Zb _ al (ckk hp fun aK hp=>Zc (zG rfl rfl aK) (Zb (.n (k_+1)) rfl (Zo ?_)))))))
    cases hp
    exact ⟨rfl,aC,aD,aE,a6,rfl,(p.pk [])⟩
  ·refine ZbU (Zas ?_)
   cases hp
   exact ⟨nofun,rfl,ap,(am.pk [])⟩
 rintro best1 hp _ _ _ ⟨rfl,bh,a7⟩
 refine Zbe (Zx (Zj (Zb _ bh (Zb (.n best1) rfl (Ze (zR (zf (zj rfl ZF) ?_)))))))
 cases hp
 exact ⟨rfl,(a7.pk [])⟩

theorem ZN.ok {h:Hp}{at_:List Zh}{l:List Za}{i:Int}{w:Int}{v_at_:V}{v_l:V}(s_at_:Sl Zi h v_at_ at_) (s_l:Sl Zd h v_l l) {r:Bool}(hp:ZN at_ l i w=some r) :
  ∃ u k',Is G 64 [v_at_,v_l,.n i,.n w] h u k'∧V.b r=u∧Own (fun r=>r<h.n) h k' []:=by
 refine WC.is (ZaB Zdq ?_)
 unfold ZN at hp
 let B:Nat→Prop:=(fun r=>r<h.n)
 have hO:Own B h h []:=Own.start0 h
 refine Zj (Zb (.b false) rfl (Ze (ZM (Zj (Zb (.n 0) rfl (Ze (Za2 (Zci hp (fun a fr k=>fr 0=v_at_∧fr 1=v_l∧fr 2=.n i∧fr 3=.n w∧fr 9=.n a∧Own B h k []) (fun|.inl _,e,fr,k=>e=(.exit 0)∧Own B h k []|.inr _,e,fr,k=>e=.ret∧fr 8=.b true∧Own B h k []) ⟨rfl,rfl,rfl,rfl,rfl,(hO.pk [])⟩ ?_ ?_))))))))
 ·rintro a _ _ ⟨ch,bB,ci,cj,bC,aN⟩ _ hp
  dsimp only [ZN.s0] at hp
  refine ZM (Zj (Zb _ bC (Zb _ bB (Zc (ZaC (aN.rd0 s_l.rd) rfl) (Zc (zV rfl rfl) (Ze (zD hp rfl (fun bD hp=>?_) (fun bD hp=>?_))))))))
  ·refine Za3 (ZM (Za2 (Zj (Zb (.n 0) rfl (Ze (Za2 (Zci hp (fun d fr k=>fr 0=v_at_∧fr 1=v_l∧fr 2=.n i∧fr 3=.n w∧fr 9=.n a∧fr 10=.n d∧Own B h k []) (fun|.inl _,e,fr,k=>e=(.exit 2)∧fr 0=v_at_∧fr 1=v_l∧fr 2=.n i∧fr 3=.n w∧fr 9=.n a∧Own B h k []|.inr _,e,fr,k=>e=.ret∧fr 8=.b true∧Own B h k []) ⟨ch,bB,ci,cj,bC,rfl,(aN.pk [])⟩ ?_ ?_)))))))
   ·rintro d _ _ ⟨L,N,P,Q,M,O,K⟩ _ hp
    dsimp only [ZN.s1] at hp
    refine ZM (Zj (Zb _ O (Zc (zV rfl rfl) (Ze (zD hp rfl (fun bF hp=>?_) (fun bF hp=>?_))))))
    ·refine Za3 (ZM (Za2 (Zj (Zb _ N (Zb _ M (Zb _ O (ckk hp fun R hp=>Zc (ZW (K.rd0 s_l.rd) rfl rfl R) (Zc (Za6 (K.rd0 s_l.rd) (Zf R) rfl rfl) (ckk hp fun aP hp=>Zc (Zbz (K.rd0 s_l.rd) (Zf R) rfl rfl aP rfl) ?_)))))))))
     refine Zc (zt (K.rd0 s_l.rd) rfl (Zf R) (zS aP)) (Zb (.n (((gi l a.toNat).Next).get d)) rfl (Ze (ZM (Zj (Zb (.n (((gi l a.toNat).Next).get d)) rfl (Zc (zV rfl rfl) (Ze (zD hp rfl (fun bG hp=>?_) (fun bG hp=>?_)))))))))
     ·refine ZbU (Zas (Zbe (Zx (Zar (Zb _ O (ckk hp fun bK hp=>Zc (zG rfl rfl bK) (Zb (.n (d+1)) rfl (Zo ?_))))))))
      cases hp
      exact ⟨rfl,L,N,P,Q,M,rfl,(K.pk [])⟩
     ·refine Za3 (Zj (Zb _ L (Zb _ M (ckk hp fun aQ hp=>Zc (ZW (K.rd0 s_at_.rd) rfl rfl aQ) (Zc (ZeV (K.rd0 s_at_.rd) rfl (Zf aQ)) (Zaw (K.alloc (cs:=Zi.c (⟨0,0⟩:Zh)) K.fr) ?_))))))
      rintro _ _ ⟨I,rfl,_,_,b3⟩
      refine Zaw (b3.stb (cs':=Zi.c (gi at_ a.toNat)) 0 rfl rfl rfl rfl ⟨rfl,Nat.le_of_ble_eq_true rfl,rfl⟩ rfl) ?_
      rintro _ _ ⟨rfl,_,_,T⟩
      refine Ze (Zj (Zb _ L (Zb (.n (((gi l a.toNat).Next).get d)) rfl (ckk hp fun aR hp=>Zc (ZW (T.rd0 s_at_.rd) rfl rfl aR) (Zc (ZeV (T.rd0 s_at_.rd) rfl (Zf aR)) (Zaw (T.alloc (cs:=Zi.c (⟨0,0⟩:Zh)) T.fr) ?_))))))
      rintro _ _ ⟨J,rfl,_,_,b4⟩
      refine Zaw (b4.stb (cs':=Zi.c (gi at_ (((gi l a.toNat).Next).get d:Int).toNat)) 1 rfl rfl rfl rfl ⟨rfl,Nat.le_of_ble_eq_true rfl,rfl⟩ rfl) ?_
      rintro _ g ⟨rfl,_,_,b5⟩
      refine Ze (ZM (ZM (Zh2 ?_)))
      have m:=b5.bump 58
      refine ZG rfl (ZaU (r:=I) (o:=0) rfl rfl) (ZG rfl (Zad (m.box 0 rfl) rfl rfl) (ZG rfl (ZaU (r:=J) (o:=0) rfl rfl) (ZG rfl (Zad (m.box 1 rfl) rfl rfl) (ZG rfl (ZbZ rfl rfl) (Zac (.b (decide ((gi at_ a.toNat).Y=(gi at_ (((gi l a.toNat).Next).get d:Int).toNat).Y))) rfl ?_)))))
      obtain ⟨t,b6,hp⟩:=Za7 hp
      refine Zck 12 (fun f k=>(g.bump 58)=k∧f 58=.b t∧f 0=v_at_∧f 1=v_l∧f 10=.n d∧f 12=.p I 0∧f 13=.p J 0∧f 2=.n i∧f 3=.n w∧f 9=.n a) ?_ ?_
      ·clear hp;rcases ZaW b6 with ⟨s,hp⟩|⟨s,hp⟩
       ·refine Zv rfl s (Zac _ L (Zv rfl s (Zac _ P (Zv rfl s (ckk hp fun ag hp=>ZG rfl (ZW (m.rd0 s_at_.rd) rfl rfl ag) (Zv rfl s (ZG rfl (Za6 (m.rd0 s_at_.rd) (Zf ag) rfl rfl) (Zv rfl s (ZG rfl (zt (m.rd0 s_at_.rd) rfl (Zf ag) rfl) (Zv rfl s (Zac _ L (Zv rfl s ?_))))))))))))
        refine Zac _ Q (Zv rfl s (ckk hp fun ah hp=>ZG rfl (ZW (m.rd0 s_at_.rd) rfl rfl ah) (Zv rfl s (ZG rfl (Za6 (m.rd0 s_at_.rd) (Zf ah) rfl rfl) (Zv rfl s (ZG rfl (zt (m.rd0 s_at_.rd) rfl (Zf ah) rfl) (Zv rfl s (ZG rfl (ZbZ rfl rfl) (ZG rfl (ZaH (v:=.b t) rfl s (Eq.trans (b:=V.b (decide ((gi at_ i.toNat).X=(gi at_ w.toNat).X))) rfl (congrArg V.b (Option.some.inj hp)))) (Zal ?_))))))))))
        exact ⟨rfl,rfl,L,N,O,rfl,rfl,P,Q,M⟩
       ·refine Zn rfl s (Zn rfl s (Zn rfl s (Zn rfl s (Zn rfl s (Zn rfl s (Zn rfl s (Zn rfl s (Zn rfl s (Zn rfl s (Zn rfl s (ZG rfl (Za0 (v:=.b t) rfl s (Eq.trans (b:=V.b false) rfl (congrArg V.b (Option.some.inj hp)))) (Zal ?_))))))))))))
        exact ⟨rfl,rfl,L,N,O,rfl,rfl,P,Q,M⟩
      rintro _ _ ⟨rfl,bS,ak,aS,aT,al,aU,am,aV,aW⟩
      refine Zac _ bS ?_
      obtain ⟨t1,b8,hp⟩:=Za7 hp
      refine Zck 9 (fun f k=>(g.bump 58)=k∧f 68=.b t1∧f 0=v_at_∧f 1=v_l∧f 10=.n d∧f 12=.p I 0∧f 13=.p J 0∧f 2=.n i∧f 3=.n w∧f 9=.n a) ?_ ?_
      ·clear hp;rcases ZaW b8 with ⟨D,hp⟩|⟨D,hp⟩
       ·refine Zv rfl D (ZG rfl (ZaU (r:=I) (o:=0) al rfl) (Zv rfl D (ZG rfl (Zad (m.box 0 rfl) rfl rfl) (Zv rfl D (Zac _ ak (Zv rfl D (Zac _ am (Zv rfl D (ckk hp fun ai hp=>ZG rfl (ZW (m.rd0 s_at_.rd) rfl rfl ai) (Zv rfl D (ZG rfl (Za6 (m.rd0 s_at_.rd) (Zf ai) rfl rfl) (Zv rfl D ?_))))))))))))
        refine ZG rfl (zt (m.rd0 s_at_.rd) rfl (Zf ai) rfl) (Zv rfl D (ZG rfl (zV rfl rfl) (ZG rfl (ZaH (v:=.b t1) rfl D (Eq.trans (b:=V.b (decide (((gi at_ a.toNat).X)<((gi at_ i.toNat).X)))) rfl (congrArg V.b (Option.some.inj hp)))) (Zal ?_))))
        exact ⟨rfl,rfl,ak,aS,aT,al,aU,am,aV,aW⟩
       ·refine Zn rfl D (Zn rfl D (Zn rfl D (Zn rfl D (Zn rfl D (Zn rfl D (Zn rfl D (Zn rfl D (ZG rfl (Za0 (v:=.b t1) rfl D (Eq.trans (b:=V.b false) rfl (congrArg V.b (Option.some.inj hp)))) (Zal ?_)))))))))
        exact ⟨rfl,rfl,ak,aS,aT,al,aU,am,aV,aW⟩
      rintro _ _ ⟨rfl,bT,an,aX,aY,aZ,ao,ap,a0,a1⟩
      refine Zac _ bT ?_
      obtain ⟨t2,b9,hp⟩:=Za7 hp
      refine Zck 9 (fun f k=>(g.bump 58)=k∧f 78=.b t2∧f 0=v_at_∧f 1=v_l∧f 10=.n d∧f 12=.p I 0∧f 13=.p J 0∧f 2=.n i∧f 3=.n w∧f 9=.n a) ?_ ?_
      ·clear hp;rcases ZaW b9 with ⟨E,hp⟩|⟨E,hp⟩
       ·refine Zv rfl E (Zac _ an (Zv rfl E (Zac _ ap (Zv rfl E (ckk hp fun aj hp=>ZG rfl (ZW (m.rd0 s_at_.rd) rfl rfl aj) (Zv rfl E (ZG rfl (Za6 (m.rd0 s_at_.rd) (Zf aj) rfl rfl) (Zv rfl E (ZG rfl (zt (m.rd0 s_at_.rd) rfl (Zf aj) rfl) (Zv rfl E (ZG rfl (ZaU (r:=J) (o:=0) ao rfl) (Zv rfl E ?_))))))))))))
        refine ZG rfl (Zad (m.box 1 rfl) rfl rfl) (Zv rfl E (ZG rfl (zV rfl rfl) (ZG rfl (ZaH (v:=.b t2) rfl E (Eq.trans (b:=V.b (decide (((gi at_ i.toNat).X)<((gi at_ (((gi l a.toNat).Next).get d:Int).toNat).X)))) rfl (congrArg V.b (Option.some.inj hp)))) (Zal ?_))))
        exact ⟨rfl,rfl,an,aX,aY,aZ,ao,ap,a0,a1⟩
       ·refine Zn rfl E (Zn rfl E (Zn rfl E (Zn rfl E (Zn rfl E (Zn rfl E (Zn rfl E (Zn rfl E (ZG rfl (Za0 (v:=.b t2) rfl E (Eq.trans (b:=V.b false) rfl (congrArg V.b (Option.some.inj hp)))) (Zal ?_)))))))))
        exact ⟨rfl,rfl,an,aX,aY,aZ,ao,ap,a0,a1⟩
      rintro _ _ ⟨rfl,bU,aq,a2,a3,ar,a4,au,a5,a6⟩
      refine Zac _ bU ?_
      obtain ⟨t3,ca,hp⟩:=Za7 hp
      refine Zck 9 (fun f k=>(g.bump 58)=k∧f 88=.b t3∧f 0=v_at_∧f 1=v_l∧f 10=.n d∧f 12=.p I 0∧f 13=.p J 0∧f 2=.n i∧f 3=.n w∧f 9=.n a) ?_ ?_
      ·clear hp;rcases ZaW ca with ⟨F,hp⟩|⟨F,hp⟩
       ·refine Zv rfl F (Zac _ aq (Zv rfl F (Zac _ au (Zv rfl F (ckk hp fun U hp=>ZG rfl (ZW (m.rd0 s_at_.rd) rfl rfl U) (Zv rfl F (ZG rfl (Za6 (m.rd0 s_at_.rd) (Zf U) rfl rfl) (Zv rfl F (ZG rfl (zt (m.rd0 s_at_.rd) rfl (Zf U) rfl) (Zv rfl F (ZG rfl (ZaU (r:=I) (o:=0) ar rfl) (Zv rfl F ?_))))))))))))
        refine ZG rfl (Zad (m.box 0 rfl) rfl rfl) (Zv rfl F (ZG rfl (zV rfl rfl) (ZG rfl (ZaH (v:=.b t3) rfl F (Eq.trans (b:=V.b (decide (((gi at_ i.toNat).Y)<((gi at_ a.toNat).Y)))) rfl (congrArg V.b (Option.some.inj hp)))) (Zal ?_))))
        exact ⟨rfl,rfl,aq,a2,a3,ar,a4,au,a5,a6⟩
       ·refine Zn rfl F (Zn rfl F (Zn rfl F (Zn rfl F (Zn rfl F (Zn rfl F (Zn rfl F (Zn rfl F (ZG rfl (Za0 (v:=.b t3) rfl F (Eq.trans (b:=V.b false) rfl (congrArg V.b (Option.some.inj hp)))) (Zal ?_)))))))))
        exact ⟨rfl,rfl,aq,a2,a3,ar,a4,au,a5,a6⟩
      rintro _ _ ⟨rfl,bV,av,a7,a8,aw,a9,ba,ax,bb⟩
      refine Zac _ bV ?_
      obtain ⟨t4,cb,hp⟩:=Za7 hp
      refine Zck 9 (fun f k=>(g.bump 58)=k∧f 98=.b t4∧f 0=v_at_∧f 1=v_l∧f 10=.n d∧f 12=.p I 0∧f 13=.p J 0∧f 2=.n i∧f 3=.n w∧f 9=.n a) ?_ ?_
      ·clear hp;rcases ZaW cb with ⟨H,hp⟩|⟨H,hp⟩
       ·refine Zv rfl H (ZG rfl (ZaU (r:=I) (o:=0) aw rfl) (Zv rfl H (ZG rfl (Zad (m.box 0 rfl) rfl rfl) (Zv rfl H (Zac _ av (Zv rfl H (Zac _ ax (Zv rfl H (ckk hp fun W hp=>ZG rfl (ZW (m.rd0 s_at_.rd) rfl rfl W) (Zv rfl H (ZG rfl (Za6 (m.rd0 s_at_.rd) (Zf W) rfl rfl) (Zv rfl H ?_))))))))))))
        refine ZG rfl (zt (m.rd0 s_at_.rd) rfl (Zf W) rfl) (Zv rfl H (ZG rfl (zV rfl rfl) (ZG rfl (ZaH (v:=.b t4) rfl H (Eq.trans (b:=V.b (decide (((gi at_ a.toNat).Y)<((gi at_ w.toNat).Y)))) rfl (congrArg V.b (Option.some.inj hp)))) (Zal ?_))))
        exact ⟨rfl,rfl,av,a7,a8,aw,a9,ba,ax,bb⟩
       ·refine Zn rfl H (Zn rfl H (Zn rfl H (Zn rfl H (Zn rfl H (Zn rfl H (Zn rfl H (Zn rfl H (ZG rfl (Za0 (v:=.b t4) rfl H (Eq.trans (b:=V.b false) rfl (congrArg V.b (Option.some.inj hp)))) (Zal ?_)))))))))
        exact ⟨rfl,rfl,av,a7,a8,aw,a9,ba,ax,bb⟩
      rintro _ _ ⟨rfl,bW,S,bc,bd,ay,az,aA,aB,be⟩
      refine Zal (Zx (zD hp bW (fun bH hp=>?_) (fun bH hp=>?_)))
      ·refine Zj (Zb (.b true) rfl (Ze (zR (zl (Zbt (zl ?_))))))
       cases hp
       exact ⟨nofun,rfl,rfl,(m.pk [])⟩
      ·refine Za3 (ZM (Zh2 ?_))
       have j:=m.bump 58
       refine ZG rfl (ZaU (r:=I) (o:=0) ay rfl) (ZG rfl (Zad (j.box 0 rfl) rfl rfl) (ZG rfl (ZaU (r:=J) (o:=0) az rfl) (ZG rfl (Zad (j.box 1 rfl) rfl rfl) (ZG rfl (ZbZ rfl rfl) (Zac (.b (decide ((gi at_ a.toNat).X=(gi at_ (((gi l a.toNat).Next).get d:Int).toNat).X))) rfl ?_)))))
       obtain ⟨t5,cc,hp⟩:=Za7 hp
       refine Zck 12 (fun f k=>((g.bump 58).bump 58)=k∧f 116=.b t5∧f 0=v_at_∧f 1=v_l∧f 10=.n d∧f 12=.p I 0∧f 13=.p J 0∧f 2=.n i∧f 3=.n w∧f 9=.n a) ?_ ?_
       ·clear hp;rcases ZaW cc with ⟨q,hp⟩|⟨q,hp⟩
        ·refine Zv rfl q (Zac _ S (Zv rfl q (Zac _ aA (Zv rfl q (ckk hp fun aa hp=>ZG rfl (ZW (j.rd0 s_at_.rd:Sl Zi ((g.bump 58).bump 58) v_at_ at_) rfl rfl aa) (Zv rfl q (ZG rfl (Za6 (j.rd0 s_at_.rd:Sl Zi ((g.bump 58).bump 58) v_at_ at_) (Zf aa) rfl rfl) (Zv rfl q (ZG rfl (zt (j.rd0 s_at_.rd:Sl Zi ((g.bump 58).bump 58) v_at_ at_) rfl (Zf aa) rfl) (Zv rfl q (Zac _ S (Zv rfl q ?_))))))))))))
         refine Zac _ aB (Zv rfl q (ckk hp fun ab hp=>ZG rfl (ZW (j.rd0 s_at_.rd:Sl Zi ((g.bump 58).bump 58) v_at_ at_) rfl rfl ab) (Zv rfl q (ZG rfl (Za6 (j.rd0 s_at_.rd:Sl Zi ((g.bump 58).bump 58) v_at_ at_) (Zf ab) rfl rfl) (Zv rfl q (ZG rfl (zt (j.rd0 s_at_.rd:Sl Zi ((g.bump 58).bump 58) v_at_ at_) rfl (Zf ab) rfl) (Zv rfl q (ZG rfl (ZbZ rfl rfl) (ZG rfl (ZaH (v:=.b t5) rfl q (Eq.trans (b:=V.b (decide ((gi at_ i.toNat).Y=(gi at_ w.toNat).Y))) rfl (congrArg V.b (Option.some.inj hp)))) (Zal ?_))))))))))
         exact ⟨rfl,rfl,S,bc,bd,ay,az,aA,aB,be⟩
        ·refine Zn rfl q (Zn rfl q (Zn rfl q (Zn rfl q (Zn rfl q (Zn rfl q (Zn rfl q (Zn rfl q (Zn rfl q (Zn rfl q (Zn rfl q (ZG rfl (Za0 (v:=.b t5) rfl q (Eq.trans (b:=V.b false) rfl (congrArg V.b (Option.some.inj hp)))) (Zal ?_))))))))))))
         exact ⟨rfl,rfl,S,bc,bd,ay,az,aA,aB,be⟩
       rintro _ _ ⟨rfl,bX,aC,bf,bg,aD,bh,aE,bi,bj⟩
       refine Zac _ bX ?_
       obtain ⟨t6,cd,hp⟩:=Za7 hp
       refine Zck 9 (fun f k=>((g.bump 58).bump 58)=k∧f 126=.b t6∧f 0=v_at_∧f 1=v_l∧f 10=.n d∧f 12=.p I 0∧f 13=.p J 0∧f 2=.n i∧f 3=.n w∧f 9=.n a) ?_ ?_
       ·clear hp;rcases ZaW cd with ⟨x,hp⟩|⟨x,hp⟩
        ·refine Zv rfl x (Zac _ aC (Zv rfl x (Zac _ aE (Zv rfl x (ckk hp fun ac hp=>ZG rfl (ZW (j.rd0 s_at_.rd:Sl Zi ((g.bump 58).bump 58) v_at_ at_) rfl rfl ac) (Zv rfl x (ZG rfl (Za6 (j.rd0 s_at_.rd:Sl Zi ((g.bump 58).bump 58) v_at_ at_) (Zf ac) rfl rfl) (Zv rfl x (ZG rfl (zt (j.rd0 s_at_.rd:Sl Zi ((g.bump 58).bump 58) v_at_ at_) rfl (Zf ac) rfl) (Zv rfl x (ZG rfl (ZaU (r:=I) (o:=0) aD rfl) (Zv rfl x ?_))))))))))))
         refine ZG rfl (Zad (j.box 0 rfl) rfl rfl) (Zv rfl x (ZG rfl (zV rfl rfl) (ZG rfl (ZaH (v:=.b t6) rfl x (Eq.trans (b:=V.b (decide (((gi at_ i.toNat).X)<((gi at_ a.toNat).X)))) rfl (congrArg V.b (Option.some.inj hp)))) (Zal ?_))))
         exact ⟨rfl,rfl,aC,bf,bg,aD,bh,aE,bi,bj⟩
        ·refine Zn rfl x (Zn rfl x (Zn rfl x (Zn rfl x (Zn rfl x (Zn rfl x (Zn rfl x (Zn rfl x (ZG rfl (Za0 (v:=.b t6) rfl x (Eq.trans (b:=V.b false) rfl (congrArg V.b (Option.some.inj hp)))) (Zal ?_)))))))))
         exact ⟨rfl,rfl,aC,bf,bg,aD,bh,aE,bi,bj⟩
       rintro _ _ ⟨rfl,bY,aF,bk,bl,aG,bm,bn,aH,bo⟩
       refine Zac _ bY ?_
       obtain ⟨t7,ce,hp⟩:=Za7 hp
       refine Zck 9 (fun f k=>((g.bump 58).bump 58)=k∧f 136=.b t7∧f 0=v_at_∧f 1=v_l∧f 10=.n d∧f 12=.p I 0∧f 13=.p J 0∧f 2=.n i∧f 3=.n w∧f 9=.n a) ?_ ?_
       ·clear hp;rcases ZaW ce with ⟨y,hp⟩|⟨y,hp⟩
        ·refine Zv rfl y (ZG rfl (ZaU (r:=I) (o:=0) aG rfl) (Zv rfl y (ZG rfl (Zad (j.box 0 rfl) rfl rfl) (Zv rfl y (Zac _ aF (Zv rfl y (Zac _ aH (Zv rfl y (ckk hp fun ad hp=>ZG rfl (ZW (j.rd0 s_at_.rd:Sl Zi ((g.bump 58).bump 58) v_at_ at_) rfl rfl ad) (Zv rfl y (ZG rfl (Za6 (j.rd0 s_at_.rd:Sl Zi ((g.bump 58).bump 58) v_at_ at_) (Zf ad) rfl rfl) (Zv rfl y ?_))))))))))))
         refine ZG rfl (zt (j.rd0 s_at_.rd:Sl Zi ((g.bump 58).bump 58) v_at_ at_) rfl (Zf ad) rfl) (Zv rfl y (ZG rfl (zV rfl rfl) (ZG rfl (ZaH (v:=.b t7) rfl y (Eq.trans (b:=V.b (decide (((gi at_ a.toNat).X)<((gi at_ w.toNat).X)))) rfl (congrArg V.b (Option.some.inj hp)))) (Zal ?_))))
         exact ⟨rfl,rfl,aF,bk,bl,aG,bm,bn,aH,bo⟩
        ·refine Zn rfl y (Zn rfl y (Zn rfl y (Zn rfl y (Zn rfl y (Zn rfl y (Zn rfl y (Zn rfl y (ZG rfl (Za0 (v:=.b t7) rfl y (Eq.trans (b:=V.b false) rfl (congrArg V.b (Option.some.inj hp)))) (Zal ?_)))))))))
         exact ⟨rfl,rfl,aF,bk,bl,aG,bm,bn,aH,bo⟩
       rintro _ _ ⟨rfl,b0,aI,bp,bq,bZ,br,aJ,bs,bt⟩
       refine Zac _ b0 ?_
       obtain ⟨t8,cf,hp⟩:=Za7 hp
       refine Zck 9 (fun f k=>((g.bump 58).bump 58)=k∧f 146=.b t8∧f 0=v_at_∧f 1=v_l∧f 10=.n d∧f 13=.p J 0∧f 2=.n i∧f 3=.n w∧f 9=.n a) ?_ ?_
       ·clear hp;rcases ZaW cf with ⟨A,hp⟩|⟨A,hp⟩
        ·refine Zv rfl A (ZG rfl (ZaU (r:=I) (o:=0) bZ rfl) (Zv rfl A (ZG rfl (Zad (j.box 0 rfl) rfl rfl) (Zv rfl A (Zac _ aI (Zv rfl A (Zac _ aJ (Zv rfl A (ckk hp fun ae hp=>ZG rfl (ZW (j.rd0 s_at_.rd:Sl Zi ((g.bump 58).bump 58) v_at_ at_) rfl rfl ae) (Zv rfl A (ZG rfl (Za6 (j.rd0 s_at_.rd:Sl Zi ((g.bump 58).bump 58) v_at_ at_) (Zf ae) rfl rfl) (Zv rfl A ?_))))))))))))
         refine ZG rfl (zt (j.rd0 s_at_.rd:Sl Zi ((g.bump 58).bump 58) v_at_ at_) rfl (Zf ae) rfl) (Zv rfl A (ZG rfl (zV rfl rfl) (ZG rfl (ZaH (v:=.b t8) rfl A (Eq.trans (b:=V.b (decide (((gi at_ a.toNat).Y)<((gi at_ i.toNat).Y)))) rfl (congrArg V.b (Option.some.inj hp)))) (Zal ?_))))
         exact ⟨rfl,rfl,aI,bp,bq,br,aJ,bs,bt⟩
        ·refine Zn rfl A (Zn rfl A (Zn rfl A (Zn rfl A (Zn rfl A (Zn rfl A (Zn rfl A (Zn rfl A (ZG rfl (Za0 (v:=.b t8) rfl A (Eq.trans (b:=V.b false) rfl (congrArg V.b (Option.some.inj hp)))) (Zal ?_)))))))))
         exact ⟨rfl,rfl,aI,bp,bq,br,aJ,bs,bt⟩
       rintro _ _ ⟨rfl,b2,aK,bu,bv,b1,aL,bw,bx⟩
       refine Zac _ b2 ?_
       obtain ⟨t9,b7,hp⟩:=Za7 hp
       refine Zck 9 (fun f k=>((g.bump 58).bump 58)=k∧f 156=.b t9∧f 0=v_at_∧f 1=v_l∧f 10=.n d∧f 2=.n i∧f 3=.n w∧f 9=.n a) ?_ ?_
       ·clear hp;rcases ZaW b7 with ⟨C,hp⟩|⟨C,hp⟩
        ·refine Zv rfl C (Zac _ aK (Zv rfl C (Zac _ aL (Zv rfl C (ckk hp fun af hp=>ZG rfl (ZW (j.rd0 s_at_.rd:Sl Zi ((g.bump 58).bump 58) v_at_ at_) rfl rfl af) (Zv rfl C (ZG rfl (Za6 (j.rd0 s_at_.rd:Sl Zi ((g.bump 58).bump 58) v_at_ at_) (Zf af) rfl rfl) (Zv rfl C (ZG rfl (zt (j.rd0 s_at_.rd:Sl Zi ((g.bump 58).bump 58) v_at_ at_) rfl (Zf af) rfl) (Zv rfl C (ZG rfl (ZaU (r:=J) (o:=0) b1 rfl) (Zv rfl C ?_))))))))))))
         refine ZG rfl (Zad (j.box 1 rfl) rfl rfl) (Zv rfl C (ZG rfl (zV rfl rfl) (ZG rfl (ZaH (v:=.b t9) rfl C (Eq.trans (b:=V.b (decide (((gi at_ i.toNat).Y)<((gi at_ (((gi l a.toNat).Next).get d:Int).toNat).Y)))) rfl (congrArg V.b (Option.some.inj hp)))) (Zal ?_))))
         exact ⟨rfl,rfl,aK,bu,bv,aL,bw,bx⟩
        ·refine Zn rfl C (Zn rfl C (Zn rfl C (Zn rfl C (Zn rfl C (Zn rfl C (Zn rfl C (Zn rfl C (ZG rfl (Za0 (v:=.b t9) rfl C (Eq.trans (b:=V.b false) rfl (congrArg V.b (Option.some.inj hp)))) (Zal ?_)))))))))
         exact ⟨rfl,rfl,aK,bu,bv,aL,bw,bx⟩
       rintro _ _ ⟨rfl,bO,bL,bM,bN,bP,bQ,bR⟩
       refine Zal (Zx (zD hp bO (fun bE hp=>?_) (fun bE hp=>?_)))
       ·refine Zj (Zb (.b true) rfl (Ze (zR (Zbt (zl ?_)))))
        cases hp
        exact ⟨nofun,rfl,rfl,(j.pk [])⟩
       ·refine Zc5 (Zat (Zx (Zar (Zb _ bN (ckk hp fun bI hp=>Zc (zG rfl rfl bI) (Zb (.n (d+1)) rfl (Zo ?_)))))))
        cases hp
        exact ⟨rfl,bL,bM,bP,bQ,bR,rfl,(j.pk [])⟩
    ·refine ZbU (Zas ?_)
     cases hp
     exact ⟨nofun,rfl,L,N,P,Q,M,(K.pk [])⟩
   rintro (_|_) hp _ _ _ bA
   ·obtain ⟨rfl,ck,cl,cm,cn,cp,aO⟩:=bA
    refine Zbe (Zat (Zx (Zar (Zb _ cp (ckk hp fun bJ hp=>Zc (zG rfl rfl bJ) (Zb (.n (a+1)) rfl (Zo ?_)))))))
    cases hp
    exact ⟨rfl,ck,cl,cm,cn,rfl,(aO.pk [])⟩
   ·obtain ⟨rfl,co,aO⟩:=bA
    refine Zbt (Zbt (zl ?_))
    cases hp
    exact ⟨nofun,rfl,co,(aO.pk [])⟩
  ·refine ZbU (Zas ?_)
   cases hp
   exact ⟨nofun,rfl,(aN.pk [])⟩
 rintro (_|_) hp _ _ _ bz
 ·obtain ⟨rfl,aM⟩:=bz
  refine Zbe (Zx (Zj (Zb (.b false) rfl (Ze (zR (zf (zj rfl ZF) ?_))))))
  cases hp
  exact ⟨rfl,(aM.pk [])⟩
 ·obtain ⟨rfl,cg,aM⟩:=bz
  refine Zbt (zl (zf (zj cg ZF) ?_))
  cases hp
  exact ⟨rfl,(aM.pk [])⟩

theorem Zah.ok {h:Hp}{l:List Za}{v:Int}{d:Int}{w:Int}{o:Int}{v_l:V}(s_l:Sl Zd h v_l l) {r:(List Za)}(hp:Zah l v d w o=some r) :
  ∃ u k',Is G 65 [v_l,.n v,.n d,.n w,.n o] h u k'∧∃ U,U=u∧Own (fun r=>r<h.n) h k' [eSl Zd U r]:=by
 refine WC.is (ZaB ZdV ?_)
 unfold Zah at hp
 let B:Nat→Prop:=(fun r=>r<h.n)
 have hO:Own B h h []:=Own.start0 h
 refine Zj (Zb (.sn) rfl (Ze (Zj (Zb (.sn) rfl (Ze (ZM (Zj (Zb (.n 0) rfl ?_))))))))
 refine Ze (Za2 ?_)
 have ak:=hO.nil Zd
 refine Zci hp (fun|(out,i),fr,k=>∃ j,fr 0=v_l∧fr 1=.n v∧fr 2=.n d∧fr 3=.n w∧fr 4=.n o∧fr 11=j∧fr 12=.n i∧Own B h k [eSl Zd j out]) (fun out1 e fr k=>e=(.exit 0)∧∃ q,fr 11=q∧Own B h k [eSl Zd q out1]) ⟨V.sn,rfl,rfl,rfl,rfl,rfl,rfl,rfl,(ak.pk [0])⟩ ?_ ?_
 ·rintro ⟨out,i⟩ _ _ ⟨j,t,H,x,J,K,I,m,f⟩ _ hp
  dsimp only [Zah.s0] at hp
  refine ZM (Zj (Zb _ m (Zb _ t (Zc (ZaC (f.rd0 s_l.rd) rfl) (Zc (zV rfl rfl) (Ze (zD hp rfl (fun Y hp=>?_) (fun Y hp=>?_))))))))
  ·refine Za3 (ZM (Za2 (Zj (Zb _ t (Zb _ m (ckk hp fun P hp=>Zc (ZW (f.rd0 s_l.rd) rfl rfl P) (Zc (ZeV (f.rd0 s_l.rd) rfl (Zf P)) (Zaw (f.alloc (cs:=Zd.c (⟨⟨0,0,0,0⟩,⟨0,0,0,0⟩⟩:Za)) f.fr) ?_))))))))
   rintro _ _ ⟨g,rfl,_,_,al⟩
   refine Zaw (al.stb (cs':=Zd.c (gi l i.toNat)) 1 rfl rfl rfl rfl ⟨rfl,Nat.le_of_ble_eq_true rfl,rfl⟩ rfl) ?_
   rintro _ _ ⟨rfl,_,_,R⟩
   refine Ze (ZM (Zj (Zb _ m (Zb _ H (Zc (ZbZ rfl rfl) (Ze (ZiE hp (fun c e fr k=>e=.normal∧fr 0=v_l∧fr 1=.n v∧fr 2=.n d∧fr 3=.n w∧fr 4=.n o∧fr 11=j∧fr 12=.n i∧fr 13=.p g 0∧Own B h k [eSl Zd j out,ZaF g (Zd.c c)]) (fun _ hp=>?_) ?_)))))))
   ·refine zD hp rfl (fun aa hp=>?_) (fun aa hp=>?_)
    ·refine Zj (Zb _ x (Zb _ J (Zc (ZaU (r:=g) (o:=0) rfl rfl) (ckk hp fun a hp=>Zc (ZiF (o:=0) (o':=(0+d.toNat*1)) rfl rfl a rfl) (Zaw (R.stb (cs':=Zd.c ({ gi l i.toNat with Next:=((gi l i.toNat).Next).set d w })) 1 rfl rfl rfl rfl ⟨rfl,(by have:=a;exact (show 0+d.toNat*1+1≤8 by omega)),rfl⟩ (Zcq a)) ?_)))))
     rintro _ _ ⟨rfl,_,_,am⟩
     refine Ze (Zar (Zb _ x (Zb _ K (Zc (ZaU (r:=g) (o:=0) rfl rfl) (Zc (ZiF (o:=4) (o':=(4+d.toNat*1)) rfl rfl a rfl) (Zaw (am.stb (cs':=Zd.c ({ { gi l i.toNat with Next:=((gi l i.toNat).Next).set d w } with Owner:=(({ gi l i.toNat with Next:=((gi l i.toNat).Next).set d w }).Owner).set d o })) 1 rfl rfl rfl rfl ⟨rfl,(by have:=a;exact (show 4+d.toNat*1+1≤8 by omega)),rfl⟩ (Zc4 a)) ?_))))))
     rintro _ _ ⟨rfl,_,_,an⟩
     refine Zo ?_
     cases hp
     exact ⟨rfl,t,H,x,J,K,I,m,rfl,(an.pk [0,1])⟩
    ·refine Zc5 ?_
     cases hp
     exact ⟨rfl,t,H,x,J,K,I,m,rfl,(R.pk [0,1])⟩
   rintro c hp _ _ _ ⟨rfl,S,L,A,N,O,T,M,y,s⟩
   refine Zx (ZM (Zj (Zb _ M (Zb _ N (Zc (ZbZ rfl rfl) (Ze (zD hp rfl (fun ab hp=>?_) (fun ab hp=>?_))))))))
   ·refine Zj (Zb _ A (ckk hp fun Q hp=>Zc (zG rfl rfl Q) (Zc (ZeF rfl rfl (by decide)) (Zb _ L (Zc (ZaU (r:=g) (o:=0) y rfl) (ckk hp fun b hp=>Zc (ZiF (o:=0) (o':=(0+((d+2).tmod 4:Int).toNat*1)) rfl rfl b rfl) (Zaw (s.stb (cs':=Zd.c ({ c with Next:=c.Next.set ((d+2).tmod 4) v })) 1 rfl rfl rfl rfl ⟨rfl,(by have:=b;exact (show 0+((d+2).tmod 4:Int).toNat*1+1≤8 by omega)),rfl⟩ (Zcq b)) ?_)))))))
    rintro _ _ ⟨rfl,_,_,ao⟩
    refine Ze (Zar (Zb _ A (Zc (zG rfl rfl Q) (Zc (ZeF rfl rfl (by decide)) (Zb _ O (Zc (ZaU (r:=g) (o:=0) y rfl) (Zc (ZiF (o:=4) (o':=(4+((d+2).tmod 4:Int).toNat*1)) rfl rfl b rfl) (Zaw (ao.stb (cs':=Zd.c ({ { c with Next:=c.Next.set ((d+2).tmod 4) v } with Owner:=(({ c with Next:=c.Next.set ((d+2).tmod 4) v }).Owner).set ((d+2).tmod 4) o })) 1 rfl rfl rfl rfl ⟨rfl,(by have:=b;exact (show 4+((d+2).tmod 4:Int).toNat*1+1≤8 by omega)),rfl⟩ (Zc4 b)) ?_))))))))
    rintro _ _ ⟨rfl,_,_,C⟩
    refine Ze (Zar (Zb _ T (Zc (Zca (C.box 1 rfl) y rfl) (Zaw (C.bsl (E:=Zd) (l:=[{ { c with Next:=c.Next.set ((d+2).tmod 4) v } with Owner:=(({ c with Next:=c.Next.set ((d+2).tmod 4) v }).Owner).set ((d+2).tmod 4) o }]) C.fr (by rw [(zP (v:=.ag (Zd.c ({ { c with Next:=c.Next.set ((d+2).tmod 4) v } with Owner:=(({ c with Next:=c.Next.set ((d+2).tmod 4) v }).Owner).set ((d+2).tmod 4) o }))) rfl Zbs)];rfl) rfl) ?_))))
    rintro ar ap ⟨_,_,D⟩
    refine ckk hp fun ac hp=>Zaw (D.app (bytes:=64) 0 D.fr rfl (D.sl 2 rfl:Sl Zd ap ar [{ { c with Next:=c.Next.set ((d+2).tmod 4) v } with Owner:=(({ c with Next:=c.Next.set ((d+2).tmod 4) v }).Owner).set ((d+2).tmod 4) o }]) rfl rfl (fun _=>rfl) ac (by decide)) ?_
    rintro W _ ⟨_,ai⟩
    refine Zb W rfl (Zo (Zat (Zx (Zar (Zb _ M (ckk hp fun ad hp=>Zc (zG rfl rfl ad) (Zb (.n (i+1)) rfl (Zo ?_))))))))
    cases hp
    exact ⟨rfl,W,S,L,A,N,O,rfl,rfl,(ai.pk [0])⟩
   ·refine Za3 (Zar (Zb _ T (Zc (Zca (s.box 1 rfl) y rfl) (Zaw (s.bsl (E:=Zd) (l:=[c]) s.fr (by rw [(zP (v:=.ag (Zd.c c)) rfl Zbs)];rfl) rfl) ?_))))
    rintro _ _ ⟨_,_,F⟩
    refine ckk hp fun ae hp=>Zaw (F.app (bytes:=64) 0 F.fr rfl (F.sl 2 rfl) rfl rfl (fun _=>rfl) ae (by decide)) ?_
    rintro X _ ⟨_,aj⟩
    refine Zb X rfl (Zo (Zat (Zx (Zar (Zb _ M (ckk hp fun af hp=>Zc (zG rfl rfl af) (Zb (.n (i+1)) rfl (Zo ?_))))))))
    cases hp
    exact ⟨rfl,X,S,L,A,N,O,rfl,rfl,(aj.pk [0])⟩
  ·refine ZbU (Zas ?_)
   cases hp
   exact ⟨nofun,rfl,j,I,(f.pk [0])⟩
 rintro out1 hp _ _ _ ⟨rfl,q,aq,ah⟩
 refine Zbe (Zx (Zj (Zb _ aq (Zb q rfl (Ze (zR (zf (zj rfl ZF) ?_)))))))
 cases hp
 exact ⟨q,rfl,(ah.pk [0])⟩

theorem ZC.ok {h:Hp}{z:zx}{most:Int}{v_z_At:V}{v_z_Bits:V}{v_z_Own:V}(s_z_At:Sl Zgz h v_z_At z.At) (s_z_Bits:Sl Zgz h v_z_Bits z.Bits) (s_z_Own:Sl Zl5 h v_z_Own z.Own) {r:(List Za)×(List Zh)}(hp:ZC z most=some r) :
  ∃ u k',Is G 28 [.ag [v_z_At,v_z_Bits,v_z_Own],.n most] h u k'∧∃ aY a0,V.tu [aY,a0]=u∧Own (fun r=>r<h.n) h k' [eSl Zd aY r.1,eSl Zi a0 r.2]:=by
 refine WC.is (ZaB ZdU ?_)
 unfold ZC at hp
 let B:Nat→Prop:=(fun r=>r<h.n)
 have hO:Own B h h []:=Own.start0 h
 refine Zj (Zaw (hO.boxd (cs:=[v_z_At,v_z_Bits,v_z_Own]) hO.fr rfl rfl) ?_)
 rintro _ _ ⟨a,rfl,_,_,bH⟩
 refine Zb (.sn) rfl (Zb (.sn) rfl (Ze (Zj (Zb (.sn) rfl (Ze (ZM (Zj (Zb (.n 0) rfl (Zo ?_)))))))))
 refine Zx (Za2 ?_)
 have bO:=bH.nil Zi
 refine Zci hp (fun|(at_,i),fr,k=>∃ A,fr 1=.n most∧fr 2=.p a 0∧fr 6=A∧fr 7=.n i∧Own B h k [ZaF a [v_z_At,v_z_Bits,v_z_Own],eSl Zi A at_]) (fun at_1 e fr k=>e=(.exit 0)∧∃ g,fr 2=.p a 0∧fr 6=g∧Own B h k [ZaF a [v_z_At,v_z_Bits,v_z_Own],eSl Zi g at_1]) ⟨V.sn,rfl,rfl,rfl,rfl,(bO.pk [0,1])⟩ ?_ ?_
 ·rintro ⟨at_,i⟩ _ au ⟨A,ay,az,aA,aB,s⟩ _ hp
  dsimp only [ZC.s0] at hp
  refine ZM (Zj (Zb _ aB (Zc (ZaU (r:=a) (o:=0) az rfl) (Zc (Zad (s.box 0 rfl) rfl rfl) (Zc (ZaC (s.rd0 s_z_At.rd) rfl) (Zc (zV rfl rfl) (Zb (.b (decide (i<(z.At.length:Int)))) rfl (Zay 5 (fun f k=>au=k∧f 28=.b ((decide (i<(z.At.length:Int)))&&(decide ((at_.length:Int)<most)))∧f 1=.n most∧f 2=.p a 0∧f 6=A∧f 7=.n i) ?_ ?_))))))))
  ·rcases bc (decide (i<(z.At.length:Int))) with y|y
   ·refine Z6 rfl y (Zb _ aA (Z6 rfl y (Zc (ZaC (s.sl 1 rfl) rfl) (Z6 rfl y (Zb _ ay (Z6 rfl y (Zc (zV rfl rfl) (Zc (Zel rfl y rfl) (Zo ?_)))))))))
    exact ⟨rfl,rfl,ay,az,aA,aB⟩
   ·refine Zs rfl y (Zs rfl y (Zs rfl y (Zs rfl y (Zc (Zek (w:=(decide (i<(z.At.length:Int)))&&(decide ((at_.length:Int)<most))) rfl y rfl) (Zo ?_)))))
    exact ⟨rfl,rfl,ay,az,aA,aB⟩
  rintro _ _ ⟨rfl,bx,bw,T,aN,al⟩
  refine Ze (zD hp bx (fun a6 hp=>?_) (fun a6 hp=>?_))
  ·refine Za3 (ZM (Za2 (ZM (ZeS ?_))))
   have I:=s.bump 18
   have bv:=Fresh.start au 18
   have b1:∀ {i:Nat},h.n≤au.n+i:=Nat.le_trans s.n (Nat.le_add_right _ _)
   refine ZX (ZaU (r:=a) (o:=0) T rfl) (ZX (Zad (I.box 0 rfl) rfl rfl) (Zaq _ al (ckk hp fun K hp=>ZX (ZW (I.rd0 s_z_At.rd) rfl rfl K) (ZX (zt (I.rd0 s_z_At.rd) rfl (Zf K) rfl) (ckk hp fun aK hp=>ZX (Zgj rfl aK) (ZX (ZeF rfl rfl (by decide)) (ZX (ZaU (r:=a) (o:=0) T rfl) (ZX (Zad (I.box 0 rfl) rfl rfl) (Zaq _ al (ZX (ZW (I.rd0 s_z_At.rd) rfl rfl K) (ZX (zt (I.rd0 s_z_At.rd) rfl (Zf K) rfl) ?_)))))))))))
   refine ZX (Zgj rfl aK) (ckk hp fun bl hp=>ZX (Zqt rfl rfl bl) (ZX (ZeF rfl rfl (by decide)) (ZX (ZcA (cs:=Zi.c (⟨(gi z.At i.toNat).tmod 8,((gi z.At i.toNat).tdiv 8).tmod 8⟩:Zh)) (by rw [(zP (v:=.n ((gi z.At i.toNat).tmod 8)) rfl (zP (v:=.n (((gi z.At i.toNat).tdiv 8).tmod 8)) rfl Zbs))];rfl)) (Zdf (I.alloc (cs:=Zi.c (⟨0,0⟩:Zh)) ⟨bv.m 16 (by decide) (by decide),b1⟩) ?_))))
   rintro _ _ _ ⟨R,rfl,_,_,bP⟩
   refine Zdf (bP.stb (cs':=Zi.c (⟨(gi z.At i.toNat).tmod 8,((gi z.At i.toNat).tdiv 8).tmod 8⟩:Zh)) 2 rfl rfl rfl rfl ⟨rfl,Nat.le_of_ble_eq_true rfl,rfl⟩ rfl) ?_
   rintro _ _ _ ⟨rfl,_,_,bQ⟩
   refine Zch ?_
   refine And.intro ?_ ?_
   ·intro q hq
    simp only [List.mem_cons,List.not_mem_nil,or_false] at hq
    rcases hq with rfl|rfl|rfl|rfl|rfl|rfl|rfl|rfl
    ·refine Zak ?_ ?_
     ·exact (fun h=>nomatch h)
     ·exact (fun h=>nomatch h)
    ·refine Zak ?_ ?_
     ·exact (fun h=>nomatch h)
     ·exact (fun h=>nomatch h)
    ·refine Zak ?_ ?_
     ·exact (fun h=>nomatch h)
     ·exact (fun h=>nomatch h)
    ·refine Zak ?_ ?_
     ·exact (fun h=>nomatch h)
     ·exact (fun h=>nomatch h)
    ·refine Zak ?_ ?_
     ·exact (fun h=>nomatch h)
     ·exact (fun _ hm=>Nat.lt_irrefl _ (Nat.lt_of_lt_of_le (s.ltAt 0 rfl _ (tch (ZbS hm) rfl)) (Nat.le_add_right _ _)))
    ·refine Zak ?_ ?_
     ·exact (fun h=>nomatch h)
     ·exact (fun _ hm=>Nat.lt_irrefl _ (Nat.lt_of_lt_of_le (Nat.lt_of_lt_of_le (s.lo _ (Rd.B s_z_At.rd s.lo (Zf K) _ (Zbq (tch (ZbS hm) rfl)))) s.n) (Nat.le_add_right _ _)))
    ·refine Zak ?_ ?_
     ·exact (fun h=>nomatch h)
     ·exact (fun _ hm=>Nat.lt_irrefl _ (Nat.lt_of_lt_of_le (s.ltAt 0 rfl _ (tch (ZbS hm) rfl)) (Nat.le_add_right _ _)))
    ·refine Zak ?_ ?_
     ·exact (fun h=>nomatch h)
     ·exact (fun _ hm=>Nat.lt_irrefl _ (Nat.lt_of_lt_of_le (Nat.lt_of_lt_of_le (s.lo _ (Rd.B s_z_At.rd s.lo (Zf K) _ (Zbq (tch (ZbS hm) rfl)))) s.n) (Nat.le_add_right _ _)))
   refine Zx (Zj (Zb (.b false) rfl (Ze (ZM (Zj (Zb (.n 0) rfl (Ze (Za2 (Zci hp (fun|(met,k_),fr,k=>fr 1=.n most∧fr 2=.p a 0∧fr 6=A∧fr 7=.n i∧fr 8=.p R 0∧fr 9=.b met∧fr 10=.n k_∧Own B h k [ZaF a [v_z_At,v_z_Bits,v_z_Own],eSl Zi A at_,ZaF R (Zi.c (⟨(gi z.At i.toNat).tmod 8,((gi z.At i.toNat).tdiv 8).tmod 8⟩:Zh))]) (fun|(at_2,met1),e,fr,k=>e=(.exit 2)∧fr 1=.n most∧fr 2=.p a 0∧fr 6=A∧fr 7=.n i∧fr 8=.p R 0∧fr 9=.b met1∧Own B h k [ZaF a [v_z_At,v_z_Bits,v_z_Own],eSl Zi A at_2,ZaF R (Zi.c (⟨(gi z.At i.toNat).tmod 8,((gi z.At i.toNat).tdiv 8).tmod 8⟩:Zh))]) ⟨bw,T,aN,al,rfl,rfl,rfl,(bQ.pk [0,1,2])⟩ ?_ ?_)))))))))
   ·rintro ⟨met,k_⟩ _ b0 ⟨aC,aD,O,aE,ah,aX,af,ar⟩ _ hp
    dsimp only [ZC.s1] at hp
    refine ZM (Zj (Zb _ af (Zb _ O (Zc (ZaC (ar.sl 1 rfl) rfl) (Zc (zV rfl rfl) (Ze (zD hp rfl (fun a7 hp=>?_) (fun a7 hp=>?_))))))))
    ·refine Za3 (ZM (Za2 (Zh2 ?_)))
     have aa:=ar.bump 10
     refine Zac _ aX (Zac (.b met) rfl ?_)
     obtain ⟨t,bV,hp⟩:=Za7 hp
     refine Zck 7 (fun f k=>(b0.bump 10)=k∧f 61=.b t∧f 1=.n most∧f 10=.n k_∧f 2=.p a 0∧f 6=A∧f 7=.n i∧f 8=.p R 0) ?_ ?_
     ·clear hp;rcases ZaW bV with ⟨j,hp⟩|⟨j,hp⟩
      ·refine Zn rfl j (Zn rfl j (Zn rfl j (Zn rfl j (Zn rfl j (Zn rfl j (ZG rfl (ZaH (v:=.b t) rfl j (Eq.trans (b:=V.b true) rfl (congrArg V.b (Option.some.inj hp)))) (Zal ?_)))))))
       exact ⟨rfl,rfl,aC,af,aD,O,aE,ah⟩
      ·refine Zv rfl j (Zac _ O (Zv rfl j (Zac _ af (Zv rfl j (ckk hp fun aL hp=>ZG rfl (ZW (aa.sl 1 rfl) rfl rfl aL) (Zv rfl j (ZG rfl (ZeV (aa.sl 1 rfl) rfl (Zf aL)) (Zv rfl j (ZG rfl (Zca (aa.box 2 rfl) ah rfl) (Zv rfl j (ZG rfl (Zqo (as:=Zi.c (gi at_ k_.toNat)) (bs:=Zi.c (⟨(gi z.At i.toNat).tmod 8,((gi z.At i.toNat).tdiv 8).tmod 8⟩:Zh)) rfl rfl (Mu.Zi.same _ _)) (ZG rfl (Za0 (v:=.b t) rfl j (Eq.trans (b:=V.b (decide (gi at_ k_.toNat=(⟨(gi z.At i.toNat).tmod 8,((gi z.At i.toNat).tdiv 8).tmod 8⟩:Zh)))) rfl (congrArg V.b (Option.some.inj hp)))) ?_))))))))))))
       refine Zal ?_
       exact ⟨rfl,rfl,aC,af,aD,O,aE,ah⟩
     rintro _ _ ⟨rfl,bD,bz,bA,bB,bC,bE,bF⟩
     refine Zac _ bD (Zal (Zat (Zx (Zar (Zb _ bA (ckk hp fun bm hp=>Zc (zG rfl rfl bm) (Zb (.n (k_+1)) rfl (Zo ?_))))))))
     cases hp
     exact ⟨rfl,bz,bB,bC,bE,bF,rfl,rfl,(aa.pk [0,1,2])⟩
    ·refine ZbU (Zas ?_)
     cases hp
     exact ⟨nofun,rfl,aC,aD,O,aE,ah,aX,(ar.pk [0,1,2])⟩
   rintro ⟨at_2,met1⟩ hp _ _ _ ⟨rfl,aT,aU,aV,aW,b3,b4,ac⟩
   refine Zbe (Zx (Zj (Zb _ b4 (Zc (Zcl rfl) (Ze (zD hp rfl (fun a8 hp=>?_) (fun a8 hp=>?_)))))))
   ·refine Zar (Zb _ aV (Zc (Zca (ac.box 2 rfl) b3 rfl) (Zaw (ac.bsl (E:=Zi) (l:=[(⟨(gi z.At i.toNat).tmod 8,((gi z.At i.toNat).tdiv 8).tmod 8⟩:Zh)]) ac.fr (by rw [(zP (v:=.ag (Zi.c (⟨(gi z.At i.toNat).tmod 8,((gi z.At i.toNat).tdiv 8).tmod 8⟩:Zh))) rfl Zbs)];rfl) rfl) ?_)))
    rintro ch bW ⟨_,_,ao⟩
    refine ckk hp fun bn hp=>Zaw (ao.app (bytes:=16) 1 ao.fr rfl (ao.sl 3 rfl:Sl Zi bW ch [(⟨(gi z.At i.toNat).tmod 8,((gi z.At i.toNat).tdiv 8).tmod 8⟩:Zh)]) rfl rfl (fun _=>rfl) bn (by decide)) ?_
    rintro a1 _ ⟨_,bI⟩
    refine Zb a1 rfl (Zo (Zat (Zx (Zar (Zb _ aW (ckk hp fun bo hp=>Zc (zG rfl rfl bo) (Zb (.n (i+1)) rfl (Zo ?_))))))))
    cases hp
    exact ⟨rfl,a1,aT,aU,rfl,rfl,(bI.pk [0,1])⟩
   ·refine Zc5 (Zat (Zx (Zar (Zb _ aW (ckk hp fun bp hp=>Zc (zG rfl rfl bp) (Zb (.n (i+1)) rfl (Zo ?_)))))))
    cases hp
    exact ⟨rfl,A,aT,aU,aV,rfl,(ac.pk [0,1])⟩
  ·refine ZbU (Zas ?_)
   cases hp
   exact ⟨nofun,rfl,A,T,aN,(s.pk [0,1])⟩
 rintro at_1 hp _ _ bY ⟨rfl,g,b2,aS,aP⟩
 refine Zbe (Zx (Zj (Zb _ aS (Zc (ZaC (aP.sl 1 rfl) rfl) ?_))))
 obtain ⟨x,⟨_,_,bq,a2,rfl,bR⟩,hp⟩:=bdk hp fun _=>zu.ok (h:=bY)  
 refine Zan rfl rfl bq ?_
 have bJ:=aP.call bR rfl
 refine Zb a2 rfl (Ze (ZM (Zj (Zb (.n 0) rfl (Ze (Za2 (Zci hp (fun|(at_3,l,i1),fr,k=>∃ D,fr 2=.p a 0∧fr 6=g∧fr 11=D∧fr 12=.n i1∧Own B h k [ZaF a [v_z_At,v_z_Bits,v_z_Own],eSl Zi g at_3,eSl Zd D l]) (fun|(at_4,l1),e,fr,k=>e=(.exit 4)∧∃ S,fr 6=g∧fr 11=S∧Own B h k [eSl Zi g at_4,eSl Zd S l1]) ⟨a2,b2,aS,rfl,rfl,(bJ.pk [0,1,2])⟩ ?_ ?_)))))))
 ·rintro ⟨at_3,l,i1⟩ _ _ ⟨D,ai,aj,aF,P,C⟩ _ hp
  dsimp only [ZC.s2] at hp
  refine ZM (Zj (Zb _ P (Zb _ aj (Zc (ZaC (C.sl 1 rfl) rfl) (Zc (zV rfl rfl) (Ze (zD hp rfl (fun a9 hp=>?_) (fun a9 hp=>?_))))))))
  ·refine Za3 (ZM (Za2 (Zj (Zb (.i .u8 3) rfl (Ze (ZM (Zj (Zb _ P (Zc (ZaU (r:=a) (o:=0) ai rfl) ?_)))))))))
   refine Zc (Zad (C.box 0 rfl) rfl rfl) (Zc (ZaC (C.rd0 s_z_Bits.rd) rfl) (Zc (zV rfl rfl) (Ze (ZiE hp (fun|(at_5,l2,bits),e,fr,k=>e=.normal∧fr 2=.p a 0∧fr 6=g∧fr 11=D∧fr 12=.n i1∧fr 13=.i .u8 bits∧Own B h k [ZaF a [v_z_At,v_z_Bits,v_z_Own],eSl Zi g at_5,eSl Zd D l2]) (fun _ hp=>?_) ?_))))
   ·refine zD hp rfl (fun ba hp=>?_) (fun ba hp=>?_)
    ·refine Zar (Zc (ZaU (r:=a) (o:=0) ai rfl) (Zc (Zad (C.box 0 rfl) rfl rfl) (Zb _ P (ckk hp fun aM hp=>Zc (ZW (C.rd0 s_z_Bits.rd) rfl rfl aM) (Zc (zt (C.rd0 s_z_Bits.rd) rfl (Zf aM) rfl) (Zb (.i .u8 (gi z.Bits i1.toNat)) rfl (Zo ?_)))))))
     cases hp
     exact ⟨rfl,ai,aj,aF,P,rfl,(C.pk [0,1,2])⟩
    ·refine Zc5 ?_
     cases hp
     exact ⟨rfl,ai,aj,aF,P,rfl,(C.pk [0,1,2])⟩
   rintro ⟨at_5,l2,bits⟩ hp _ _ _ ⟨rfl,Q,aI,aG,L,aH,F⟩
   refine Zx (Zj (Zb _ L (Zb (.n i1) rfl (Ze (ZM (Zj (Zb _ L (Zc (ZaU (r:=a) (o:=0) Q rfl) (Zc (Zad (F.box 0 rfl) rfl rfl) (Zc (ZaC (F.rd0 s_z_Own.rd) rfl) ?_))))))))))
   refine Zc (zV rfl rfl) (Ze (ZiE hp (fun|(at_6,l3,own),e,fr,k=>e=.normal∧fr 2=.p a 0∧fr 6=g∧fr 11=D∧fr 12=.n i1∧fr 13=.i .u8 bits∧fr 14=.n own∧Own B h k [ZaF a [v_z_At,v_z_Bits,v_z_Own],eSl Zi g at_6,eSl Zd D l3]) (fun _ hp=>?_) ?_))
   ·refine zD hp rfl (fun bb hp=>?_) (fun bb hp=>?_)
    ·refine Zj (Zc (ZaU (r:=a) (o:=0) Q rfl) (Zc (Zad (F.box 0 rfl) rfl rfl) (Zb _ L (ckk hp fun aJ hp=>Zc (ZW (F.rd0 s_z_Own.rd) rfl rfl aJ) (Zc (zt (F.rd0 s_z_Own.rd) rfl (Zf aJ) rfl) (ckk hp fun be hp=>Zc (Zgj rfl be) (Zb (.n (gi z.Own i1.toNat)) rfl (Ze (ZM ?_)))))))))
     refine Zar (Zb (.n (gi z.Own i1.toNat)) rfl (Zc (zV rfl rfl) (Ze (zD hp rfl (fun bd hp=>?_) (fun bd hp=>?_)))))
     ·refine Zar (Zb (.n (gi z.Own i1.toNat)) rfl (ckk hp fun bf hp=>Zc (Zqs rfl bf) (Zb (.n (-(gi z.Own i1.toNat))) rfl (Zo ?_))))
      cases hp
      exact ⟨rfl,Q,aI,aG,L,aH,rfl,(F.pk [0,1,2])⟩
     ·refine Zc5 ?_
      cases hp
      exact ⟨rfl,Q,aI,aG,L,aH,rfl,(F.pk [0,1,2])⟩
    ·refine Zc5 ?_
     cases hp
     exact ⟨rfl,Q,aI,aG,L,aH,rfl,(F.pk [0,1,2])⟩
   rintro ⟨at_6,l3,own⟩ hp _ _ _ ⟨rfl,cb,cc,b7,b8,b9,ca,bL⟩
   refine Zx (Zj (Zb (.n 0) rfl (Ze (Za2 (Zci hp (fun|(l4,d),fr,k=>∃ J,fr 2=.p a 0∧fr 6=g∧fr 11=J∧fr 12=.n i1∧fr 13=.i .u8 bits∧fr 14=.n own∧fr 15=.n d∧Own B h k [ZaF a [v_z_At,v_z_Bits,v_z_Own],eSl Zi g at_6,eSl Zd J l4]) (fun l5 e fr k=>e=(.exit 6)∧∃ ak,fr 2=.p a 0∧fr 6=g∧fr 11=ak∧fr 12=.n i1∧Own B h k [ZaF a [v_z_At,v_z_Bits,v_z_Own],eSl Zi g at_6,eSl Zd ak l5]) ⟨D,cb,cc,b7,b8,b9,ca,rfl,(bL.pk [0,1,2])⟩ ?_ ?_)))))
   ·rintro ⟨l4,d⟩ _ bX ⟨J,ax,ae,av,ad,aw,aR,N,ap⟩ _ hp
    dsimp only [ZC.s3] at hp
    refine ZM (Zj (Zb _ N (Zc (zV rfl rfl) (Ze (zD hp rfl (fun a3 hp=>?_) (fun a3 hp=>?_))))))
    ·refine Za3 (ZM (Za2 (Zj (Zb _ ae (Zb _ ad (Zb _ N ?_))))))
     obtain ⟨x1,⟨_,aQ,br,rfl,bS⟩,hp⟩:=bdk hp fun _=>ZO.ok (h:=bX)  (ap.sl 1 rfl)
     refine Zan rfl rfl br ?_
     have ab:=ap.call bS rfl
     refine Zb (.n x1) rfl (Ze (ZM (Zj (Zb _ aw (Zb _ N (ckk hp fun bg hp=>Zc (ZfT (v:=.i .u8 (zg .u8 bits d)) rfl rfl (by decide) (Zet bg)) (Zc (ZeT (v:=.i .u8 (Z8 .u8 (zg .u8 bits d) 1)) rfl rfl (by decide) rfl) (Zc (ZbZ rfl rfl) (Zb (.b (decide (Z8 .u8 (zg .u8 bits d) 1=0))) rfl (Zay 3 (fun f k=>aQ=k∧f 119=.b ((decide (Z8 .u8 (zg .u8 bits d) 1=0))||(decide (x1<0)))∧f 11=J∧f 12=.n i1∧f 13=.i .u8 bits∧f 14=.n own∧f 15=.n d∧f 16=.n x1∧f 2=.p a 0∧f 6=g) ?_ ?_))))))))))
     ·rcases bc (decide (Z8 .u8 (zg .u8 bits d) 1=0)) with H|H
      ·refine Zs rfl H (Zs rfl H (Zc (Zc6 (w:=(decide (Z8 .u8 (zg .u8 bits d) 1=0))||(decide (x1<0))) rfl H rfl) (Zo ?_)))
       exact ⟨rfl,rfl,av,ad,aw,aR,N,rfl,ax,ae⟩
      ·refine Z6 rfl H (Zb (.n x1) rfl (Z6 rfl H (Zc (zV rfl rfl) (Zc (Zc7 rfl H rfl) (Zo ?_)))))
       exact ⟨rfl,rfl,av,ad,aw,aR,N,rfl,ax,ae⟩
     rintro _ _ ⟨rfl,bG,U,M,am,W,X,aO,an,Y⟩
     refine Ze (zD hp bG (fun a4 hp=>?_) (fun a4 hp=>?_))
     ·refine ZbU (Zas (Zbe (Zx (Zar (Zb _ X (ckk hp fun bh hp=>Zc (zG rfl rfl bh) (Zb (.n (d+1)) rfl (Zo ?_))))))))
      cases hp
      exact ⟨rfl,J,an,Y,U,M,am,W,rfl,(ab.pk [0,1,2])⟩
     ·refine Za3 (Zj (Zb _ Y (Zb _ U (Zb _ M (Zb _ aO ?_)))))
      obtain ⟨x2,⟨_,bZ,bt,rfl,bT⟩,hp⟩:=bdk hp fun _=>ZN.ok (h:=aQ)  (ab.sl 1 rfl) (ab.sl 2 rfl)
      refine Zan rfl rfl bt ?_
      have aq:=ab.call bT rfl
      refine Zb (.b x2) rfl (Ze (Zj (Zb (.b x2) rfl (Zc (Zcl rfl) (Ze (zD hp rfl (fun a5 hp=>?_) (fun a5 hp=>?_)))))))
      ·refine Zar (Zb _ U (Zb _ M (Zb _ X (Zb _ aO (Zb _ W ?_)))))
       obtain ⟨x3,⟨_,_,bu,aZ,rfl,bU⟩,hp⟩:=bdk hp fun _=>Zah.ok (h:=bZ)  (aq.sl 2 rfl)
       refine Zan rfl rfl bu ?_
       have bN:=aq.call bU rfl
       refine Zb aZ rfl (Zo (Zat (Zx (Zar (Zb _ X (ckk hp fun bi hp=>Zc (zG rfl rfl bi) (Zb (.n (d+1)) rfl (Zo ?_))))))))
       cases hp
       exact ⟨rfl,aZ,an,Y,rfl,M,am,W,rfl,(bN.pk [0,1,3])⟩
      ·refine Zc5 (Zat (Zx (Zar (Zb _ X (ckk hp fun bj hp=>Zc (zG rfl rfl bj) (Zb (.n (d+1)) rfl (Zo ?_)))))))
       cases hp
       exact ⟨rfl,J,an,Y,U,M,am,W,rfl,(aq.pk [0,1,2])⟩
    ·refine ZbU (Zas ?_)
     cases hp
     exact ⟨nofun,rfl,J,ax,ae,av,ad,(ap.pk [0,1,2])⟩
   rintro l5 hp _ _ _ ⟨rfl,ak,cf,cg,cd,ce,bM⟩
   refine Zbe (Zat (Zx (Zar (Zb _ ce (ckk hp fun bk hp=>Zc (zG rfl rfl bk) (Zb (.n (i1+1)) rfl (Zo ?_)))))))
   cases hp
   exact ⟨rfl,ak,cf,cg,cd,rfl,(bM.pk [0,1,2])⟩
  ·refine ZbU (Zas ?_)
   cases hp
   exact ⟨nofun,rfl,D,aj,aF,(C.pk [1,2])⟩
 rintro ⟨at_4,l1⟩ hp _ _ _ ⟨rfl,S,b6,b5,bK⟩
 refine Zbe (Zx (Zj (Zb _ b5 (Zb _ b6 (Zb S rfl (Zb g rfl (Ze (zR (zf (zj rfl (zj rfl ZF)) ?_)))))))))
 cases hp
 exact ⟨S,g,rfl,(bK.pk [1,0])⟩

theorem ZaK.ok {h:Hp}{d:Int}   {r:Bool}(hp:ZaK d=some r) :
  ∃ u k',Is G 90 [.n d] h u k'∧V.b r=u∧Own (fun r=>r<h.n) h k' []:=by
 refine WC.is (ZaB ZeM ?_)
 unfold ZaK at hp
 let B:Nat→Prop:=(fun r=>r<h.n)
 have hO:Own B h h []:=Own.start0 h
 refine Zj (Zb (.b false) rfl (Ze (Zj (Zb (.n d) rfl (Zc (Zds rfl rfl) (Zb (.b (decide (0≤d))) rfl (Zay 3 (fun f k=>h=k∧f 8=.b ((decide (0≤d))&&(decide (d≤3)))) ?_ ?_)))))))
 ·rcases bc (decide (0≤d)) with a|a
  ·refine Z6 rfl a (Zb (.n d) rfl (Z6 rfl a (Zc (Zh3 rfl rfl) (Zc (Zel rfl a rfl) (Zo ?_)))))
   exact ⟨rfl,rfl⟩
  ·refine Zs rfl a (Zs rfl a (Zc (Zek (w:=(decide (0≤d))&&(decide (d≤3))) rfl a rfl) (Zo ?_)))
   exact ⟨rfl,rfl⟩
 rintro _ _ ⟨rfl,c⟩
 refine Zb _ c (Ze (zR (zf (zj rfl ZF) ?_)))
 cases hp
 exact ⟨rfl,(hO.pk [])⟩

theorem ZaL.ok {h:Hp}{d:Int}{times:Int}   {r:Int}(hp:ZaL d times=some r) :
  ∃ u k',Is G 77 [.n d,.n times] h u k'∧V.n r=u∧Own (fun r=>r<h.n) h k' []:=by
 refine WC.is (ZaB ZeN ?_)
 unfold ZaL at hp
 let B:Nat→Prop:=(fun r=>r<h.n)
 have hO:Own B h h []:=Own.start0 h
 refine Zj (Zb (.n 0) rfl (Ze (ZM (Zj (Zb (.n d) rfl ?_)))))
 obtain ⟨x,⟨_,_,f,rfl,g⟩,hp⟩:=bdk hp fun _=>ZaK.ok (h:=h)  
 refine Zan rfl rfl f ?_
 have a:=hO.call g rfl
 refine Zc (Zcl rfl) (Ze (zD hp rfl (fun b hp=>?_) (fun b hp=>?_)))
 ·refine Zj (Zb (.n 0) rfl (Ze (zR (zl (zf (zj rfl ZF) ?_)))))
  cases hp
  exact ⟨rfl,(a.pk [])⟩
 ·refine Za3 (Zj (Zb (.n d) rfl (Zb (.n times) rfl (Zc (ZeF rfl rfl (by decide)) (ckk hp fun c hp=>Zc (zG rfl rfl c) (ckk hp fun e hp=>Zc (zG rfl rfl e) (Zc (ZeF rfl rfl (by decide)) (Zb (.n (((d+(times.tmod 4))+4).tmod 4)) rfl (Zo ?_)))))))))
  refine Zx (zR (zf (zj rfl ZF) ?_))
  cases hp
  exact ⟨rfl,(a.pk [])⟩

theorem ZcS.ok {h:Hp}{cells:List Za}{v:Int}{d:Int}{v_cells:V}(s_cells:Sl Zd h v_cells cells) {r:Int}(hp:ZcS cells v d=some r) :
  ∃ u k',Is G 82 [v_cells,.n v,.n d] h u k'∧V.n r=u∧Own (fun r=>r<h.n) h k' []:=by
 refine WC.is (ZaB Zgg ?_)
 unfold ZcS at hp
 let B:Nat→Prop:=(fun r=>r<h.n)
 have hO:Own B h h []:=Own.start0 h
 refine Zj (Zb (.n 0) rfl (Ze (ZM (Zh2 ?_))))
 have c:=hO.bump 16
 refine Zac v_cells rfl (Zac (.n v) rfl (Zac (.n d) rfl (ckk hp fun j hp=>ZG rfl (ZW (c.rd0 s_cells.rd) rfl rfl j) (ZG rfl (Za6 (c.rd0 s_cells.rd) (Zf j) rfl rfl) (ckk hp fun o hp=>ZG rfl (Zbz (c.rd0 s_cells.rd) (Zf j) rfl rfl o rfl) (ZG rfl (zt (c.rd0 s_cells.rd) rfl (Zf j) (zS o)) (Zac v_cells rfl (Zac (.n v) rfl (Zac (.n d) rfl (ZG rfl (ZW (c.rd0 s_cells.rd) rfl rfl j) (ZG rfl (Za6 (c.rd0 s_cells.rd) (Zf j) rfl rfl) ?_)))))))))))
 refine ZG rfl (Zbz (c.rd0 s_cells.rd) (Zf j) rfl rfl o rfl) (ZG rfl (zt (c.rd0 s_cells.rd) rfl (Zf j) (Zc3 o)) (Zac (.n (((gi cells v.toNat).Next).get d)) rfl (Zac (.n (((gi cells v.toNat).Owner).get d)) rfl (Zal (Zx (ZM (Zj (Zb (.n (((gi cells v.toNat).Next).get d)) rfl (Zc (ZbZ rfl rfl) (Ze (zD hp rfl (fun H hp=>?_) (fun H hp=>?_))))))))))))
 ·refine ZM (Zj (Zb (.n (((gi cells v.toNat).Owner).get d)) rfl (Zc (Zcv rfl rfl) (Ze (zD hp rfl (fun I hp=>?_) (fun I hp=>?_))))))
  ·refine Zj (Zb (.n 9) rfl (Ze (zR (zl (zl (zf (zj rfl ZF) ?_))))))
   cases hp
   exact ⟨rfl,(c.pk [])⟩
  ·refine Za3 (Zj (Zb (.n 0) rfl (Ze (zR (zl (zf (zj rfl ZF) ?_))))))
   cases hp
   exact ⟨rfl,(c.pk [])⟩
 ·refine Za3 (ZM (Zj (Zb (.n (((gi cells v.toNat).Next).get d)) rfl (Zc (zV rfl rfl) (Zb (.b (decide ((((gi cells v.toNat).Next).get d)<0))) rfl (Zay 5 (fun f k=>(h.bump 16)=k∧f 35=.b ((decide ((((gi cells v.toNat).Next).get d)<0))||(decide ((cells.length:Int)≤(((gi cells v.toNat).Next).get d))))∧f 0=v_cells∧f 1=.n v∧f 2=.n d∧f 7=.n (((gi cells v.toNat).Next).get d)∧f 8=.n (((gi cells v.toNat).Owner).get d)) ?_ ?_))))))
  ·rcases bc (decide ((((gi cells v.toNat).Next).get d)<0)) with e|e
   ·refine Zs rfl e (Zs rfl e (Zs rfl e (Zs rfl e (Zc (Zc6 (w:=(decide ((((gi cells v.toNat).Next).get d)<0))||(decide ((cells.length:Int)≤(((gi cells v.toNat).Next).get d)))) rfl e rfl) (Zo ?_)))))
    exact ⟨rfl,rfl,rfl,rfl,rfl,rfl,rfl⟩
   ·refine Z6 rfl e (Zb (.n (((gi cells v.toNat).Next).get d)) rfl (Z6 rfl e (Zb v_cells rfl (Z6 rfl e (Zc (ZaC (c.rd0 s_cells.rd) rfl) (Z6 rfl e (Zc (Zds rfl rfl) (Zc (Zc7 rfl e rfl) (Zo ?_)))))))))
    exact ⟨rfl,rfl,rfl,rfl,rfl,rfl,rfl⟩
  rintro _ _ ⟨rfl,M,y,q,A,s,C⟩
  refine Zb _ M (Zay 4 (fun f k=>(h.bump 16)=k∧f 40=.b (((decide ((((gi cells v.toNat).Next).get d)<0))||(decide ((cells.length:Int)≤(((gi cells v.toNat).Next).get d))))||(decide (((gi cells v.toNat).Next).get d=v)))∧f 0=v_cells∧f 1=.n v∧f 2=.n d∧f 7=.n (((gi cells v.toNat).Next).get d)∧f 8=.n (((gi cells v.toNat).Owner).get d)) ?_ ?_)
  ·rcases bc ((decide ((((gi cells v.toNat).Next).get d)<0))||(decide ((cells.length:Int)≤(((gi cells v.toNat).Next).get d)))) with i|i
   ·refine Zs rfl i (Zs rfl i (Zs rfl i (Zc (Zc6 (w:=((decide ((((gi cells v.toNat).Next).get d)<0))||(decide ((cells.length:Int)≤(((gi cells v.toNat).Next).get d))))||(decide (((gi cells v.toNat).Next).get d=v))) rfl i rfl) (Zo ?_))))
    exact ⟨rfl,rfl,y,q,A,s,C⟩
   ·refine Z6 rfl i (Zb _ s (Z6 rfl i (Zb _ q (Z6 rfl i (Zc (ZbZ rfl rfl) (Zc (Zc7 rfl i rfl) (Zo ?_)))))))
    exact ⟨rfl,rfl,y,q,A,s,C⟩
  rintro _ _ ⟨rfl,P,D,N,O,E,t⟩
  refine Ze (zD hp P (fun J hp=>?_) (fun J hp=>?_))
  ·refine Zj (Zb (.n 3) rfl (Ze (zR (zl (zf (zj rfl ZF) ?_)))))
   cases hp
   exact ⟨rfl,(c.pk [])⟩
  ·refine Za3 (Zj (Zb _ O ?_))
   obtain ⟨x,⟨_,F,L,rfl,T⟩,hp⟩:=bdk hp fun _=>ZaL.ok (h:=(h.bump 16))  
   refine Zan rfl rfl L ?_
   have g:=c.call T rfl
   refine Zb (.n x) rfl (Ze (ZM (Zj (Zb _ D (Zb _ E (Zb (.n x) rfl (ckk hp fun l hp=>Zc (ZW (g.rd0 s_cells.rd) rfl rfl l) (Zc (Za6 (g.rd0 s_cells.rd) (Zf l) rfl rfl) (ckk hp fun p hp=>Zc (Zbz (g.rd0 s_cells.rd) (Zf l) rfl rfl p rfl) ?_)))))))))
   refine Zc (zt (g.rd0 s_cells.rd) rfl (Zf l) (zS p)) (Zb _ N (Zc (Zcv rfl rfl) (Zb (.b (!(decide (((gi cells (((gi cells v.toNat).Next).get d:Int).toNat).Next).get x=v)))) rfl (Zay 10 (fun f k=>F=k∧f 62=.b ((!(decide (((gi cells (((gi cells v.toNat).Next).get d:Int).toNat).Next).get x=v)))||(!(decide (((gi cells (((gi cells v.toNat).Next).get d:Int).toNat).Owner).get x=((gi cells v.toNat).Owner).get d))))∧f 8=.n (((gi cells v.toNat).Owner).get d)) ?_ ?_))))
   ·rcases bc (!(decide (((gi cells (((gi cells v.toNat).Next).get d:Int).toNat).Next).get x=v))) with a|a
    ·refine Zs rfl a (Zs rfl a (Zs rfl a (Zs rfl a (Zs rfl a (Zs rfl a (Zs rfl a (Zs rfl a (Zs rfl a (Zc (Zc6 (w:=(!(decide (((gi cells (((gi cells v.toNat).Next).get d:Int).toNat).Next).get x=v)))||(!(decide (((gi cells (((gi cells v.toNat).Next).get d:Int).toNat).Owner).get x=((gi cells v.toNat).Owner).get d)))) rfl a rfl) (Zo ?_))))))))))
     exact ⟨rfl,rfl,t⟩
    ·refine Z6 rfl a (Zb _ D (Z6 rfl a (Zb _ E (Z6 rfl a (Zb (.n x) rfl (Z6 rfl a (Zc (ZW (g.rd0 s_cells.rd) rfl rfl l) (Z6 rfl a (Zc (Za6 (g.rd0 s_cells.rd) (Zf l) rfl rfl) (Z6 rfl a (Zc (Zbz (g.rd0 s_cells.rd) (Zf l) rfl rfl p rfl) (Z6 rfl a (Zc (zt (g.rd0 s_cells.rd) rfl (Zf l) (Zc3 p)) ?_)))))))))))))
     refine Z6 rfl a (Zb _ t (Z6 rfl a (Zc (Zcv rfl rfl) (Zc (Zc7 rfl a rfl) (Zo ?_)))))
     exact ⟨rfl,rfl,t⟩
   rintro _ _ ⟨rfl,Q,R⟩
   refine Zb _ Q (Zay 3 (fun f k=>F=k∧f 66=.b (((!(decide (((gi cells (((gi cells v.toNat).Next).get d:Int).toNat).Next).get x=v)))||(!(decide (((gi cells (((gi cells v.toNat).Next).get d:Int).toNat).Owner).get x=((gi cells v.toNat).Owner).get d))))||(decide ((((gi cells v.toNat).Owner).get d)<(-2))))) ?_ ?_)
   ·rcases bc ((!(decide (((gi cells (((gi cells v.toNat).Next).get d:Int).toNat).Next).get x=v)))||(!(decide (((gi cells (((gi cells v.toNat).Next).get d:Int).toNat).Owner).get x=((gi cells v.toNat).Owner).get d)))) with m|m
    ·refine Zs rfl m (Zs rfl m (Zc (Zc6 (w:=((!(decide (((gi cells (((gi cells v.toNat).Next).get d:Int).toNat).Next).get x=v)))||(!(decide (((gi cells (((gi cells v.toNat).Next).get d:Int).toNat).Owner).get x=((gi cells v.toNat).Owner).get d))))||(decide ((((gi cells v.toNat).Owner).get d)<(-2)))) rfl m rfl) (Zo ?_)))
     exact ⟨rfl,rfl⟩
    ·refine Z6 rfl m (Zb _ R (Z6 rfl m (Zc (zV rfl rfl) (Zc (Zc7 rfl m rfl) (Zo ?_)))))
     exact ⟨rfl,rfl⟩
   rintro _ _ ⟨rfl,S⟩
   refine Ze (zD hp S (fun K hp=>?_) (fun K hp=>?_))
   ·refine Zj (Zb (.n 9) rfl (Ze (zR (zl (zf (zj rfl ZF) ?_)))))
    cases hp
    exact ⟨rfl,(g.pk [])⟩
   ·refine Za3 (Zj (Zb (.n 0) rfl (Ze (zR (zf (zj rfl ZF) ?_)))))
    cases hp
    exact ⟨rfl,(g.pk [])⟩

theorem z9.ok {h:Hp}{cells:List Za}{v_cells:V}(s_cells:Sl Zd h v_cells cells) {r:Int}(hp:z9 cells=some r) :
  ∃ u k',Is G 66 [v_cells] h u k'∧V.n r=u∧Own (fun r=>r<h.n) h k' []:=by
 refine WC.is (ZaB Zf6 ?_)
 unfold z9 at hp
 let B:Nat→Prop:=(fun r=>r<h.n)
 have hO:Own B h h []:=Own.start0 h
 refine Zj (Zb (.n 0) rfl (Ze (ZM (Zj (Zb v_cells rfl (Zc (ZaC (hO.rd0 s_cells.rd) rfl) (Zc (ZeU rfl rfl) (Ze (zD hp rfl (fun t hp=>?_) (fun t hp=>?_))))))))))
 ·refine Zj (Zb (.n 6) rfl (Ze (zR (zl (zf (zj rfl ZF) ?_)))))
  cases hp
  exact ⟨rfl,(hO.pk [])⟩
 ·refine Za3 (ZM (Zj (Zb v_cells rfl (Zc (ZaC (hO.rd0 s_cells.rd) rfl) (Zb (.n 0) rfl (Ze (Za2 (Zci hp (fun x fr k=>fr 0=v_cells∧fr 10=.n (cells.length:Int)∧fr 11=.n x∧Own B h k []) (fun|.inl _,e,fr,k=>e=(.exit 0)∧Own B h k []|.inr x1,e,fr,k=>e=.ret∧fr 2=.n x1∧Own B h k []) ⟨rfl,rfl,rfl,(hO.pk [])⟩ ?_ ?_))))))))
  ·rintro x _ _ ⟨I,o,d,l⟩ _ hp
   dsimp only [z9.s0] at hp
   refine Zj (Zc (zV d o) (Ze (ZM (zD hp rfl (fun v hp=>?_) (fun v hp=>?_)))))
   ·refine Za3 (ZM (Za2 (Zj (Zb _ d (Zb (.n x) rfl (Ze (Zj (Zb (.n 0) rfl (Zo ?_)))))))))
    refine Zx (Za2 (Zci hp (fun x2 fr k=>fr 0=v_cells∧fr 3=.n x∧fr 10=.n (cells.length:Int)∧fr 11=.n x∧fr 14=.n x2∧Own B h k []) (fun|.inl _,e,fr,k=>e=(.exit 2)∧fr 0=v_cells∧fr 10=.n (cells.length:Int)∧fr 11=.n x∧Own B h k []|.inr x3,e,fr,k=>e=.ret∧fr 2=.n x3∧Own B h k []) ⟨I,rfl,o,d,rfl,(l.pk [])⟩ ?_ ?_))
    ·rintro x2 _ F ⟨f,s,p,q,g,c⟩ _ hp
     dsimp only [z9.s1] at hp
     refine Zj (Zc (zV g rfl) (Ze (ZM (zD hp rfl (fun w hp=>?_) (fun w hp=>?_)))))
     ·refine Za3 (ZM (Za2 (Zj (Zb _ g (Zb (.n x2) rfl (Ze (Zj (Zb _ f (Zb _ s ?_)))))))))
      refine Zb (.n x2) rfl ?_
      obtain ⟨x4,⟨_,_,D,rfl,E⟩,hp⟩:=bdk hp fun _=>ZcS.ok (h:=F)  (c.rd0 s_cells.rd)
      refine Zan rfl rfl D ?_
      have m:=c.call E rfl
      refine Zb (.n x4) rfl (Ze (Zj (Zb (.n x4) rfl (Zc (Zcv rfl rfl) (Ze (zD hp rfl (fun y hp=>?_) (fun y hp=>?_)))))))
      ·refine Zj (Zb (.n x4) rfl (Zb (.n x4) rfl (Ze (zR (Zbt (zl ?_))))))
       cases hp
       exact ⟨nofun,rfl,rfl,(m.pk [])⟩
      ·refine Zc5 (Zat (Zx (Zar (ckk hp fun A hp=>Zc (zG g rfl A) (Zb (.n (x2+1)) rfl (Zo ?_))))))
       cases hp
       exact ⟨rfl,f,s,p,q,rfl,(m.pk [])⟩
     ·refine ZbU (Zas ?_)
      cases hp
      exact ⟨nofun,rfl,f,p,q,(c.pk [])⟩
    rintro (_|x3) hp _ _ _ j
    ·obtain ⟨rfl,J,K,L,b⟩:=j
     refine Zbe (Zat (Zx (Zar (ckk hp fun C hp=>Zc (zG L rfl C) (Zb (.n (x+1)) rfl (Zo ?_))))))
     cases hp
     exact ⟨rfl,J,K,rfl,(b.pk [])⟩
    ·obtain ⟨rfl,M,b⟩:=j
     refine Zbt (Zbt (zl ?_))
     cases hp
     exact ⟨nofun,rfl,M,(b.pk [])⟩
   ·refine ZbU (Zas ?_)
    cases hp
    exact ⟨nofun,rfl,(l.pk [])⟩
  rintro (_|x1) hp _ _ _ i
  ·obtain ⟨rfl,a⟩:=i
   refine Zbe (Zx (Zj (Zb (.n 0) rfl (Ze (zR (zf (zj rfl ZF) ?_))))))
   cases hp
   exact ⟨rfl,(a.pk [])⟩
  ·obtain ⟨rfl,H,a⟩:=i
   refine Zbt (zl (zf (zj H ZF) ?_))
   cases hp
   exact ⟨rfl,(a.pk [])⟩

theorem Zd7.ok {h:Hp}{x:Int}{y:Int}   {r:Int×Int}(hp:Zd7 x y=some r) :
  ∃ u k',Is G 98 [.i .u64 x,.i .u64 y] h u k'∧V.tu [.i .u64 r.1,.i .u64 r.2]=u∧Own (fun r=>r<h.n) h k' []:=by
 refine WC.is (ZaB Zf2 ?_)
 unfold Zd7 at hp
 let B:Nat→Prop:=(fun r=>r<h.n)
 have hO:Own B h h []:=Own.start0 h
 refine Zj (Zb (.i .u64 0) rfl (Zb (.i .u64 0) rfl (Ze (Zj (Zb (.i .u64 x) rfl (Zc (ZeT (v:=.i .u64 (Z8 .u64 x 4294967295)) rfl rfl (by decide) rfl) (Zb (.i .u64 (Z8 .u64 x 4294967295)) rfl (Ze (ZM ?_)))))))))
 refine Zar (Zb (.i .u64 x) rfl (Zc (ZfT (v:=.i .u64 (zg .u64 x 32)) rfl rfl (by decide) (Zet (by decide))) (Zb (.i .u64 (zg .u64 x 32)) rfl (Ze (Zj (Zb (.i .u64 y) rfl (Zc (ZeT (v:=.i .u64 (Z8 .u64 y 4294967295)) rfl rfl (by decide) rfl) (Zb (.i .u64 (Z8 .u64 y 4294967295)) rfl (Ze (ZM ?_))))))))))
 refine Zar (Zb (.i .u64 y) rfl (Zc (ZfT (v:=.i .u64 (zg .u64 y 32)) rfl rfl (by decide) (Zet (by decide))) (Zb (.i .u64 (zg .u64 y 32)) rfl (Ze (Zj (Zb (.i .u64 (Z8 .u64 x 4294967295)) rfl (Zb (.i .u64 (Z8 .u64 y 4294967295)) rfl (Zc (ZeT (v:=.i .u64 (zr .u64 (Z8 .u64 x 4294967295) (Z8 .u64 y 4294967295))) rfl rfl (by decide) rfl) (Zb (.i .u64 (zr .u64 (Z8 .u64 x 4294967295) (Z8 .u64 y 4294967295))) rfl (Ze ?_))))))))))
 refine Zj (Zb (.i .u64 (zg .u64 x 32)) rfl (Zb (.i .u64 (Z8 .u64 y 4294967295)) rfl (Zc (ZeT (v:=.i .u64 (zr .u64 (zg .u64 x 32) (Z8 .u64 y 4294967295))) rfl rfl (by decide) rfl) (Zb (.i .u64 (zr .u64 (Z8 .u64 x 4294967295) (Z8 .u64 y 4294967295))) rfl (Zc (ZfT (v:=.i .u64 (zg .u64 (zr .u64 (Z8 .u64 x 4294967295) (Z8 .u64 y 4294967295)) 32)) rfl rfl (by decide) (Zet (by decide))) (Zc (ZeT (v:=.i .u64 (ZaQ .u64 (zr .u64 (zg .u64 x 32) (Z8 .u64 y 4294967295)) (zg .u64 (zr .u64 (Z8 .u64 x 4294967295) (Z8 .u64 y 4294967295)) 32))) rfl rfl (by decide) rfl) (Zb (.i .u64 (ZaQ .u64 (zr .u64 (zg .u64 x 32) (Z8 .u64 y 4294967295)) (zg .u64 (zr .u64 (Z8 .u64 x 4294967295) (Z8 .u64 y 4294967295)) 32))) rfl (Ze (Zj (Zb (.i .u64 (ZaQ .u64 (zr .u64 (zg .u64 x 32) (Z8 .u64 y 4294967295)) (zg .u64 (zr .u64 (Z8 .u64 x 4294967295) (Z8 .u64 y 4294967295)) 32))) rfl ?_))))))))))
 refine Zc (ZeT (v:=.i .u64 (Z8 .u64 (ZaQ .u64 (zr .u64 (zg .u64 x 32) (Z8 .u64 y 4294967295)) (zg .u64 (zr .u64 (Z8 .u64 x 4294967295) (Z8 .u64 y 4294967295)) 32)) 4294967295)) rfl rfl (by decide) rfl) (Zb (.i .u64 (Z8 .u64 (ZaQ .u64 (zr .u64 (zg .u64 x 32) (Z8 .u64 y 4294967295)) (zg .u64 (zr .u64 (Z8 .u64 x 4294967295) (Z8 .u64 y 4294967295)) 32)) 4294967295)) rfl (Ze (Zj (Zb (.i .u64 (ZaQ .u64 (zr .u64 (zg .u64 x 32) (Z8 .u64 y 4294967295)) (zg .u64 (zr .u64 (Z8 .u64 x 4294967295) (Z8 .u64 y 4294967295)) 32))) rfl (Zc (ZfT (v:=.i .u64 (zg .u64 (ZaQ .u64 (zr .u64 (zg .u64 x 32) (Z8 .u64 y 4294967295)) (zg .u64 (zr .u64 (Z8 .u64 x 4294967295) (Z8 .u64 y 4294967295)) 32)) 32)) rfl rfl (by decide) (Zet (by decide))) (Zb (.i .u64 (zg .u64 (ZaQ .u64 (zr .u64 (zg .u64 x 32) (Z8 .u64 y 4294967295)) (zg .u64 (zr .u64 (Z8 .u64 x 4294967295) (Z8 .u64 y 4294967295)) 32)) 32)) rfl (Ze (Zj (Zb (.i .u64 (Z8 .u64 (ZaQ .u64 (zr .u64 (zg .u64 x 32) (Z8 .u64 y 4294967295)) (zg .u64 (zr .u64 (Z8 .u64 x 4294967295) (Z8 .u64 y 4294967295)) 32)) 4294967295)) rfl ?_)))))))))
 refine Zb (.i .u64 (Z8 .u64 x 4294967295)) rfl (Zb (.i .u64 (zg .u64 y 32)) rfl (Zc (ZeT (v:=.i .u64 (zr .u64 (Z8 .u64 x 4294967295) (zg .u64 y 32))) rfl rfl (by decide) rfl) (Zc (ZeT (v:=.i .u64 (ZaQ .u64 (Z8 .u64 (ZaQ .u64 (zr .u64 (zg .u64 x 32) (Z8 .u64 y 4294967295)) (zg .u64 (zr .u64 (Z8 .u64 x 4294967295) (Z8 .u64 y 4294967295)) 32)) 4294967295) (zr .u64 (Z8 .u64 x 4294967295) (zg .u64 y 32)))) rfl rfl (by decide) rfl) (Zb (.i .u64 (ZaQ .u64 (Z8 .u64 (ZaQ .u64 (zr .u64 (zg .u64 x 32) (Z8 .u64 y 4294967295)) (zg .u64 (zr .u64 (Z8 .u64 x 4294967295) (Z8 .u64 y 4294967295)) 32)) 4294967295) (zr .u64 (Z8 .u64 x 4294967295) (zg .u64 y 32)))) rfl (Ze (Zj (Zb (.i .u64 (zg .u64 x 32)) rfl (Zb (.i .u64 (zg .u64 y 32)) rfl (Zc (ZeT (v:=.i .u64 (zr .u64 (zg .u64 x 32) (zg .u64 y 32))) rfl rfl (by decide) rfl) (Zb (.i .u64 (zg .u64 (ZaQ .u64 (zr .u64 (zg .u64 x 32) (Z8 .u64 y 4294967295)) (zg .u64 (zr .u64 (Z8 .u64 x 4294967295) (Z8 .u64 y 4294967295)) 32)) 32)) rfl (Zc (ZeT (v:=.i .u64 (ZaQ .u64 (zr .u64 (zg .u64 x 32) (zg .u64 y 32)) (zg .u64 (ZaQ .u64 (zr .u64 (zg .u64 x 32) (Z8 .u64 y 4294967295)) (zg .u64 (zr .u64 (Z8 .u64 x 4294967295) (Z8 .u64 y 4294967295)) 32)) 32))) rfl rfl (by decide) rfl) ?_)))))))))))
 refine Zb (.i .u64 (ZaQ .u64 (Z8 .u64 (ZaQ .u64 (zr .u64 (zg .u64 x 32) (Z8 .u64 y 4294967295)) (zg .u64 (zr .u64 (Z8 .u64 x 4294967295) (Z8 .u64 y 4294967295)) 32)) 4294967295) (zr .u64 (Z8 .u64 x 4294967295) (zg .u64 y 32)))) rfl (Zc (ZfT (v:=.i .u64 (zg .u64 (ZaQ .u64 (Z8 .u64 (ZaQ .u64 (zr .u64 (zg .u64 x 32) (Z8 .u64 y 4294967295)) (zg .u64 (zr .u64 (Z8 .u64 x 4294967295) (Z8 .u64 y 4294967295)) 32)) 4294967295) (zr .u64 (Z8 .u64 x 4294967295) (zg .u64 y 32))) 32)) rfl rfl (by decide) (Zet (by decide))) (Zc (ZeT (v:=.i .u64 (ZaQ .u64 (ZaQ .u64 (zr .u64 (zg .u64 x 32) (zg .u64 y 32)) (zg .u64 (ZaQ .u64 (zr .u64 (zg .u64 x 32) (Z8 .u64 y 4294967295)) (zg .u64 (zr .u64 (Z8 .u64 x 4294967295) (Z8 .u64 y 4294967295)) 32)) 32)) (zg .u64 (ZaQ .u64 (Z8 .u64 (ZaQ .u64 (zr .u64 (zg .u64 x 32) (Z8 .u64 y 4294967295)) (zg .u64 (zr .u64 (Z8 .u64 x 4294967295) (Z8 .u64 y 4294967295)) 32)) 4294967295) (zr .u64 (Z8 .u64 x 4294967295) (zg .u64 y 32))) 32))) rfl rfl (by decide) rfl) (Zb (.i .u64 (ZaQ .u64 (ZaQ .u64 (zr .u64 (zg .u64 x 32) (zg .u64 y 32)) (zg .u64 (ZaQ .u64 (zr .u64 (zg .u64 x 32) (Z8 .u64 y 4294967295)) (zg .u64 (zr .u64 (Z8 .u64 x 4294967295) (Z8 .u64 y 4294967295)) 32)) 32)) (zg .u64 (ZaQ .u64 (Z8 .u64 (ZaQ .u64 (zr .u64 (zg .u64 x 32) (Z8 .u64 y 4294967295)) (zg .u64 (zr .u64 (Z8 .u64 x 4294967295) (Z8 .u64 y 4294967295)) 32)) 4294967295) (zr .u64 (Z8 .u64 x 4294967295) (zg .u64 y 32))) 32))) rfl (Ze (Zj (Zb (.i .u64 x) rfl (Zb (.i .u64 y) rfl (Zc (ZeT (v:=.i .u64 (zr .u64 x y)) rfl rfl (by decide) rfl) (Zb (.i .u64 (zr .u64 x y)) rfl (Ze ?_))))))))))
 refine zR (zf (zj rfl (zj rfl ZF)) ?_)
 cases hp
 exact ⟨rfl,(hO.pk [])⟩

theorem Zdp.ok {h:Hp}{x:Int}{y:Int}   {r:Int×Int}(hp:Zdp x y=some r) :
  ∃ u k',Is G 89 [.i .u64 x,.i .u64 y] h u k'∧V.tu [.i .u64 r.1,.i .u64 r.2]=u∧Own (fun r=>r<h.n) h k' []:=by
 refine WC.is (ZaB Zgt ?_)
 unfold Zdp at hp
 let B:Nat→Prop:=(fun r=>r<h.n)
 have hO:Own B h h []:=Own.start0 h
 refine Zj (Zb (.i .u64 0) rfl (Zb (.i .u64 0) rfl (Ze (ZM (ZjD rfl rfl (Za3 (Zj (Zb (.i .u64 x) rfl (Zb (.i .u64 y) rfl ?_)))))))))
 obtain ⟨⟨x1,x2⟩,⟨_,_,a,rfl,c⟩,hp⟩:=bdk hp fun _=>Zd7.ok (h:=h)  
 refine Zan rfl rfl a ?_
 have b:=hO.call c rfl
 refine Zb (.tu [.i .u64 x1,.i .u64 x2]) rfl (Zc (zM rfl rfl) (Zc (zM rfl rfl) (Zb (.i .u64 x1) rfl (Zb (.i .u64 x2) rfl (Ze (Zj (Zb (.i .u64 x1) rfl (Zb (.i .u64 x2) rfl (Zb (.i .u64 x1) rfl (Zb (.i .u64 x2) rfl (Zo ?_)))))))))))
 refine Zx (zR (zf (zj rfl (zj rfl ZF)) ?_))
 cases hp
 exact ⟨rfl,(b.pk [])⟩

theorem zX.ok {h:Hp}{x:List Int}{count:Int}{v_x:V}(s_x:Sl zo h v_x x) {r:(List Int)}(hp:zX x count=some r) :
  ∃ u k',Is G 83 [v_x,.n count] h u k'∧∃ v,v=u∧Own (fun r=>r<h.n) h k' [eSl zo v r]:=by
 refine WC.is (ZaB ZdG ?_)
 unfold zX at hp
 let B:Nat→Prop:=(fun r=>r<h.n)
 have hO:Own B h h []:=Own.start0 h
 refine Zj (Zb (.sn) rfl (Ze (ZM (Zj (Zb (.n count) rfl (Zc (zV rfl rfl) (Ze (ZiE hp (fun _ e fr k=>e=.normal∧fr 0=v_x∧fr 1=.n count∧Own B h k []) (fun _ hp=>?_) ?_))))))))
 ·refine zD hp rfl (fun A hp=>?_) (fun A hp=>?_)
  ·exact nomatch hp
  ·refine Zc5 ?_
   cases hp
   exact ⟨rfl,rfl,rfl,(hO.pk [])⟩
 rintro _ hp _ _ U ⟨rfl,o,Y,p⟩
 refine Zx (Zj (Zb _ o (Zc (ZaC (p.rd0 s_x.rd) rfl) (ckk hp fun F hp=>Zc (Zgj rfl F) (Zb _ Y (ckk hp fun H hp=>Zc (Zgj rfl H) ?_))))))
 obtain ⟨⟨x1,x2⟩,⟨_,W,L,rfl,T⟩,hp⟩:=bdk hp fun _=>Zdp.ok (h:=U)  
 refine Zan rfl rfl L ?_
 have P:=p.call T rfl
 refine Zb (.tu [.i .u64 x1,.i .u64 x2]) rfl (Zc (zM rfl rfl) (Zc (zM rfl rfl) (Zb (.i .u64 x1) rfl (Zb (.i .u64 x2) rfl (Ze (ZM (Zj (Zb (.i .u64 x1) rfl (Zc (ZeU rfl rfl) (Zb (.b (decide (0<x1))) rfl (Zay 3 (fun f k=>W=k∧f 26=.b ((decide (0<x1))||(decide (9223372036854775807<x2)))∧f 0=v_x∧f 6=.i .u64 x2) ?_ ?_)))))))))))
 ·rcases bc (decide (0<x1)) with c|c
  ·refine Zs rfl c (Zs rfl c (Zc (Zc6 (w:=(decide (0<x1))||(decide (9223372036854775807<x2))) rfl c rfl) (Zo ?_)))
   exact ⟨rfl,rfl,o,rfl⟩
  ·refine Z6 rfl c (Zb (.i .u64 x2) rfl (Z6 rfl c (Zc (ZeU rfl rfl) (Zc (Zc7 rfl c rfl) (Zo ?_)))))
   exact ⟨rfl,rfl,o,rfl⟩
 rintro _ _ ⟨rfl,N,M,O⟩
 refine Ze (ZiE hp (fun _ e fr k=>e=.normal∧fr 0=v_x∧fr 6=.i .u64 x2∧Own B h k []) (fun _ hp=>?_) ?_)
 ·refine zD hp N (fun C hp=>?_) (fun C hp=>?_)
  ·exact nomatch hp
  ·refine Zc5 ?_
   cases hp
   exact ⟨rfl,M,O,(P.pk [])⟩
 rintro _ hp _ _ _ ⟨rfl,aa,ab,s⟩
 refine Zx (Zj (Zb _ ab (ckk hp fun I hp=>Zc (Zgj rfl I) (ckk hp fun J hp=>Zaw (s.mks (E:=zo) (y:=(0:Int)) (bytes:=8) (z:=x2) s.fr rfl rfl rfl J (by decide)) ?_))))
 rintro a _ ⟨_,_,t⟩
 refine Zb a rfl (Ze (Zj (Zb a rfl (Zb _ aa (Zaw (t.cpy 0 rfl (t.rd0 s_x.rd) rfl rfl (fun _=>rfl)) ?_)))))
 rintro _ _ ⟨rfl,_,Q⟩
 refine Zb (.n ((min x.length (List.replicate x2.toNat (0:Int)).length:Nat):Int)) rfl (Ze (ZM (Za2 (Zci hp (fun|(newslice,n),fr,k=>fr 7=a∧fr 8=.n n∧Own B h k [eSl zo a newslice]) (fun newslice1 e fr k=>e=(.exit 0)∧fr 7=a∧Own B h k [eSl zo a newslice1]) ⟨rfl,rfl,(Q.pk [0])⟩ ?_ ?_))))
 ·rintro ⟨newslice,n⟩ _ X ⟨d,l,m⟩ _ hp
  dsimp only [zX.s0] at hp
  refine ZM (Zj (Zb _ l (Zb _ d (Zc (ZaC (m.sl 0 rfl) rfl) (Zc (zV rfl rfl) (Ze (zD hp rfl (fun D hp=>?_) (fun D hp=>?_))))))))
  ·refine Za3 (Za2 (ZeS ?_))
   have j:=m.bump 10
   refine Zaq _ l (Zaq _ d (Zaq _ l (ckk hp fun g hp=>ZX (Zma (E:=zo) (z:=n) (j.sl 0 rfl) rfl rfl g) (Zaq _ d (Zaq _ l (ZX (Zkq (E:=zo) (z:=n) (j.sl 0 rfl) rfl rfl g) (Zdf (j.cpyF (E:=zo) (z:=n) 0 rfl g (Sl.cutU (j.sl 0 rfl) g:Sl zo (X.bump 10) (V.cut a 0 n.toNat) (newslice.take n.toNat)) rfl rfl (fun _=>rfl)) ?_)))))))
   rintro _ _ _ ⟨rfl,_,S⟩
   refine ckk hp fun K hp=>ZX (zG rfl rfl K) (Zaq (.n (n+((min (newslice.take n.toNat).length (newslice.drop n.toNat).length:Nat):Int))) rfl (Zch ?_))
   refine And.intro ?_ ?_
   ·intro q hq
    cases hq
   refine Zat ?_
   cases hp
   exact ⟨rfl,d,rfl,(S.pk [0])⟩
  ·refine ZbU (Zas ?_)
   cases hp
   exact ⟨nofun,rfl,d,(m.pk [0])⟩
 rintro newslice1 hp _ _ _ ⟨rfl,ac,R⟩
 refine Zbe (Zx (Zj (Zb _ ac (Zb a rfl (Ze (zR (zf (zj rfl ZF) ?_)))))))
 cases hp
 exact ⟨a,rfl,(R.pk [0])⟩

end Mu
