/- The code comes to what was worked out. -/
import Derived.Test.YtfdidkebomeiaaaMuDf
import Derived.Test.YtfdidkebomeiaaaMuPa
set_option linter.unusedVariables false
set_option linter.unnecessarySimpa false
set_option linter.unusedSimpArgs false
set_option maxHeartbeats 2000000
set_option maxRecDepth 10000
namespace Mu
open Go (IntKind BinOp UnOp)
theorem zI {x:Za} {i:Int} (h:0≤i∧i < 4):(Zi.c x)[0 + i.toNat * 1]? = some (.n ((x.Next).get i)):=by
 rcases (show i = 0∨i = 1∨i = 2∨i = 3 by omega) with rfl | rfl | rfl | rfl <;> rfl
theorem ZbG {x:Za} {i:Int} {w:Int} (h:0≤i∧i < 4):over (Zi.c x) (0 + i.toNat * 1) [.n w] = Zi.c ({ x with Next:=(x.Next).set i w }):=by
 rcases (show i = 0∨i = 1∨i = 2∨i = 3 by omega) with rfl | rfl | rfl | rfl <;> rfl
theorem Zb5 {x:Za} {i:Int} (h:0≤i∧i < 4):(Zi.c x)[4 + i.toNat * 1]? = some (.n ((x.Owner).get i)):=by
 rcases (show i = 0∨i = 1∨i = 2∨i = 3 by omega) with rfl | rfl | rfl | rfl <;> rfl
theorem Zca {x:Za} {i:Int} {w:Int} (h:0≤i∧i < 4):over (Zi.c x) (4 + i.toNat * 1) [.n w] = Zi.c ({ x with Owner:=(x.Owner).set i w }):=by
 rcases (show i = 0∨i = 1∨i = 2∨i = 3 by omega) with rfl | rfl | rfl | rfl <;> rfl
theorem Zmc {x:A4 Int} {i:Int} (h:0≤i∧i < 4):(ZbO.c x)[0 + i.toNat * 1]? = some (.n ((x).get i)):=by
 rcases (show i = 0∨i = 1∨i = 2∨i = 3 by omega) with rfl | rfl | rfl | rfl <;> rfl
theorem Zgr {x:A4 Int} {i:Int} (h:0≤i∧i < 4):ZbU false (ZbO.c x) (i.toNat * 1) 1 = some (.n ((x).get i)):=by
 rcases (show i = 0∨i = 1∨i = 2∨i = 3 by omega) with rfl | rfl | rfl | rfl <;> rfl
theorem Zmd {x:A4 Int} {i:Int} {w:Int} (h:0≤i∧i < 4):over (ZbO.c x) (0 + i.toNat * 1) [.n w] = ZbO.c ((x).set i w):=by
 rcases (show i = 0∨i = 1∨i = 2∨i = 3 by omega) with rfl | rfl | rfl | rfl <;> rfl
theorem Zjw (cs:List Go.Value) (h:OkL [some .u8] cs):∃ x:Int,Zfn.c x = cs.map toV∧Zgh x:=by
 obtain ⟨n0,cs0,rfl,w0,h0⟩:=h.inv_i
 obtain rfl:=h0.inv_n
 exact ⟨n0,rfl,w0⟩
theorem Zlz (cs:List Go.Value) (h:OkL [some .i8] cs):∃ x:Int,ZhB.c x = cs.map toV∧ZhY x:=by
 obtain ⟨n0,cs0,rfl,w0,h0⟩:=h.inv_i
 obtain rfl:=h0.inv_n
 exact ⟨n0,rfl,w0⟩
theorem Zfm (cs:List Go.Value) (h:OkL [some .i64,some .i64] cs):∃ x:Ze,Zb.c x = cs.map toV∧Zdb x:=by
 obtain ⟨n0,cs0,rfl,w0,h0⟩:=h.inv_i
 obtain ⟨n1,cs1,rfl,w1,h1⟩:=h0.inv_i
 obtain rfl:=h1.inv_n
 exact ⟨⟨n0,n1⟩,rfl,⟨w0,w1⟩⟩
theorem ZiB (cs:List Go.Value) (h:OkL [some .i8,some .i8,some .i8] cs):∃ x:A3 Int,ZbV.c x = cs.map toV∧Zha x:=by
 obtain ⟨n0,cs0,rfl,w0,h0⟩:=h.inv_i
 obtain ⟨n1,cs1,rfl,w1,h1⟩:=h0.inv_i
 obtain ⟨n2,cs2,rfl,w2,h2⟩:=h1.inv_i
 obtain rfl:=h2.inv_n
 exact ⟨⟨n0,n1,n2⟩,rfl,⟨w0,w1,w2⟩⟩
theorem zf.ok {h:Hp} {n:Int}   {r:(List Za)} (hp:zf n = some r) :
  ∃ u k',Is G 46 [.n n] h u k'∧∃ (v'1:V),v'1 = u∧Own (fun r=>r < h.n) h k' [eSl Zi v'1 r]:=by
 refine WC.is (Za7 ZcU ?_)
 unfold zf at hp
 let B:Nat→Prop:=(fun r=>r < h.n)
 have hO:Own B h h []:=Own.start0 h
 refine Zk (Zo (Zf (.sn) rfl (Zd (Zc (Zk (Zo (Zf (.n n) rfl ?_)))))))
 obtain ⟨c'1,hp⟩:=Zm hp
 refine zF (hO.mks (E:=Zi) (y:=(⟨⟨0,0,0,0⟩,⟨0,0,0,0⟩⟩:Za)) (bytes:=64) (z:=n) hO.fr rfl rfl rfl c'1 (by decide)) ?_
 rintro v'2 k'1 ⟨r'1,f'1,hW⟩
 have hO'1:=hW
 refine Zf v'2 rfl (Zd (Zc (Zk (Zk (Zo (Zf (.n 0) rfl (Zd ?_)))))))
 refine Zc (Zas ?_)
 obtain ⟨o'1,ho'1,hp⟩:=Zs hp
 refine W.mono (Q:=fun e fr k=>match (generalizing:=false) o'1 with
   | l1=>e = (.exit 0)∧fr 3 = v'2∧Own B h k [eSl Zi v'2 l1]) ?_ ?_
 ·clear hp
  refine zR (fun st fr k=>match st with | (l,v)=>fr 0 = .n n∧fr 3 = v'2∧fr 4 = .n v∧Own B h k [eSl Zi v'2 l]) ho'1 (s:=(List.replicate n.toNat (⟨⟨0,0,0,0⟩,⟨0,0,0,0⟩⟩:Za),0)) ⟨rfl,rfl,rfl,(hO'1.pick [0] rfl (by decide))⟩ ?_
  rintro ⟨l,v⟩ q'2 k'3 ⟨q'2_0,q'2_3,q'2_4,hO'3⟩ o'2 hp
  dsimp only [zf.s0] at hp
  refine Zk (Zk (Zo (Zf (.n v) q'2_4 (Zf (.n n) q'2_0 (Zj (zL (a:=v) (b:=n) rfl rfl) (Zd (Zc ?_)))))))
  rcases Zt hp with ⟨b'1,hp⟩ | ⟨b'1,hp⟩
  ·refine zK (t:=(decide (v < n))) rfl b'1 ?_
   refine zN (Zc (Zk (Zas (Zk (Zo (Zf (.n 0) rfl (Zd ?_)))))))
   refine Zc (Zas ?_)
   obtain ⟨o'3,ho'2,hp⟩:=Zs hp
   refine W.mono (Q:=fun e fr k=>match (generalizing:=false) o'3 with
     | l3=>e = (.exit 2)∧fr 0 = .n n∧fr 3 = v'2∧fr 4 = .n v∧Own B h k [eSl Zi v'2 l3]) ?_ ?_
   ·clear hp
    refine zR (fun st fr k=>match st with | (l2,d)=>fr 0 = .n n∧fr 3 = v'2∧fr 4 = .n v∧fr 5 = .n d∧Own B h k [eSl Zi v'2 l2]) ho'2 (s:=(l,0)) ⟨q'2_0,q'2_3,q'2_4,rfl,(hO'3.pick [0] rfl (by decide))⟩ ?_
    rintro ⟨l2,d⟩ q'4 k'5 ⟨q'4_0,q'4_3,q'4_4,q'4_5,hO'5⟩ o'4 hp
    dsimp only [zf.s1] at hp
    refine Zk (Zk (Zo (Zf (.n d) q'4_5 (Zj (zL (a:=d) (b:=4) rfl rfl) (Zd (Zc ?_))))))
    rcases Zt hp with ⟨b'2,hp⟩ | ⟨b'2,hp⟩
    ·refine zK (t:=(decide (d < 4))) rfl b'2 ?_
     refine zN (Zc (Zk (Zas (Zo (Zf v'2 q'4_3 (Zf (.n v) q'4_4 (Zf (.n d) q'4_5 ?_)))))))
     obtain ⟨c'2,hp⟩:=Zm hp
     refine Zj (zq (E:=Zi) (z:=v) (hO'5.sl 0 rfl) rfl rfl c'2) (Zj (Zax (off':=0) (off2:=0) (hO'5.sl 0 rfl) (Zl c'2) rfl rfl) ?_)
     obtain ⟨c'3,hp⟩:=Zm hp
     refine Zj (Zb3 (off:=0) (off2:=(0 + d.toNat * 1)) (z:=d) (hO'5.sl 0 rfl) (Zl c'2) rfl rfl c'3 rfl) (zF (hO'5.ste (E:=Zi) (y:=({ gi l2 v.toNat with Next:=((gi l2 v.toNat).Next).set d (-1) })) (ws:=[.n (-1)]) 0 rfl rfl (Zl c'2) rfl rfl ⟨rfl,(by have:=c'3; exact (show 0 + d.toNat * 1 + 1≤8 by omega)),rfl⟩ (ZbG c'3)) ?_)
     rintro _ k'6 ⟨rfl,f'2,m'1,hW⟩
     have hO'6:=hW
     refine Zd (Zan (Zc (Zo (Zf (.n d) q'4_5 ?_))))
     obtain ⟨c'4,hp⟩:=Zm hp
     refine Zj (zH (a:=d) (b:=1) rfl rfl c'4) (Zf (.n (d + 1)) rfl (Zd ?_))
     cases hp
     exact (Or.inl ⟨(l2.set v.toNat ({ gi l2 v.toNat with Next:=((gi l2 v.toNat).Next).set d (-1) }),d + 1),rfl,rfl,q'4_0,q'4_3,q'4_4,rfl,(hO'6.pick [0] rfl (by decide))⟩)
    ·refine zG (t:=(decide (d < 4))) rfl b'2 ?_
     refine Zbp (zZ ?_)
     cases hp
     refine (Or.inr ⟨l2,rfl,(fun h=>nomatch h),(fun he=>?_)⟩)
     subst he; exact ⟨rfl,q'4_0,q'4_3,q'4_4,(hO'5.pick [0] rfl (by decide))⟩
   intro e'2 q'3 k'4 hJ'2
   obtain ⟨l3,rfl⟩:∃ x,x = o'3:=⟨_,rfl⟩
   obtain ⟨rfl,q'3_0,q'3_3,q'3_4,hO'4⟩:=hJ'2
   refine ZaJ (Zan (Zc (Zo (Zf (.n v) q'3_4 ?_))))
   obtain ⟨c'5,hp⟩:=Zm hp
   refine Zj (zH (a:=v) (b:=1) rfl rfl c'5) (Zf (.n (v + 1)) rfl (Zd ?_))
   cases hp
   exact (Or.inl ⟨(l3,v + 1),rfl,rfl,q'3_0,q'3_3,rfl,(hO'4.pick [0] rfl (by decide))⟩)
  ·refine zG (t:=(decide (v < n))) rfl b'1 ?_
   refine Zbp (zZ ?_)
   cases hp
   refine (Or.inr ⟨l,rfl,(fun h=>nomatch h),(fun he=>?_)⟩)
   subst he; exact ⟨rfl,q'2_3,(hO'3.pick [0] rfl (by decide))⟩
 intro e'1 q'1 k'2 hJ'1
 obtain ⟨l1,rfl⟩:∃ x,x = o'1:=⟨_,rfl⟩
 obtain ⟨rfl,q'1_3,hO'2⟩:=hJ'1
 refine ZaJ (Zc (Zk (Zo (Zf v'2 q'1_3 (Zf v'2 rfl (Zd (Zc ?_)))))))
 refine zY (zx (zC (n:=2) (v:=v'2) rfl ZS) ?_)
 cases hp
 exact ⟨v'2,rfl,(hO'2.pick [0] rfl (by decide))⟩

theorem ZI.ok {h:Hp} {at_:List Ze} {i:Int} {d:Int} {v_at_:V} (s_at_:Sl Zb h v_at_ at_) {r:Int} (hp:ZI at_ i d = some r) :
  ∃ u k',Is G 63 [v_at_,.n i,.n d] h u k'∧V.n r = u∧Own (fun r=>r < h.n) h k' []:=by
 refine WC.is (Za7 Zcp ?_)
 unfold ZI at hp
 let B:Nat→Prop:=(fun r=>r < h.n)
 have hO:Own B h h []:=Own.start0 h
 refine Zk (Zo (Zf (.n 0) rfl (Zd (Zc (Zk (Zo (Zf (.n (-1)) rfl ?_)))))))
 refine Zd (Zc (Zk (Zk (Zo (Zf (.n 0) rfl (Zd (Zc ?_)))))))
 refine Zas ?_
 obtain ⟨o'1,ho'1,hp⟩:=Zs hp
 refine W.mono (Q:=fun e fr k=>match (generalizing:=false) o'1 with
   | best1=>e = (.exit 0)∧fr 7 = .n best1∧Own B h k []) ?_ ?_
 ·clear hp
  refine zR (fun st fr k=>match st with | (best,k_)=>fr 0 = v_at_∧fr 1 = .n i∧fr 2 = .n d∧fr 7 = .n best∧fr 8 = .n k_∧Own B h k []) ho'1 (s:=((-1),0)) ⟨rfl,rfl,rfl,rfl,rfl,(hO.pick [] rfl (by decide))⟩ ?_
  rintro ⟨best,k_⟩ q'2 k'2 ⟨q'2_0,q'2_1,q'2_2,q'2_7,q'2_8,hO'2⟩ o'2 hp
  dsimp only [ZI.s0] at hp
  refine Zk (Zk (Zo (Zf (.n k_) q'2_8 (Zf v_at_ q'2_0 (Zj (Za0 (hO'2.rd0 s_at_.rd) rfl) (Zj (zL (a:=k_) (b:=(at_.length:Int)) rfl rfl) (Zd ?_)))))))
  refine Zc ?_
  rcases Zt hp with ⟨b'1,hp⟩ | ⟨b'1,hp⟩
  ·refine zK (t:=(decide (k_ < (at_.length:Int)))) rfl b'1 ?_
   refine zN (Zc (Zk (Zas (Zk (Zk (Zh5 ?_))))))
   have hW:=hO'2.bump 45
   have hO'3:=hW
   refine Zap (.n d) q'2_2 (ZU rfl (Zb2 (a:=d) (b:=0) rfl rfl) (Zap (.b (decide (d = 0))) rfl ?_))
   obtain ⟨t,hv'1,hp⟩:=Zs hp
   refine ZbC 12 (fun fr' k'=>(k'2.bump 45) = k'∧fr' 29 = .b t∧fr' 0 = v_at_∧fr' 1 = .n i∧fr' 2 = .n d∧fr' 7 = .n best∧fr' 8 = .n k_) ?_ ?_
   ·clear hp; rcases Zt hv'1 with ⟨b'2,hp⟩ | ⟨b'2,hp⟩
    ·skip
     refine ZB rfl b'2 (Zap v_at_ q'2_0 (ZB rfl b'2 (Zap (.n k_) q'2_8 (ZB rfl b'2 ?_))))
     obtain ⟨c'1,hp⟩:=Zm hp
     refine ZU rfl (zq (E:=Zb) (z:=k_) (hO'3.rd0 s_at_.rd) rfl rfl c'1) (ZB rfl b'2 (ZU rfl (Zax (off':=0) (off2:=1) (hO'3.rd0 s_at_.rd) (Zl c'1) rfl rfl) (ZB rfl b'2 (ZU rfl (zO (w:=.n ((gi at_ k_.toNat).Y)) (hO'3.rd0 s_at_.rd) rfl (Zl c'1) rfl) (ZB rfl b'2 (Zap v_at_ q'2_0 (ZB rfl b'2 ?_)))))))
     refine Zap (.n i) q'2_1 (ZB rfl b'2 ?_)
     obtain ⟨c'2,hp⟩:=Zm hp
     refine ZU rfl (zq (E:=Zb) (z:=i) (hO'3.rd0 s_at_.rd) rfl rfl c'2) (ZB rfl b'2 (ZU rfl (Zax (off':=0) (off2:=1) (hO'3.rd0 s_at_.rd) (Zl c'2) rfl rfl) (ZB rfl b'2 (ZU rfl (zO (w:=.n ((gi at_ i.toNat).Y)) (hO'3.rd0 s_at_.rd) rfl (Zl c'2) rfl) (ZB rfl b'2 (ZU rfl (Zb2 (a:=((gi at_ k_.toNat).Y)) (b:=((gi at_ i.toNat).Y)) rfl rfl) (ZU rfl (zn (t:=(decide (d = 0))) (v:=.b t) rfl b'2 (Eq.trans (b:=V.b (decide ((gi at_ k_.toNat).Y = (gi at_ i.toNat).Y))) rfl (congrArg V.b (Option.some.inj hp)))) ?_)))))))
     refine Zab ?_
     exact ⟨rfl,rfl,q'2_0,q'2_1,q'2_2,q'2_7,q'2_8⟩
    ·skip
     refine Zv rfl b'2 (Zv rfl b'2 (Zv rfl b'2 (Zv rfl b'2 (Zv rfl b'2 (Zv rfl b'2 (Zv rfl b'2 (Zv rfl b'2 ?_)))))))
     refine Zv rfl b'2 (Zv rfl b'2 (Zv rfl b'2 (ZU rfl (ze (t:=(decide (d = 0))) (v:=.b t) rfl b'2 (Eq.trans (b:=V.b false) rfl (congrArg V.b (Option.some.inj hp)))) (Zab ?_))))
     exact ⟨rfl,rfl,q'2_0,q'2_1,q'2_2,q'2_7,q'2_8⟩
   rintro frg'1 _ ⟨rfl,g'1_29,g'1_0,g'1_1,g'1_2,g'1_7,g'1_8⟩
   refine Zap (.b t) g'1_29 ?_
   obtain ⟨t1,hv'2,hp⟩:=Zs hp
   refine ZbC 12 (fun fr' k'=>(k'2.bump 45) = k'∧fr' 42 = .b t1∧fr' 0 = v_at_∧fr' 1 = .n i∧fr' 2 = .n d∧fr' 7 = .n best∧fr' 8 = .n k_) ?_ ?_
   ·clear hp; rcases Zt hv'2 with ⟨b'3,hp⟩ | ⟨b'3,hp⟩
    ·skip
     refine ZB rfl b'3 (Zap v_at_ g'1_0 (ZB rfl b'3 (Zap (.n k_) g'1_8 (ZB rfl b'3 ?_))))
     obtain ⟨c'3,hp⟩:=Zm hp
     refine ZU rfl (zq (E:=Zb) (z:=k_) (hO'3.rd0 s_at_.rd) rfl rfl c'3) (ZB rfl b'3 (ZU rfl (Zax (off':=0) (off2:=0) (hO'3.rd0 s_at_.rd) (Zl c'3) rfl rfl) (ZB rfl b'3 (ZU rfl (zO (w:=.n ((gi at_ k_.toNat).X)) (hO'3.rd0 s_at_.rd) rfl (Zl c'3) rfl) (ZB rfl b'3 (Zap v_at_ g'1_0 (ZB rfl b'3 ?_)))))))
     refine Zap (.n i) g'1_1 (ZB rfl b'3 ?_)
     obtain ⟨c'4,hp⟩:=Zm hp
     refine ZU rfl (zq (E:=Zb) (z:=i) (hO'3.rd0 s_at_.rd) rfl rfl c'4) (ZB rfl b'3 (ZU rfl (Zax (off':=0) (off2:=0) (hO'3.rd0 s_at_.rd) (Zl c'4) rfl rfl) (ZB rfl b'3 (ZU rfl (zO (w:=.n ((gi at_ i.toNat).X)) (hO'3.rd0 s_at_.rd) rfl (Zl c'4) rfl) (ZB rfl b'3 (ZU rfl (ZdQ (a:=((gi at_ k_.toNat).X)) (b:=((gi at_ i.toNat).X)) rfl rfl) (ZU rfl (zn (t:=t) (v:=.b t1) rfl b'3 (Eq.trans (b:=V.b (decide (((gi at_ i.toNat).X) < ((gi at_ k_.toNat).X)))) rfl (congrArg V.b (Option.some.inj hp)))) ?_)))))))
     refine Zab ?_
     exact ⟨rfl,rfl,g'1_0,g'1_1,g'1_2,g'1_7,g'1_8⟩
    ·skip
     refine Zv rfl b'3 (Zv rfl b'3 (Zv rfl b'3 (Zv rfl b'3 (Zv rfl b'3 (Zv rfl b'3 (Zv rfl b'3 (Zv rfl b'3 ?_)))))))
     refine Zv rfl b'3 (Zv rfl b'3 (Zv rfl b'3 (ZU rfl (ze (t:=t) (v:=.b t1) rfl b'3 (Eq.trans (b:=V.b false) rfl (congrArg V.b (Option.some.inj hp)))) (Zab ?_))))
     exact ⟨rfl,rfl,g'1_0,g'1_1,g'1_2,g'1_7,g'1_8⟩
   rintro frg'2 _ ⟨rfl,g'2_42,g'2_0,g'2_1,g'2_2,g'2_7,g'2_8⟩
   refine Zap (.b t1) g'2_42 ?_
   obtain ⟨t2,hv'3,hp⟩:=Zs hp
   refine ZbC 16 (fun fr' k'=>(k'2.bump 45) = k'∧fr' 59 = .b t2∧fr' 0 = v_at_∧fr' 1 = .n i∧fr' 2 = .n d∧fr' 7 = .n best∧fr' 8 = .n k_) ?_ ?_
   ·clear hp; rcases Zt hv'3 with ⟨b'4,hp⟩ | ⟨b'4,hp⟩
    ·skip
     refine ZB rfl b'4 (Zap (.n best) g'2_7 (ZB rfl b'4 (ZU rfl (zL (a:=best) (b:=0) rfl rfl) (ZB rfl b'4 (Zap (.b (decide (best < 0))) rfl ?_)))))
     obtain ⟨t3,hv'4,hp⟩:=Zs hp
     refine ZbC 12 (fun fr' k'=>(k'2.bump 45) = k'∧fr' 58 = .b t3∧fr' 0 = v_at_∧fr' 1 = .n i∧fr' 2 = .n d∧fr' 43 = .b t1∧fr' 7 = .n best∧fr' 8 = .n k_) ?_ ?_
     ·clear hp; rcases Zt hv'4 with ⟨b'5,hp⟩ | ⟨b'5,hp⟩
      ·skip
       refine Zv rfl b'5 (Zv rfl b'5 (Zv rfl b'5 (Zv rfl b'5 (Zv rfl b'5 (Zv rfl b'5 (Zv rfl b'5 (Zv rfl b'5 ?_)))))))
       refine Zv rfl b'5 (Zv rfl b'5 (Zv rfl b'5 (ZB rfl b'4 (ZU rfl (zn (t:=(decide (best < 0))) (v:=.b t3) rfl b'5 (Eq.trans (b:=V.b true) rfl (congrArg V.b (Option.some.inj hp)))) (Zab ?_)))))
       exact ⟨rfl,rfl,g'2_0,g'2_1,g'2_2,rfl,g'2_7,g'2_8⟩
      ·skip
       refine ZB rfl b'5 (Zap v_at_ g'2_0 (ZB rfl b'5 (Zap (.n k_) g'2_8 (ZB rfl b'5 ?_))))
       obtain ⟨c'5,hp⟩:=Zm hp
       refine ZU rfl (zq (E:=Zb) (z:=k_) (hO'3.rd0 s_at_.rd) rfl rfl c'5) (ZB rfl b'5 (ZU rfl (Zax (off':=0) (off2:=0) (hO'3.rd0 s_at_.rd) (Zl c'5) rfl rfl) (ZB rfl b'5 (ZU rfl (zO (w:=.n ((gi at_ k_.toNat).X)) (hO'3.rd0 s_at_.rd) rfl (Zl c'5) rfl) (ZB rfl b'5 (Zap v_at_ g'2_0 (ZB rfl b'5 ?_)))))))
       refine Zap (.n best) g'2_7 (ZB rfl b'5 ?_)
       obtain ⟨c'6,hp⟩:=Zm hp
       refine ZU rfl (zq (E:=Zb) (z:=best) (hO'3.rd0 s_at_.rd) rfl rfl c'6) (ZB rfl b'5 (ZU rfl (Zax (off':=0) (off2:=0) (hO'3.rd0 s_at_.rd) (Zl c'6) rfl rfl) (ZB rfl b'5 (ZU rfl (zO (w:=.n ((gi at_ best.toNat).X)) (hO'3.rd0 s_at_.rd) rfl (Zl c'6) rfl) (ZB rfl b'5 (ZU rfl (zL (a:=((gi at_ k_.toNat).X)) (b:=((gi at_ best.toNat).X)) rfl rfl) (ZB rfl b'4 ?_)))))))
       refine ZU rfl (ze (t:=(decide (best < 0))) (v:=.b t3) rfl b'5 (Eq.trans (b:=V.b (decide (((gi at_ k_.toNat).X) < ((gi at_ best.toNat).X)))) rfl (congrArg V.b (Option.some.inj hp)))) (Zab ?_)
       exact ⟨rfl,rfl,g'2_0,g'2_1,g'2_2,rfl,g'2_7,g'2_8⟩
     rintro frg'3 _ ⟨rfl,g'3_58,g'3_0,g'3_1,g'3_2,g'3_43,g'3_7,g'3_8⟩
     refine ZU rfl (zn (t:=t1) (v:=.b t2) g'3_43 b'4 (Eq.trans (b:=V.b t3) g'3_58 (congrArg V.b (Option.some.inj hp)))) (Zab ?_)
     exact ⟨rfl,rfl,g'3_0,g'3_1,g'3_2,g'3_7,g'3_8⟩
    ·skip
     refine Zv rfl b'4 (Zv rfl b'4 (Zv rfl b'4 (ZbY rfl (ZbY rfl (ZbY rfl (ZbY rfl (ZbY rfl ?_)))))))
     refine ZbY rfl (ZbY rfl (ZbY rfl (ZbY rfl (ZbY rfl (ZbY rfl (Zv rfl b'4 (ZU rfl (ze (t:=t1) (v:=.b t2) rfl b'4 (Eq.trans (b:=V.b false) rfl (congrArg V.b (Option.some.inj hp)))) ?_)))))))
     refine Zab ?_
     exact ⟨rfl,rfl,g'2_0,g'2_1,g'2_2,g'2_7,g'2_8⟩
   rintro frg'4 _ ⟨rfl,g'4_59,g'4_0,g'4_1,g'4_2,g'4_7,g'4_8⟩
   refine Zab (Zc ?_)
   obtain ⟨o'3,ho'2,hp⟩:=Zs hp
   refine W.mono (Q:=fun e fr k=>match (generalizing:=false) o'3 with
     | best2=>e = .normal∧fr 0 = v_at_∧fr 1 = .n i∧fr 2 = .n d∧fr 7 = .n best2∧fr 8 = .n k_∧Own B h k []) ?_ ?_
   ·clear hp; have hp:=ho'2; clear ho'2
    rcases Zt hp with ⟨b'6,hp⟩ | ⟨b'6,hp⟩
    ·refine zK (t:=t2) g'4_59 b'6 ?_
     refine Zo (Zf (.n k_) g'4_8 (Zf (.n k_) rfl (Zd ?_)))
     cases hp
     exact ⟨rfl,g'4_0,g'4_1,g'4_2,rfl,g'4_8,(hO'3.pick [] rfl (by decide))⟩
    ·refine zG (t:=t2) g'4_59 b'6 ?_
     refine zN ?_
     cases hp
     exact ⟨rfl,g'4_0,g'4_1,g'4_2,g'4_7,g'4_8,(hO'3.pick [] rfl (by decide))⟩
   intro e'2 q'3 k'4 hJ'2
   obtain ⟨best2,rfl⟩:∃ x,x = o'3:=⟨_,rfl⟩
   obtain ⟨rfl,q'3_0,q'3_1,q'3_2,q'3_7,q'3_8,hO'4⟩:=hJ'2
   refine Zc (Zk (Zh5 ?_))
   have hW:=hO'4.bump 45
   have hO'5:=hW
   refine Zap (.n d) q'3_2 (ZU rfl (Zb2 (a:=d) (b:=1) rfl rfl) (Zap (.b (decide (d = 1))) rfl ?_))
   obtain ⟨t4,hv'5,hp⟩:=Zs hp
   refine ZbC 12 (fun fr' k'=>(k'4.bump 45) = k'∧fr' 75 = .b t4∧fr' 0 = v_at_∧fr' 1 = .n i∧fr' 2 = .n d∧fr' 7 = .n best2∧fr' 8 = .n k_) ?_ ?_
   ·clear hp; rcases Zt hv'5 with ⟨b'7,hp⟩ | ⟨b'7,hp⟩
    ·skip
     refine ZB rfl b'7 (Zap v_at_ q'3_0 (ZB rfl b'7 (Zap (.n k_) q'3_8 (ZB rfl b'7 ?_))))
     obtain ⟨c'7,hp⟩:=Zm hp
     refine ZU rfl (zq (E:=Zb) (z:=k_) (hO'5.rd0 s_at_.rd) rfl rfl c'7) (ZB rfl b'7 (ZU rfl (Zax (off':=0) (off2:=0) (hO'5.rd0 s_at_.rd) (Zl c'7) rfl rfl) (ZB rfl b'7 (ZU rfl (zO (w:=.n ((gi at_ k_.toNat).X)) (hO'5.rd0 s_at_.rd) rfl (Zl c'7) rfl) (ZB rfl b'7 (Zap v_at_ q'3_0 (ZB rfl b'7 ?_)))))))
     refine Zap (.n i) q'3_1 (ZB rfl b'7 ?_)
     obtain ⟨c'8,hp⟩:=Zm hp
     refine ZU rfl (zq (E:=Zb) (z:=i) (hO'5.rd0 s_at_.rd) rfl rfl c'8) (ZB rfl b'7 (ZU rfl (Zax (off':=0) (off2:=0) (hO'5.rd0 s_at_.rd) (Zl c'8) rfl rfl) (ZB rfl b'7 (ZU rfl (zO (w:=.n ((gi at_ i.toNat).X)) (hO'5.rd0 s_at_.rd) rfl (Zl c'8) rfl) (ZB rfl b'7 (ZU rfl (Zb2 (a:=((gi at_ k_.toNat).X)) (b:=((gi at_ i.toNat).X)) rfl rfl) (ZU rfl (zn (t:=(decide (d = 1))) (v:=.b t4) rfl b'7 (Eq.trans (b:=V.b (decide ((gi at_ k_.toNat).X = (gi at_ i.toNat).X))) rfl (congrArg V.b (Option.some.inj hp)))) ?_)))))))
     refine Zab ?_
     exact ⟨rfl,rfl,q'3_0,q'3_1,q'3_2,q'3_7,q'3_8⟩
    ·skip
     refine Zv rfl b'7 (Zv rfl b'7 (Zv rfl b'7 (Zv rfl b'7 (Zv rfl b'7 (Zv rfl b'7 (Zv rfl b'7 (Zv rfl b'7 ?_)))))))
     refine Zv rfl b'7 (Zv rfl b'7 (Zv rfl b'7 (ZU rfl (ze (t:=(decide (d = 1))) (v:=.b t4) rfl b'7 (Eq.trans (b:=V.b false) rfl (congrArg V.b (Option.some.inj hp)))) (Zab ?_))))
     exact ⟨rfl,rfl,q'3_0,q'3_1,q'3_2,q'3_7,q'3_8⟩
   rintro frg'5 _ ⟨rfl,g'5_75,g'5_0,g'5_1,g'5_2,g'5_7,g'5_8⟩
   refine Zap (.b t4) g'5_75 ?_
   obtain ⟨t5,hv'6,hp⟩:=Zs hp
   refine ZbC 12 (fun fr' k'=>(k'4.bump 45) = k'∧fr' 88 = .b t5∧fr' 0 = v_at_∧fr' 1 = .n i∧fr' 2 = .n d∧fr' 7 = .n best2∧fr' 8 = .n k_) ?_ ?_
   ·clear hp; rcases Zt hv'6 with ⟨b'8,hp⟩ | ⟨b'8,hp⟩
    ·skip
     refine ZB rfl b'8 (Zap v_at_ g'5_0 (ZB rfl b'8 (Zap (.n k_) g'5_8 (ZB rfl b'8 ?_))))
     obtain ⟨c'9,hp⟩:=Zm hp
     refine ZU rfl (zq (E:=Zb) (z:=k_) (hO'5.rd0 s_at_.rd) rfl rfl c'9) (ZB rfl b'8 (ZU rfl (Zax (off':=0) (off2:=1) (hO'5.rd0 s_at_.rd) (Zl c'9) rfl rfl) (ZB rfl b'8 (ZU rfl (zO (w:=.n ((gi at_ k_.toNat).Y)) (hO'5.rd0 s_at_.rd) rfl (Zl c'9) rfl) (ZB rfl b'8 (Zap v_at_ g'5_0 (ZB rfl b'8 ?_)))))))
     refine Zap (.n i) g'5_1 (ZB rfl b'8 ?_)
     obtain ⟨c'10,hp⟩:=Zm hp
     refine ZU rfl (zq (E:=Zb) (z:=i) (hO'5.rd0 s_at_.rd) rfl rfl c'10) (ZB rfl b'8 (ZU rfl (Zax (off':=0) (off2:=1) (hO'5.rd0 s_at_.rd) (Zl c'10) rfl rfl) (ZB rfl b'8 (ZU rfl (zO (w:=.n ((gi at_ i.toNat).Y)) (hO'5.rd0 s_at_.rd) rfl (Zl c'10) rfl) (ZB rfl b'8 (ZU rfl (ZdQ (a:=((gi at_ k_.toNat).Y)) (b:=((gi at_ i.toNat).Y)) rfl rfl) (ZU rfl (zn (t:=t4) (v:=.b t5) rfl b'8 (Eq.trans (b:=V.b (decide (((gi at_ i.toNat).Y) < ((gi at_ k_.toNat).Y)))) rfl (congrArg V.b (Option.some.inj hp)))) ?_)))))))
     refine Zab ?_
     exact ⟨rfl,rfl,g'5_0,g'5_1,g'5_2,g'5_7,g'5_8⟩
    ·skip
     refine Zv rfl b'8 (Zv rfl b'8 (Zv rfl b'8 (Zv rfl b'8 (Zv rfl b'8 (Zv rfl b'8 (Zv rfl b'8 (Zv rfl b'8 ?_)))))))
     refine Zv rfl b'8 (Zv rfl b'8 (Zv rfl b'8 (ZU rfl (ze (t:=t4) (v:=.b t5) rfl b'8 (Eq.trans (b:=V.b false) rfl (congrArg V.b (Option.some.inj hp)))) (Zab ?_))))
     exact ⟨rfl,rfl,g'5_0,g'5_1,g'5_2,g'5_7,g'5_8⟩
   rintro frg'6 _ ⟨rfl,g'6_88,g'6_0,g'6_1,g'6_2,g'6_7,g'6_8⟩
   refine Zap (.b t5) g'6_88 ?_
   obtain ⟨t6,hv'7,hp⟩:=Zs hp
   refine ZbC 16 (fun fr' k'=>(k'4.bump 45) = k'∧fr' 105 = .b t6∧fr' 0 = v_at_∧fr' 1 = .n i∧fr' 2 = .n d∧fr' 7 = .n best2∧fr' 8 = .n k_) ?_ ?_
   ·clear hp; rcases Zt hv'7 with ⟨b'9,hp⟩ | ⟨b'9,hp⟩
    ·skip
     refine ZB rfl b'9 (Zap (.n best2) g'6_7 (ZB rfl b'9 (ZU rfl (zL (a:=best2) (b:=0) rfl rfl) (ZB rfl b'9 (Zap (.b (decide (best2 < 0))) rfl ?_)))))
     obtain ⟨t7,hv'8,hp⟩:=Zs hp
     refine ZbC 12 (fun fr' k'=>(k'4.bump 45) = k'∧fr' 104 = .b t7∧fr' 0 = v_at_∧fr' 1 = .n i∧fr' 2 = .n d∧fr' 7 = .n best2∧fr' 8 = .n k_∧fr' 89 = .b t5) ?_ ?_
     ·clear hp; rcases Zt hv'8 with ⟨b'10,hp⟩ | ⟨b'10,hp⟩
      ·skip
       refine Zv rfl b'10 (Zv rfl b'10 (Zv rfl b'10 (Zv rfl b'10 (Zv rfl b'10 (Zv rfl b'10 (Zv rfl b'10 (Zv rfl b'10 ?_)))))))
       refine Zv rfl b'10 (Zv rfl b'10 (Zv rfl b'10 (ZB rfl b'9 (ZU rfl (zn (t:=(decide (best2 < 0))) (v:=.b t7) rfl b'10 (Eq.trans (b:=V.b true) rfl (congrArg V.b (Option.some.inj hp)))) (Zab ?_)))))
       exact ⟨rfl,rfl,g'6_0,g'6_1,g'6_2,g'6_7,g'6_8,rfl⟩
      ·skip
       refine ZB rfl b'10 (Zap v_at_ g'6_0 (ZB rfl b'10 (Zap (.n k_) g'6_8 (ZB rfl b'10 ?_))))
       obtain ⟨c'11,hp⟩:=Zm hp
       refine ZU rfl (zq (E:=Zb) (z:=k_) (hO'5.rd0 s_at_.rd) rfl rfl c'11) (ZB rfl b'10 (ZU rfl (Zax (off':=0) (off2:=1) (hO'5.rd0 s_at_.rd) (Zl c'11) rfl rfl) (ZB rfl b'10 (ZU rfl (zO (w:=.n ((gi at_ k_.toNat).Y)) (hO'5.rd0 s_at_.rd) rfl (Zl c'11) rfl) (ZB rfl b'10 (Zap v_at_ g'6_0 (ZB rfl b'10 ?_)))))))
       refine Zap (.n best2) g'6_7 (ZB rfl b'10 ?_)
       obtain ⟨c'12,hp⟩:=Zm hp
       refine ZU rfl (zq (E:=Zb) (z:=best2) (hO'5.rd0 s_at_.rd) rfl rfl c'12) (ZB rfl b'10 (ZU rfl (Zax (off':=0) (off2:=1) (hO'5.rd0 s_at_.rd) (Zl c'12) rfl rfl) (ZB rfl b'10 (ZU rfl (zO (w:=.n ((gi at_ best2.toNat).Y)) (hO'5.rd0 s_at_.rd) rfl (Zl c'12) rfl) (ZB rfl b'10 (ZU rfl (zL (a:=((gi at_ k_.toNat).Y)) (b:=((gi at_ best2.toNat).Y)) rfl rfl) (ZB rfl b'9 ?_)))))))
       refine ZU rfl (ze (t:=(decide (best2 < 0))) (v:=.b t7) rfl b'10 (Eq.trans (b:=V.b (decide (((gi at_ k_.toNat).Y) < ((gi at_ best2.toNat).Y)))) rfl (congrArg V.b (Option.some.inj hp)))) (Zab ?_)
       exact ⟨rfl,rfl,g'6_0,g'6_1,g'6_2,g'6_7,g'6_8,rfl⟩
     rintro frg'7 _ ⟨rfl,g'7_104,g'7_0,g'7_1,g'7_2,g'7_7,g'7_8,g'7_89⟩
     refine ZU rfl (zn (t:=t5) (v:=.b t6) g'7_89 b'9 (Eq.trans (b:=V.b t7) g'7_104 (congrArg V.b (Option.some.inj hp)))) (Zab ?_)
     exact ⟨rfl,rfl,g'7_0,g'7_1,g'7_2,g'7_7,g'7_8⟩
    ·skip
     refine Zv rfl b'9 (Zv rfl b'9 (Zv rfl b'9 (ZbY rfl (ZbY rfl (ZbY rfl (ZbY rfl (ZbY rfl ?_)))))))
     refine ZbY rfl (ZbY rfl (ZbY rfl (ZbY rfl (ZbY rfl (ZbY rfl (Zv rfl b'9 (ZU rfl (ze (t:=t5) (v:=.b t6) rfl b'9 (Eq.trans (b:=V.b false) rfl (congrArg V.b (Option.some.inj hp)))) ?_)))))))
     refine Zab ?_
     exact ⟨rfl,rfl,g'6_0,g'6_1,g'6_2,g'6_7,g'6_8⟩
   rintro frg'8 _ ⟨rfl,g'8_105,g'8_0,g'8_1,g'8_2,g'8_7,g'8_8⟩
   refine Zab (Zc ?_)
   rcases Zt hp with ⟨b'11,hp⟩ | ⟨b'11,hp⟩
   ·refine zK (t:=t6) g'8_105 b'11 ?_
    refine Zo (Zf (.n k_) g'8_8 (Zf (.n k_) rfl (Zd (Zan (Zc (Zo (Zf (.n k_) g'8_8 ?_)))))))
    obtain ⟨c'13,hp⟩:=Zm hp
    refine Zj (zH (a:=k_) (b:=1) rfl rfl c'13) (Zf (.n (k_ + 1)) rfl (Zd ?_))
    cases hp
    exact (Or.inl ⟨(k_,k_ + 1),rfl,rfl,g'8_0,g'8_1,g'8_2,rfl,rfl,(hO'5.pick [] rfl (by decide))⟩)
   ·refine zG (t:=t6) g'8_105 b'11 ?_
    refine zN (Zan (Zc (Zo (Zf (.n k_) g'8_8 ?_))))
    obtain ⟨c'14,hp⟩:=Zm hp
    refine Zj (zH (a:=k_) (b:=1) rfl rfl c'14) (Zf (.n (k_ + 1)) rfl (Zd ?_))
    cases hp
    exact (Or.inl ⟨(best2,k_ + 1),rfl,rfl,g'8_0,g'8_1,g'8_2,g'8_7,rfl,(hO'5.pick [] rfl (by decide))⟩)
  ·refine zG (t:=(decide (k_ < (at_.length:Int)))) rfl b'1 ?_
   refine Zbp (zZ ?_)
   cases hp
   refine (Or.inr ⟨best,rfl,(fun h=>nomatch h),(fun he=>?_)⟩)
   subst he; exact ⟨rfl,q'2_7,(hO'2.pick [] rfl (by decide))⟩
 intro e'1 q'1 k'1 hJ'1
 obtain ⟨best1,rfl⟩:∃ x,x = o'1:=⟨_,rfl⟩
 obtain ⟨rfl,q'1_7,hO'1⟩:=hJ'1
 refine ZaJ (Zc (Zk (Zo (Zf (.n best1) q'1_7 (Zf (.n best1) rfl (Zd (Zc ?_)))))))
 refine zY (zx (zC (n:=6) (v:=.n best1) rfl ZS) ?_)
 cases hp
 exact ⟨rfl,(hO'1.pick [] rfl (by decide))⟩

theorem ZH.ok {h:Hp} {at_:List Ze} {l:List Za} {i:Int} {w:Int} {v_at_:V} {v_l:V} (s_at_:Sl Zb h v_at_ at_) (s_l:Sl Zi h v_l l) {r:Bool} (hp:ZH at_ l i w = some r) :
  ∃ u k',Is G 64 [v_at_,v_l,.n i,.n w] h u k'∧V.b r = u∧Own (fun r=>r < h.n) h k' []:=by
 refine WC.is (Za7 Zco ?_)
 unfold ZH at hp
 let B:Nat→Prop:=(fun r=>r < h.n)
 have hO:Own B h h []:=Own.start0 h
 refine Zk (Zo (Zf (.b false) rfl (Zd (Zc (Zk (Zk (Zo ?_)))))))
 refine Zf (.n 0) rfl (Zd (Zc (Zas ?_)))
 obtain ⟨o'1,ho'1,hp⟩:=Zs hp
 refine W.mono (Q:=fun e fr k=>match (generalizing:=false) o'1 with
   | .inl _=>e = (.exit 0)∧Own B h k []
   | .inr _=>e = .ret∧fr 8 = .b true∧Own B h k []) ?_ ?_
 ·clear hp
  refine zR (fun st fr k=>match st with | a=>fr 0 = v_at_∧fr 1 = v_l∧fr 2 = .n i∧fr 3 = .n w∧fr 9 = .n a∧Own B h k []) ho'1 (s:=0) ⟨rfl,rfl,rfl,rfl,rfl,(hO.pick [] rfl (by decide))⟩ ?_
  rintro a q'2 k'2 ⟨q'2_0,q'2_1,q'2_2,q'2_3,q'2_9,hO'2⟩ o'2 hp
  dsimp only [ZH.s0] at hp
  refine Zk (Zk (Zo (Zf (.n a) q'2_9 (Zf v_l q'2_1 (Zj (Za0 (hO'2.rd0 s_l.rd) rfl) (Zj (zL (a:=a) (b:=(l.length:Int)) rfl rfl) (Zd ?_)))))))
  refine Zc ?_
  rcases Zt hp with ⟨b'1,hp⟩ | ⟨b'1,hp⟩
  ·refine zK (t:=(decide (a < (l.length:Int)))) rfl b'1 ?_
   refine zN (Zc (Zk (Zas (Zk (Zo (Zf (.n 0) rfl (Zd ?_)))))))
   refine Zc (Zas ?_)
   obtain ⟨o'3,ho'2,hp⟩:=Zs hp
   refine W.mono (Q:=fun e fr k=>match (generalizing:=false) o'3 with
     | .inl _=>e = (.exit 2)∧fr 0 = v_at_∧fr 1 = v_l∧fr 2 = .n i∧fr 3 = .n w∧fr 9 = .n a∧Own B h k []
     | .inr _=>e = .ret∧fr 8 = .b true∧Own B h k []) ?_ ?_
   ·clear hp
    refine zR (fun st fr k=>match st with | d=>fr 0 = v_at_∧fr 1 = v_l∧fr 2 = .n i∧fr 3 = .n w∧fr 9 = .n a∧fr 10 = .n d∧Own B h k []) ho'2 (s:=0) ⟨q'2_0,q'2_1,q'2_2,q'2_3,q'2_9,rfl,(hO'2.pick [] rfl (by decide))⟩ ?_
    rintro d q'4 k'4 ⟨q'4_0,q'4_1,q'4_2,q'4_3,q'4_9,q'4_10,hO'4⟩ o'4 hp
    dsimp only [ZH.s1] at hp
    refine Zk (Zk (Zo (Zf (.n d) q'4_10 (Zj (zL (a:=d) (b:=2) rfl rfl) (Zd (Zc ?_))))))
    rcases Zt hp with ⟨b'2,hp⟩ | ⟨b'2,hp⟩
    ·refine zK (t:=(decide (d < 2))) rfl b'2 ?_
     refine zN (Zc (Zk (Zas (Zk (Zo (Zf v_l q'4_1 (Zf (.n a) q'4_9 ?_)))))))
     refine Zf (.n d) q'4_10 ?_
     obtain ⟨c'1,hp⟩:=Zm hp
     refine Zj (zq (E:=Zi) (z:=a) (hO'4.rd0 s_l.rd) rfl rfl c'1) (Zj (Zax (off':=0) (off2:=0) (hO'4.rd0 s_l.rd) (Zl c'1) rfl rfl) ?_)
     obtain ⟨c'2,hp⟩:=Zm hp
     refine Zj (Zb3 (off:=0) (off2:=(0 + d.toNat * 1)) (z:=d) (hO'4.rd0 s_l.rd) (Zl c'1) rfl rfl c'2 rfl) (Zj (zO (w:=.n (((gi l a.toNat).Next).get d)) (hO'4.rd0 s_l.rd) rfl (Zl c'1) (zI c'2)) (Zf (.n (((gi l a.toNat).Next).get d)) rfl (Zd (Zc (Zk (Zk (Zo ?_)))))))
     refine Zf (.n (((gi l a.toNat).Next).get d)) rfl (Zj (zL (a:=(((gi l a.toNat).Next).get d)) (b:=0) rfl rfl) (Zd (Zc ?_)))
     rcases Zt hp with ⟨b'3,hp⟩ | ⟨b'3,hp⟩
     ·refine zK (t:=(decide ((((gi l a.toNat).Next).get d) < 0))) rfl b'3 ?_
      refine Zbp (zZ (ZaJ (Zc (Zo (Zf (.n d) q'4_10 ?_)))))
      obtain ⟨c'3,hp⟩:=Zm hp
      refine Zj (zH (a:=d) (b:=1) rfl rfl c'3) (Zf (.n (d + 1)) rfl (Zd ?_))
      cases hp
      exact (Or.inl ⟨d + 1,rfl,rfl,q'4_0,q'4_1,q'4_2,q'4_3,q'4_9,rfl,(hO'4.pick [] rfl (by decide))⟩)
     ·refine zG (t:=(decide ((((gi l a.toNat).Next).get d) < 0))) rfl b'3 ?_
      refine zN (Zc (Zk (Zo (Zf v_at_ q'4_0 (Zf (.n a) q'4_9 ?_)))))
      obtain ⟨c'4,hp⟩:=Zm hp
      refine Zj (zq (E:=Zb) (z:=a) (hO'4.rd0 s_at_.rd) rfl rfl c'4) (Zj (Zdp (E:=Zb) (hO'4.rd0 s_at_.rd) rfl (Zl c'4)) (zF (hO'4.alloc (cs:=Zb.c (⟨0,0⟩:Ze)) hO'4.fr) ?_))
      rintro _ k'5 ⟨r'1,rfl,n'1,f'1,hW⟩
      have hO'5:=hW
      refine zF (hO'5.stb (ws:=Zb.c (gi at_ a.toNat)) (cs':=Zb.c (gi at_ a.toNat)) (v:=.ag (Zb.c (gi at_ a.toNat))) 0 rfl rfl rfl rfl ⟨rfl,Nat.le_of_ble_eq_true rfl,rfl⟩ rfl) ?_
      rintro _ k'6 ⟨rfl,f'2,m'1,hW⟩
      have hO'6:=hW
      refine Zd (Zc (Zk (Zo (Zf v_at_ q'4_0 (Zf (.n (((gi l a.toNat).Next).get d)) rfl ?_)))))
      obtain ⟨c'5,hp⟩:=Zm hp
      refine Zj (zq (E:=Zb) (z:=(((gi l a.toNat).Next).get d)) (hO'6.rd0 s_at_.rd) rfl rfl c'5) (Zj (Zdp (E:=Zb) (hO'6.rd0 s_at_.rd) rfl (Zl c'5)) (zF (hO'6.alloc (cs:=Zb.c (⟨0,0⟩:Ze)) hO'6.fr) ?_))
      rintro _ k'7 ⟨r'2,rfl,n'2,f'3,hW⟩
      have hO'7:=hW
      refine zF (hO'7.stb (ws:=Zb.c (gi at_ (((gi l a.toNat).Next).get d:Int).toNat)) (cs':=Zb.c (gi at_ (((gi l a.toNat).Next).get d:Int).toNat)) (v:=.ag (Zb.c (gi at_ (((gi l a.toNat).Next).get d:Int).toNat))) 1 rfl rfl rfl rfl ⟨rfl,Nat.le_of_ble_eq_true rfl,rfl⟩ rfl) ?_
      rintro _ k'8 ⟨rfl,f'4,m'2,hW⟩
      have hO'8:=hW
      refine Zd (Zc (Zk (Zk (Zh5 ?_))))
      have hW:=hO'8.bump 58
      have hO'9:=hW
      refine ZU rfl (Zaz (r:=r'1) (o:=0) (o':=1) rfl rfl) (ZU rfl (zV (cs:=(Zb.c (gi at_ a.toNat))) (v:=.n ((gi at_ a.toNat).Y)) (hO'9.box 0 rfl) rfl rfl) (ZU rfl (Zaz (r:=r'2) (o:=0) (o':=1) rfl rfl) (ZU rfl (zV (cs:=(Zb.c (gi at_ (((gi l a.toNat).Next).get d:Int).toNat))) (v:=.n ((gi at_ (((gi l a.toNat).Next).get d:Int).toNat).Y)) (hO'9.box 1 rfl) rfl rfl) (ZU rfl (Zb2 (a:=((gi at_ a.toNat).Y)) (b:=((gi at_ (((gi l a.toNat).Next).get d:Int).toNat).Y)) rfl rfl) (Zap (.b (decide ((gi at_ a.toNat).Y = (gi at_ (((gi l a.toNat).Next).get d:Int).toNat).Y))) rfl ?_)))))
      obtain ⟨t,hv'1,hp⟩:=Zs hp
      refine ZbC 12 (fun fr' k'=>(k'8.bump 58) = k'∧fr' 58 = .b t∧fr' 0 = v_at_∧fr' 1 = v_l∧fr' 10 = .n d∧fr' 12 = .p r'1 0∧fr' 13 = .p r'2 0∧fr' 2 = .n i∧fr' 3 = .n w∧fr' 9 = .n a) ?_ ?_
      ·clear hp; rcases Zt hv'1 with ⟨b'4,hp⟩ | ⟨b'4,hp⟩
       ·skip
        refine ZB rfl b'4 (Zap v_at_ q'4_0 (ZB rfl b'4 (Zap (.n i) q'4_2 (ZB rfl b'4 ?_))))
        obtain ⟨c'6,hp⟩:=Zm hp
        refine ZU rfl (zq (E:=Zb) (z:=i) (hO'9.rd0 s_at_.rd) rfl rfl c'6) (ZB rfl b'4 (ZU rfl (Zax (off':=0) (off2:=0) (hO'9.rd0 s_at_.rd) (Zl c'6) rfl rfl) (ZB rfl b'4 (ZU rfl (zO (w:=.n ((gi at_ i.toNat).X)) (hO'9.rd0 s_at_.rd) rfl (Zl c'6) rfl) (ZB rfl b'4 (Zap v_at_ q'4_0 (ZB rfl b'4 ?_)))))))
        refine Zap (.n w) q'4_3 (ZB rfl b'4 ?_)
        obtain ⟨c'7,hp⟩:=Zm hp
        refine ZU rfl (zq (E:=Zb) (z:=w) (hO'9.rd0 s_at_.rd) rfl rfl c'7) (ZB rfl b'4 (ZU rfl (Zax (off':=0) (off2:=0) (hO'9.rd0 s_at_.rd) (Zl c'7) rfl rfl) (ZB rfl b'4 (ZU rfl (zO (w:=.n ((gi at_ w.toNat).X)) (hO'9.rd0 s_at_.rd) rfl (Zl c'7) rfl) (ZB rfl b'4 (ZU rfl (Zb2 (a:=((gi at_ i.toNat).X)) (b:=((gi at_ w.toNat).X)) rfl rfl) (ZU rfl (zn (t:=(decide ((gi at_ a.toNat).Y = (gi at_ (((gi l a.toNat).Next).get d:Int).toNat).Y))) (v:=.b t) rfl b'4 (Eq.trans (b:=V.b (decide ((gi at_ i.toNat).X = (gi at_ w.toNat).X))) rfl (congrArg V.b (Option.some.inj hp)))) ?_)))))))
        refine Zab ?_
        exact ⟨rfl,rfl,q'4_0,q'4_1,q'4_10,rfl,rfl,q'4_2,q'4_3,q'4_9⟩
       ·skip
        refine Zv rfl b'4 (Zv rfl b'4 (Zv rfl b'4 (Zv rfl b'4 (Zv rfl b'4 (Zv rfl b'4 (Zv rfl b'4 (Zv rfl b'4 ?_)))))))
        refine Zv rfl b'4 (Zv rfl b'4 (Zv rfl b'4 (ZU rfl (ze (t:=(decide ((gi at_ a.toNat).Y = (gi at_ (((gi l a.toNat).Next).get d:Int).toNat).Y))) (v:=.b t) rfl b'4 (Eq.trans (b:=V.b false) rfl (congrArg V.b (Option.some.inj hp)))) (Zab ?_))))
        exact ⟨rfl,rfl,q'4_0,q'4_1,q'4_10,rfl,rfl,q'4_2,q'4_3,q'4_9⟩
      rintro frg'1 _ ⟨rfl,g'1_58,g'1_0,g'1_1,g'1_10,g'1_12,g'1_13,g'1_2,g'1_3,g'1_9⟩
      refine Zap (.b t) g'1_58 ?_
      obtain ⟨t1,hv'2,hp⟩:=Zs hp
      refine ZbC 9 (fun fr' k'=>(k'8.bump 58) = k'∧fr' 68 = .b t1∧fr' 0 = v_at_∧fr' 1 = v_l∧fr' 10 = .n d∧fr' 12 = .p r'1 0∧fr' 13 = .p r'2 0∧fr' 2 = .n i∧fr' 3 = .n w∧fr' 9 = .n a) ?_ ?_
      ·clear hp; rcases Zt hv'2 with ⟨b'5,hp⟩ | ⟨b'5,hp⟩
       ·skip
        refine ZB rfl b'5 (ZU rfl (Zaz (r:=r'1) (o:=0) (o':=0) g'1_12 rfl) (ZB rfl b'5 (ZU rfl (zV (cs:=(Zb.c (gi at_ a.toNat))) (v:=.n ((gi at_ a.toNat).X)) (hO'9.box 0 rfl) rfl rfl) (ZB rfl b'5 (Zap v_at_ g'1_0 (ZB rfl b'5 (Zap (.n i) g'1_2 ?_)))))))
        refine ZB rfl b'5 ?_
        obtain ⟨c'8,hp⟩:=Zm hp
        refine ZU rfl (zq (E:=Zb) (z:=i) (hO'9.rd0 s_at_.rd) rfl rfl c'8) (ZB rfl b'5 (ZU rfl (Zax (off':=0) (off2:=0) (hO'9.rd0 s_at_.rd) (Zl c'8) rfl rfl) (ZB rfl b'5 (ZU rfl (zO (w:=.n ((gi at_ i.toNat).X)) (hO'9.rd0 s_at_.rd) rfl (Zl c'8) rfl) (ZB rfl b'5 (ZU rfl (zL (a:=((gi at_ a.toNat).X)) (b:=((gi at_ i.toNat).X)) rfl rfl) (ZU rfl (zn (t:=t) (v:=.b t1) rfl b'5 (Eq.trans (b:=V.b (decide (((gi at_ a.toNat).X) < ((gi at_ i.toNat).X)))) rfl (congrArg V.b (Option.some.inj hp)))) ?_)))))))
        refine Zab ?_
        exact ⟨rfl,rfl,g'1_0,g'1_1,g'1_10,g'1_12,g'1_13,g'1_2,g'1_3,g'1_9⟩
       ·skip
        refine Zv rfl b'5 (Zv rfl b'5 (Zv rfl b'5 (Zv rfl b'5 (Zv rfl b'5 (Zv rfl b'5 (Zv rfl b'5 (Zv rfl b'5 ?_)))))))
        refine ZU rfl (ze (t:=t) (v:=.b t1) rfl b'5 (Eq.trans (b:=V.b false) rfl (congrArg V.b (Option.some.inj hp)))) (Zab ?_)
        exact ⟨rfl,rfl,g'1_0,g'1_1,g'1_10,g'1_12,g'1_13,g'1_2,g'1_3,g'1_9⟩
      rintro frg'2 _ ⟨rfl,g'2_68,g'2_0,g'2_1,g'2_10,g'2_12,g'2_13,g'2_2,g'2_3,g'2_9⟩
      refine Zap (.b t1) g'2_68 ?_
      obtain ⟨t2,hv'3,hp⟩:=Zs hp
      refine ZbC 9 (fun fr' k'=>(k'8.bump 58) = k'∧fr' 78 = .b t2∧fr' 0 = v_at_∧fr' 1 = v_l∧fr' 10 = .n d∧fr' 12 = .p r'1 0∧fr' 13 = .p r'2 0∧fr' 2 = .n i∧fr' 3 = .n w∧fr' 9 = .n a) ?_ ?_
      ·clear hp; rcases Zt hv'3 with ⟨b'6,hp⟩ | ⟨b'6,hp⟩
       ·skip
        refine ZB rfl b'6 (Zap v_at_ g'2_0 (ZB rfl b'6 (Zap (.n i) g'2_2 (ZB rfl b'6 ?_))))
        obtain ⟨c'9,hp⟩:=Zm hp
        refine ZU rfl (zq (E:=Zb) (z:=i) (hO'9.rd0 s_at_.rd) rfl rfl c'9) (ZB rfl b'6 (ZU rfl (Zax (off':=0) (off2:=0) (hO'9.rd0 s_at_.rd) (Zl c'9) rfl rfl) (ZB rfl b'6 (ZU rfl (zO (w:=.n ((gi at_ i.toNat).X)) (hO'9.rd0 s_at_.rd) rfl (Zl c'9) rfl) (ZB rfl b'6 (ZU rfl (Zaz (r:=r'2) (o:=0) (o':=0) g'2_13 rfl) (ZB rfl b'6 ?_)))))))
        refine ZU rfl (zV (cs:=(Zb.c (gi at_ (((gi l a.toNat).Next).get d:Int).toNat))) (v:=.n ((gi at_ (((gi l a.toNat).Next).get d:Int).toNat).X)) (hO'9.box 1 rfl) rfl rfl) (ZB rfl b'6 (ZU rfl (zL (a:=((gi at_ i.toNat).X)) (b:=((gi at_ (((gi l a.toNat).Next).get d:Int).toNat).X)) rfl rfl) (ZU rfl (zn (t:=t1) (v:=.b t2) rfl b'6 (Eq.trans (b:=V.b (decide (((gi at_ i.toNat).X) < ((gi at_ (((gi l a.toNat).Next).get d:Int).toNat).X)))) rfl (congrArg V.b (Option.some.inj hp)))) (Zab ?_))))
        exact ⟨rfl,rfl,g'2_0,g'2_1,g'2_10,g'2_12,g'2_13,g'2_2,g'2_3,g'2_9⟩
       ·skip
        refine Zv rfl b'6 (Zv rfl b'6 (Zv rfl b'6 (Zv rfl b'6 (Zv rfl b'6 (Zv rfl b'6 (Zv rfl b'6 (Zv rfl b'6 ?_)))))))
        refine ZU rfl (ze (t:=t1) (v:=.b t2) rfl b'6 (Eq.trans (b:=V.b false) rfl (congrArg V.b (Option.some.inj hp)))) (Zab ?_)
        exact ⟨rfl,rfl,g'2_0,g'2_1,g'2_10,g'2_12,g'2_13,g'2_2,g'2_3,g'2_9⟩
      rintro frg'3 _ ⟨rfl,g'3_78,g'3_0,g'3_1,g'3_10,g'3_12,g'3_13,g'3_2,g'3_3,g'3_9⟩
      refine Zap (.b t2) g'3_78 ?_
      obtain ⟨t3,hv'4,hp⟩:=Zs hp
      refine ZbC 9 (fun fr' k'=>(k'8.bump 58) = k'∧fr' 88 = .b t3∧fr' 0 = v_at_∧fr' 1 = v_l∧fr' 10 = .n d∧fr' 12 = .p r'1 0∧fr' 13 = .p r'2 0∧fr' 2 = .n i∧fr' 3 = .n w∧fr' 9 = .n a) ?_ ?_
      ·clear hp; rcases Zt hv'4 with ⟨b'7,hp⟩ | ⟨b'7,hp⟩
       ·skip
        refine ZB rfl b'7 (Zap v_at_ g'3_0 (ZB rfl b'7 (Zap (.n i) g'3_2 (ZB rfl b'7 ?_))))
        obtain ⟨c'10,hp⟩:=Zm hp
        refine ZU rfl (zq (E:=Zb) (z:=i) (hO'9.rd0 s_at_.rd) rfl rfl c'10) (ZB rfl b'7 (ZU rfl (Zax (off':=0) (off2:=1) (hO'9.rd0 s_at_.rd) (Zl c'10) rfl rfl) (ZB rfl b'7 (ZU rfl (zO (w:=.n ((gi at_ i.toNat).Y)) (hO'9.rd0 s_at_.rd) rfl (Zl c'10) rfl) (ZB rfl b'7 (ZU rfl (Zaz (r:=r'1) (o:=0) (o':=1) g'3_12 rfl) (ZB rfl b'7 ?_)))))))
        refine ZU rfl (zV (cs:=(Zb.c (gi at_ a.toNat))) (v:=.n ((gi at_ a.toNat).Y)) (hO'9.box 0 rfl) rfl rfl) (ZB rfl b'7 (ZU rfl (zL (a:=((gi at_ i.toNat).Y)) (b:=((gi at_ a.toNat).Y)) rfl rfl) (ZU rfl (zn (t:=t2) (v:=.b t3) rfl b'7 (Eq.trans (b:=V.b (decide (((gi at_ i.toNat).Y) < ((gi at_ a.toNat).Y)))) rfl (congrArg V.b (Option.some.inj hp)))) (Zab ?_))))
        exact ⟨rfl,rfl,g'3_0,g'3_1,g'3_10,g'3_12,g'3_13,g'3_2,g'3_3,g'3_9⟩
       ·skip
        refine Zv rfl b'7 (Zv rfl b'7 (Zv rfl b'7 (Zv rfl b'7 (Zv rfl b'7 (Zv rfl b'7 (Zv rfl b'7 (Zv rfl b'7 ?_)))))))
        refine ZU rfl (ze (t:=t2) (v:=.b t3) rfl b'7 (Eq.trans (b:=V.b false) rfl (congrArg V.b (Option.some.inj hp)))) (Zab ?_)
        exact ⟨rfl,rfl,g'3_0,g'3_1,g'3_10,g'3_12,g'3_13,g'3_2,g'3_3,g'3_9⟩
      rintro frg'4 _ ⟨rfl,g'4_88,g'4_0,g'4_1,g'4_10,g'4_12,g'4_13,g'4_2,g'4_3,g'4_9⟩
      refine Zap (.b t3) g'4_88 ?_
      obtain ⟨t4,hv'5,hp⟩:=Zs hp
      refine ZbC 9 (fun fr' k'=>(k'8.bump 58) = k'∧fr' 98 = .b t4∧fr' 0 = v_at_∧fr' 1 = v_l∧fr' 10 = .n d∧fr' 12 = .p r'1 0∧fr' 13 = .p r'2 0∧fr' 2 = .n i∧fr' 3 = .n w∧fr' 9 = .n a) ?_ ?_
      ·clear hp; rcases Zt hv'5 with ⟨b'8,hp⟩ | ⟨b'8,hp⟩
       ·skip
        refine ZB rfl b'8 (ZU rfl (Zaz (r:=r'1) (o:=0) (o':=1) g'4_12 rfl) (ZB rfl b'8 (ZU rfl (zV (cs:=(Zb.c (gi at_ a.toNat))) (v:=.n ((gi at_ a.toNat).Y)) (hO'9.box 0 rfl) rfl rfl) (ZB rfl b'8 (Zap v_at_ g'4_0 (ZB rfl b'8 (Zap (.n w) g'4_3 ?_)))))))
        refine ZB rfl b'8 ?_
        obtain ⟨c'11,hp⟩:=Zm hp
        refine ZU rfl (zq (E:=Zb) (z:=w) (hO'9.rd0 s_at_.rd) rfl rfl c'11) (ZB rfl b'8 (ZU rfl (Zax (off':=0) (off2:=1) (hO'9.rd0 s_at_.rd) (Zl c'11) rfl rfl) (ZB rfl b'8 (ZU rfl (zO (w:=.n ((gi at_ w.toNat).Y)) (hO'9.rd0 s_at_.rd) rfl (Zl c'11) rfl) (ZB rfl b'8 (ZU rfl (zL (a:=((gi at_ a.toNat).Y)) (b:=((gi at_ w.toNat).Y)) rfl rfl) (ZU rfl (zn (t:=t3) (v:=.b t4) rfl b'8 (Eq.trans (b:=V.b (decide (((gi at_ a.toNat).Y) < ((gi at_ w.toNat).Y)))) rfl (congrArg V.b (Option.some.inj hp)))) ?_)))))))
        refine Zab ?_
        exact ⟨rfl,rfl,g'4_0,g'4_1,g'4_10,g'4_12,g'4_13,g'4_2,g'4_3,g'4_9⟩
       ·skip
        refine Zv rfl b'8 (Zv rfl b'8 (Zv rfl b'8 (Zv rfl b'8 (Zv rfl b'8 (Zv rfl b'8 (Zv rfl b'8 (Zv rfl b'8 ?_)))))))
        refine ZU rfl (ze (t:=t3) (v:=.b t4) rfl b'8 (Eq.trans (b:=V.b false) rfl (congrArg V.b (Option.some.inj hp)))) (Zab ?_)
        exact ⟨rfl,rfl,g'4_0,g'4_1,g'4_10,g'4_12,g'4_13,g'4_2,g'4_3,g'4_9⟩
      rintro frg'5 _ ⟨rfl,g'5_98,g'5_0,g'5_1,g'5_10,g'5_12,g'5_13,g'5_2,g'5_3,g'5_9⟩
      refine Zab (Zc ?_)
      rcases Zt hp with ⟨b'9,hp⟩ | ⟨b'9,hp⟩
      ·refine zK (t:=t4) g'5_98 b'9 ?_
       refine Zk (Zo (Zf (.b true) rfl (Zd (Zc (zY (z5 (Zbd ?_)))))))
       refine z5 ?_
       cases hp
       refine (Or.inr ⟨.inr (),rfl,(fun h=>nomatch h),(fun he=>?_)⟩)
       subst he; exact ⟨rfl,rfl,(hO'9.pick [] rfl (by decide))⟩
      ·refine zG (t:=t4) g'5_98 b'9 ?_
       refine zN (Zc (Zk (Zh5 ?_)))
       have hW:=hO'9.bump 58
       have hO'10:=hW
       refine ZU rfl (Zaz (r:=r'1) (o:=0) (o':=0) g'5_12 rfl) (ZU rfl (zV (cs:=(Zb.c (gi at_ a.toNat))) (v:=.n ((gi at_ a.toNat).X)) (hO'10.box 0 rfl) rfl rfl) (ZU rfl (Zaz (r:=r'2) (o:=0) (o':=0) g'5_13 rfl) (ZU rfl (zV (cs:=(Zb.c (gi at_ (((gi l a.toNat).Next).get d:Int).toNat))) (v:=.n ((gi at_ (((gi l a.toNat).Next).get d:Int).toNat).X)) (hO'10.box 1 rfl) rfl rfl) (ZU rfl (Zb2 (a:=((gi at_ a.toNat).X)) (b:=((gi at_ (((gi l a.toNat).Next).get d:Int).toNat).X)) rfl rfl) (Zap (.b (decide ((gi at_ a.toNat).X = (gi at_ (((gi l a.toNat).Next).get d:Int).toNat).X))) rfl ?_)))))
       obtain ⟨t5,hv'6,hp⟩:=Zs hp
       refine ZbC 12 (fun fr' k'=>((k'8.bump 58).bump 58) = k'∧fr' 116 = .b t5∧fr' 0 = v_at_∧fr' 1 = v_l∧fr' 10 = .n d∧fr' 12 = .p r'1 0∧fr' 13 = .p r'2 0∧fr' 2 = .n i∧fr' 3 = .n w∧fr' 9 = .n a) ?_ ?_
       ·clear hp; rcases Zt hv'6 with ⟨b'10,hp⟩ | ⟨b'10,hp⟩
        ·skip
         refine ZB rfl b'10 (Zap v_at_ g'5_0 (ZB rfl b'10 (Zap (.n i) g'5_2 (ZB rfl b'10 ?_))))
         obtain ⟨c'12,hp⟩:=Zm hp
         refine ZU rfl (zq (E:=Zb) (z:=i) (hO'10.rd0 s_at_.rd:Sl Zb ((k'8.bump 58).bump 58) v_at_ at_) rfl rfl c'12) (ZB rfl b'10 (ZU rfl (Zax (off':=0) (off2:=1) (hO'10.rd0 s_at_.rd:Sl Zb ((k'8.bump 58).bump 58) v_at_ at_) (Zl c'12) rfl rfl) (ZB rfl b'10 (ZU rfl (zO (w:=.n ((gi at_ i.toNat).Y)) (hO'10.rd0 s_at_.rd:Sl Zb ((k'8.bump 58).bump 58) v_at_ at_) rfl (Zl c'12) rfl) (ZB rfl b'10 (Zap v_at_ g'5_0 (ZB rfl b'10 ?_)))))))
         refine Zap (.n w) g'5_3 (ZB rfl b'10 ?_)
         obtain ⟨c'13,hp⟩:=Zm hp
         refine ZU rfl (zq (E:=Zb) (z:=w) (hO'10.rd0 s_at_.rd:Sl Zb ((k'8.bump 58).bump 58) v_at_ at_) rfl rfl c'13) (ZB rfl b'10 (ZU rfl (Zax (off':=0) (off2:=1) (hO'10.rd0 s_at_.rd:Sl Zb ((k'8.bump 58).bump 58) v_at_ at_) (Zl c'13) rfl rfl) (ZB rfl b'10 (ZU rfl (zO (w:=.n ((gi at_ w.toNat).Y)) (hO'10.rd0 s_at_.rd:Sl Zb ((k'8.bump 58).bump 58) v_at_ at_) rfl (Zl c'13) rfl) (ZB rfl b'10 (ZU rfl (Zb2 (a:=((gi at_ i.toNat).Y)) (b:=((gi at_ w.toNat).Y)) rfl rfl) (ZU rfl (zn (t:=(decide ((gi at_ a.toNat).X = (gi at_ (((gi l a.toNat).Next).get d:Int).toNat).X))) (v:=.b t5) rfl b'10 (Eq.trans (b:=V.b (decide ((gi at_ i.toNat).Y = (gi at_ w.toNat).Y))) rfl (congrArg V.b (Option.some.inj hp)))) ?_)))))))
         refine Zab ?_
         exact ⟨rfl,rfl,g'5_0,g'5_1,g'5_10,g'5_12,g'5_13,g'5_2,g'5_3,g'5_9⟩
        ·skip
         refine Zv rfl b'10 (Zv rfl b'10 (Zv rfl b'10 (Zv rfl b'10 (Zv rfl b'10 (Zv rfl b'10 (Zv rfl b'10 (Zv rfl b'10 ?_)))))))
         refine Zv rfl b'10 (Zv rfl b'10 (Zv rfl b'10 (ZU rfl (ze (t:=(decide ((gi at_ a.toNat).X = (gi at_ (((gi l a.toNat).Next).get d:Int).toNat).X))) (v:=.b t5) rfl b'10 (Eq.trans (b:=V.b false) rfl (congrArg V.b (Option.some.inj hp)))) (Zab ?_))))
         exact ⟨rfl,rfl,g'5_0,g'5_1,g'5_10,g'5_12,g'5_13,g'5_2,g'5_3,g'5_9⟩
       rintro frg'6 _ ⟨rfl,g'6_116,g'6_0,g'6_1,g'6_10,g'6_12,g'6_13,g'6_2,g'6_3,g'6_9⟩
       refine Zap (.b t5) g'6_116 ?_
       obtain ⟨t6,hv'7,hp⟩:=Zs hp
       refine ZbC 9 (fun fr' k'=>((k'8.bump 58).bump 58) = k'∧fr' 126 = .b t6∧fr' 0 = v_at_∧fr' 1 = v_l∧fr' 10 = .n d∧fr' 12 = .p r'1 0∧fr' 13 = .p r'2 0∧fr' 2 = .n i∧fr' 3 = .n w∧fr' 9 = .n a) ?_ ?_
       ·clear hp; rcases Zt hv'7 with ⟨b'11,hp⟩ | ⟨b'11,hp⟩
        ·skip
         refine ZB rfl b'11 (Zap v_at_ g'6_0 (ZB rfl b'11 (Zap (.n i) g'6_2 (ZB rfl b'11 ?_))))
         obtain ⟨c'14,hp⟩:=Zm hp
         refine ZU rfl (zq (E:=Zb) (z:=i) (hO'10.rd0 s_at_.rd:Sl Zb ((k'8.bump 58).bump 58) v_at_ at_) rfl rfl c'14) (ZB rfl b'11 (ZU rfl (Zax (off':=0) (off2:=0) (hO'10.rd0 s_at_.rd:Sl Zb ((k'8.bump 58).bump 58) v_at_ at_) (Zl c'14) rfl rfl) (ZB rfl b'11 (ZU rfl (zO (w:=.n ((gi at_ i.toNat).X)) (hO'10.rd0 s_at_.rd:Sl Zb ((k'8.bump 58).bump 58) v_at_ at_) rfl (Zl c'14) rfl) (ZB rfl b'11 (ZU rfl (Zaz (r:=r'1) (o:=0) (o':=0) g'6_12 rfl) (ZB rfl b'11 ?_)))))))
         refine ZU rfl (zV (cs:=(Zb.c (gi at_ a.toNat))) (v:=.n ((gi at_ a.toNat).X)) (hO'10.box 0 rfl) rfl rfl) (ZB rfl b'11 (ZU rfl (zL (a:=((gi at_ i.toNat).X)) (b:=((gi at_ a.toNat).X)) rfl rfl) (ZU rfl (zn (t:=t5) (v:=.b t6) rfl b'11 (Eq.trans (b:=V.b (decide (((gi at_ i.toNat).X) < ((gi at_ a.toNat).X)))) rfl (congrArg V.b (Option.some.inj hp)))) (Zab ?_))))
         exact ⟨rfl,rfl,g'6_0,g'6_1,g'6_10,g'6_12,g'6_13,g'6_2,g'6_3,g'6_9⟩
        ·skip
         refine Zv rfl b'11 (Zv rfl b'11 (Zv rfl b'11 (Zv rfl b'11 (Zv rfl b'11 (Zv rfl b'11 (Zv rfl b'11 (Zv rfl b'11 ?_)))))))
         refine ZU rfl (ze (t:=t5) (v:=.b t6) rfl b'11 (Eq.trans (b:=V.b false) rfl (congrArg V.b (Option.some.inj hp)))) (Zab ?_)
         exact ⟨rfl,rfl,g'6_0,g'6_1,g'6_10,g'6_12,g'6_13,g'6_2,g'6_3,g'6_9⟩
       rintro frg'7 _ ⟨rfl,g'7_126,g'7_0,g'7_1,g'7_10,g'7_12,g'7_13,g'7_2,g'7_3,g'7_9⟩
       refine Zap (.b t6) g'7_126 ?_
       obtain ⟨t7,hv'8,hp⟩:=Zs hp
       refine ZbC 9 (fun fr' k'=>((k'8.bump 58).bump 58) = k'∧fr' 136 = .b t7∧fr' 0 = v_at_∧fr' 1 = v_l∧fr' 10 = .n d∧fr' 12 = .p r'1 0∧fr' 13 = .p r'2 0∧fr' 2 = .n i∧fr' 3 = .n w∧fr' 9 = .n a) ?_ ?_
       ·clear hp; rcases Zt hv'8 with ⟨b'12,hp⟩ | ⟨b'12,hp⟩
        ·skip
         refine ZB rfl b'12 (ZU rfl (Zaz (r:=r'1) (o:=0) (o':=0) g'7_12 rfl) (ZB rfl b'12 (ZU rfl (zV (cs:=(Zb.c (gi at_ a.toNat))) (v:=.n ((gi at_ a.toNat).X)) (hO'10.box 0 rfl) rfl rfl) (ZB rfl b'12 (Zap v_at_ g'7_0 (ZB rfl b'12 (Zap (.n w) g'7_3 ?_)))))))
         refine ZB rfl b'12 ?_
         obtain ⟨c'15,hp⟩:=Zm hp
         refine ZU rfl (zq (E:=Zb) (z:=w) (hO'10.rd0 s_at_.rd:Sl Zb ((k'8.bump 58).bump 58) v_at_ at_) rfl rfl c'15) (ZB rfl b'12 (ZU rfl (Zax (off':=0) (off2:=0) (hO'10.rd0 s_at_.rd:Sl Zb ((k'8.bump 58).bump 58) v_at_ at_) (Zl c'15) rfl rfl) (ZB rfl b'12 (ZU rfl (zO (w:=.n ((gi at_ w.toNat).X)) (hO'10.rd0 s_at_.rd:Sl Zb ((k'8.bump 58).bump 58) v_at_ at_) rfl (Zl c'15) rfl) (ZB rfl b'12 (ZU rfl (zL (a:=((gi at_ a.toNat).X)) (b:=((gi at_ w.toNat).X)) rfl rfl) (ZU rfl (zn (t:=t6) (v:=.b t7) rfl b'12 (Eq.trans (b:=V.b (decide (((gi at_ a.toNat).X) < ((gi at_ w.toNat).X)))) rfl (congrArg V.b (Option.some.inj hp)))) ?_)))))))
         refine Zab ?_
         exact ⟨rfl,rfl,g'7_0,g'7_1,g'7_10,g'7_12,g'7_13,g'7_2,g'7_3,g'7_9⟩
        ·skip
         refine Zv rfl b'12 (Zv rfl b'12 (Zv rfl b'12 (Zv rfl b'12 (Zv rfl b'12 (Zv rfl b'12 (Zv rfl b'12 (Zv rfl b'12 ?_)))))))
         refine ZU rfl (ze (t:=t6) (v:=.b t7) rfl b'12 (Eq.trans (b:=V.b false) rfl (congrArg V.b (Option.some.inj hp)))) (Zab ?_)
         exact ⟨rfl,rfl,g'7_0,g'7_1,g'7_10,g'7_12,g'7_13,g'7_2,g'7_3,g'7_9⟩
       rintro frg'8 _ ⟨rfl,g'8_136,g'8_0,g'8_1,g'8_10,g'8_12,g'8_13,g'8_2,g'8_3,g'8_9⟩
       refine Zap (.b t7) g'8_136 ?_
       obtain ⟨t8,hv'9,hp⟩:=Zs hp
       refine ZbC 9 (fun fr' k'=>((k'8.bump 58).bump 58) = k'∧fr' 146 = .b t8∧fr' 0 = v_at_∧fr' 1 = v_l∧fr' 10 = .n d∧fr' 13 = .p r'2 0∧fr' 2 = .n i∧fr' 3 = .n w∧fr' 9 = .n a) ?_ ?_
       ·clear hp; rcases Zt hv'9 with ⟨b'13,hp⟩ | ⟨b'13,hp⟩
        ·skip
         refine ZB rfl b'13 (ZU rfl (Zaz (r:=r'1) (o:=0) (o':=1) g'8_12 rfl) (ZB rfl b'13 (ZU rfl (zV (cs:=(Zb.c (gi at_ a.toNat))) (v:=.n ((gi at_ a.toNat).Y)) (hO'10.box 0 rfl) rfl rfl) (ZB rfl b'13 (Zap v_at_ g'8_0 (ZB rfl b'13 (Zap (.n i) g'8_2 ?_)))))))
         refine ZB rfl b'13 ?_
         obtain ⟨c'16,hp⟩:=Zm hp
         refine ZU rfl (zq (E:=Zb) (z:=i) (hO'10.rd0 s_at_.rd:Sl Zb ((k'8.bump 58).bump 58) v_at_ at_) rfl rfl c'16) (ZB rfl b'13 (ZU rfl (Zax (off':=0) (off2:=1) (hO'10.rd0 s_at_.rd:Sl Zb ((k'8.bump 58).bump 58) v_at_ at_) (Zl c'16) rfl rfl) (ZB rfl b'13 (ZU rfl (zO (w:=.n ((gi at_ i.toNat).Y)) (hO'10.rd0 s_at_.rd:Sl Zb ((k'8.bump 58).bump 58) v_at_ at_) rfl (Zl c'16) rfl) (ZB rfl b'13 (ZU rfl (zL (a:=((gi at_ a.toNat).Y)) (b:=((gi at_ i.toNat).Y)) rfl rfl) (ZU rfl (zn (t:=t7) (v:=.b t8) rfl b'13 (Eq.trans (b:=V.b (decide (((gi at_ a.toNat).Y) < ((gi at_ i.toNat).Y)))) rfl (congrArg V.b (Option.some.inj hp)))) ?_)))))))
         refine Zab ?_
         exact ⟨rfl,rfl,g'8_0,g'8_1,g'8_10,g'8_13,g'8_2,g'8_3,g'8_9⟩
        ·skip
         refine Zv rfl b'13 (Zv rfl b'13 (Zv rfl b'13 (Zv rfl b'13 (Zv rfl b'13 (Zv rfl b'13 (Zv rfl b'13 (Zv rfl b'13 ?_)))))))
         refine ZU rfl (ze (t:=t7) (v:=.b t8) rfl b'13 (Eq.trans (b:=V.b false) rfl (congrArg V.b (Option.some.inj hp)))) (Zab ?_)
         exact ⟨rfl,rfl,g'8_0,g'8_1,g'8_10,g'8_13,g'8_2,g'8_3,g'8_9⟩
       rintro frg'9 _ ⟨rfl,g'9_146,g'9_0,g'9_1,g'9_10,g'9_13,g'9_2,g'9_3,g'9_9⟩
       refine Zap (.b t8) g'9_146 ?_
       obtain ⟨t9,hv'10,hp⟩:=Zs hp
       refine ZbC 9 (fun fr' k'=>((k'8.bump 58).bump 58) = k'∧fr' 156 = .b t9∧fr' 0 = v_at_∧fr' 1 = v_l∧fr' 10 = .n d∧fr' 2 = .n i∧fr' 3 = .n w∧fr' 9 = .n a) ?_ ?_
       ·clear hp; rcases Zt hv'10 with ⟨b'14,hp⟩ | ⟨b'14,hp⟩
        ·skip
         refine ZB rfl b'14 (Zap v_at_ g'9_0 (ZB rfl b'14 (Zap (.n i) g'9_2 (ZB rfl b'14 ?_))))
         obtain ⟨c'17,hp⟩:=Zm hp
         refine ZU rfl (zq (E:=Zb) (z:=i) (hO'10.rd0 s_at_.rd:Sl Zb ((k'8.bump 58).bump 58) v_at_ at_) rfl rfl c'17) (ZB rfl b'14 (ZU rfl (Zax (off':=0) (off2:=1) (hO'10.rd0 s_at_.rd:Sl Zb ((k'8.bump 58).bump 58) v_at_ at_) (Zl c'17) rfl rfl) (ZB rfl b'14 (ZU rfl (zO (w:=.n ((gi at_ i.toNat).Y)) (hO'10.rd0 s_at_.rd:Sl Zb ((k'8.bump 58).bump 58) v_at_ at_) rfl (Zl c'17) rfl) (ZB rfl b'14 (ZU rfl (Zaz (r:=r'2) (o:=0) (o':=1) g'9_13 rfl) (ZB rfl b'14 ?_)))))))
         refine ZU rfl (zV (cs:=(Zb.c (gi at_ (((gi l a.toNat).Next).get d:Int).toNat))) (v:=.n ((gi at_ (((gi l a.toNat).Next).get d:Int).toNat).Y)) (hO'10.box 1 rfl) rfl rfl) (ZB rfl b'14 (ZU rfl (zL (a:=((gi at_ i.toNat).Y)) (b:=((gi at_ (((gi l a.toNat).Next).get d:Int).toNat).Y)) rfl rfl) (ZU rfl (zn (t:=t8) (v:=.b t9) rfl b'14 (Eq.trans (b:=V.b (decide (((gi at_ i.toNat).Y) < ((gi at_ (((gi l a.toNat).Next).get d:Int).toNat).Y)))) rfl (congrArg V.b (Option.some.inj hp)))) (Zab ?_))))
         exact ⟨rfl,rfl,g'9_0,g'9_1,g'9_10,g'9_2,g'9_3,g'9_9⟩
        ·skip
         refine Zv rfl b'14 (Zv rfl b'14 (Zv rfl b'14 (Zv rfl b'14 (Zv rfl b'14 (Zv rfl b'14 (Zv rfl b'14 (Zv rfl b'14 ?_)))))))
         refine ZU rfl (ze (t:=t8) (v:=.b t9) rfl b'14 (Eq.trans (b:=V.b false) rfl (congrArg V.b (Option.some.inj hp)))) (Zab ?_)
         exact ⟨rfl,rfl,g'9_0,g'9_1,g'9_10,g'9_2,g'9_3,g'9_9⟩
       rintro frg'10 _ ⟨rfl,g'10_156,g'10_0,g'10_1,g'10_10,g'10_2,g'10_3,g'10_9⟩
       refine Zab (Zc ?_)
       rcases Zt hp with ⟨b'15,hp⟩ | ⟨b'15,hp⟩
       ·refine zK (t:=t9) g'10_156 b'15 ?_
        refine Zk (Zo (Zf (.b true) rfl (Zd (Zc (zY (Zbd (z5 ?_)))))))
        cases hp
        refine (Or.inr ⟨.inr (),rfl,(fun h=>nomatch h),(fun he=>?_)⟩)
        subst he; exact ⟨rfl,rfl,(hO'10.pick [] rfl (by decide))⟩
       ·refine zG (t:=t9) g'10_156 b'15 ?_
        refine zN (Zan (Zc (Zo (Zf (.n d) g'10_10 ?_))))
        obtain ⟨c'18,hp⟩:=Zm hp
        refine Zj (zH (a:=d) (b:=1) rfl rfl c'18) (Zf (.n (d + 1)) rfl (Zd ?_))
        cases hp
        exact (Or.inl ⟨d + 1,rfl,rfl,g'10_0,g'10_1,g'10_2,g'10_3,g'10_9,rfl,(hO'10.pick [] rfl (by decide))⟩)
    ·refine zG (t:=(decide (d < 2))) rfl b'2 ?_
     refine Zbp (zZ ?_)
     cases hp
     refine (Or.inr ⟨.inl (),rfl,(fun h=>nomatch h),(fun he=>?_)⟩)
     subst he; exact ⟨rfl,q'4_0,q'4_1,q'4_2,q'4_3,q'4_9,(hO'4.pick [] rfl (by decide))⟩
   intro e'2 q'3 k'3 hJ'2
   rcases o'3 with _ | _
   ·obtain ⟨rfl,q'3_0,q'3_1,q'3_2,q'3_3,q'3_9,hO'3⟩:=hJ'2
    refine ZaJ (Zan (Zc (Zo (Zf (.n a) q'3_9 ?_))))
    obtain ⟨c'19,hp⟩:=Zm hp
    refine Zj (zH (a:=a) (b:=1) rfl rfl c'19) (Zf (.n (a + 1)) rfl (Zd ?_))
    cases hp
    exact (Or.inl ⟨a + 1,rfl,rfl,q'3_0,q'3_1,q'3_2,q'3_3,rfl,(hO'3.pick [] rfl (by decide))⟩)
   ·obtain ⟨rfl,q'3_8,hO'3⟩:=hJ'2
    refine Zbd (Zbd (z5 ?_))
    cases hp
    refine (Or.inr ⟨.inr (),rfl,(fun h=>nomatch h),(fun he=>?_)⟩)
    subst he; exact ⟨rfl,q'3_8,(hO'3.pick [] rfl (by decide))⟩
  ·refine zG (t:=(decide (a < (l.length:Int)))) rfl b'1 ?_
   refine Zbp (zZ ?_)
   cases hp
   refine (Or.inr ⟨.inl (),rfl,(fun h=>nomatch h),(fun he=>?_)⟩)
   subst he; exact ⟨rfl,(hO'2.pick [] rfl (by decide))⟩
 intro e'1 q'1 k'1 hJ'1
 rcases o'1 with _ | _
 ·obtain ⟨rfl,hO'1⟩:=hJ'1
  refine ZaJ (Zc (Zk (Zo (Zf (.b false) rfl (Zd (Zc (zY ?_)))))))
  refine zx (zC (n:=8) (v:=.b false) rfl ZS) ?_
  cases hp
  exact ⟨rfl,(hO'1.pick [] rfl (by decide))⟩
 ·obtain ⟨rfl,q'1_8,hO'1⟩:=hJ'1
  refine Zbd (z5 (zx (zC (n:=8) (v:=.b true) q'1_8 ZS) ?_))
  cases hp
  exact ⟨rfl,(hO'1.pick [] rfl (by decide))⟩

theorem zA.ok {h:Hp} {l:List Za} {v:Int} {d:Int} {w:Int} {o:Int} {v_l:V} (s_l:Sl Zi h v_l l) {r:(List Za)} (hp:zA l v d w o = some r) :
  ∃ u k',Is G 65 [v_l,.n v,.n d,.n w,.n o] h u k'∧∃ (v'1:V),v'1 = u∧Own (fun r=>r < h.n) h k' [eSl Zi v'1 r]:=by
 refine WC.is (Za7 ZcJ ?_)
 unfold zA at hp
 let B:Nat→Prop:=(fun r=>r < h.n)
 have hO:Own B h h []:=Own.start0 h
 refine Zk (Zo (Zf (.sn) rfl (Zd (Zc (Zk (Zo (Zf (.sn) rfl ?_)))))))
 refine Zd (Zc (Zk (Zk (Zo (Zf (.n 0) rfl (Zd (Zc ?_)))))))
 refine Zas ?_
 obtain ⟨o'1,ho'1,hp⟩:=Zs hp
 refine W.mono (Q:=fun e fr k=>match (generalizing:=false) o'1 with
   | out1=>e = (.exit 0)∧∃ (v'3:V),fr 11 = v'3∧Own B h k [eSl Zi v'3 out1]) ?_ ?_
 ·clear hp
  have hO'2:=hO.nil Zi
  refine zR (fun st fr k=>match st with | (out,i)=>∃ (v'2:V),fr 0 = v_l∧fr 1 = .n v∧fr 2 = .n d∧fr 3 = .n w∧fr 4 = .n o∧fr 11 = v'2∧fr 12 = .n i∧Own B h k [eSl Zi v'2 out]) ho'1 (s:=(([]:List Za),0)) ⟨V.sn,rfl,rfl,rfl,rfl,rfl,rfl,rfl,(hO'2.pick [0] rfl (by decide))⟩ ?_
  rintro ⟨out,i⟩ q'2 k'2 ⟨v'2,q'2_0,q'2_1,q'2_2,q'2_3,q'2_4,q'2_11,q'2_12,hO'3⟩ o'2 hp
  dsimp only [zA.s0] at hp
  refine Zk (Zk (Zo (Zf (.n i) q'2_12 (Zf v_l q'2_0 (Zj (Za0 (hO'3.rd0 s_l.rd) rfl) (Zj (zL (a:=i) (b:=(l.length:Int)) rfl rfl) (Zd ?_)))))))
  refine Zc ?_
  rcases Zt hp with ⟨b'1,hp⟩ | ⟨b'1,hp⟩
  ·refine zK (t:=(decide (i < (l.length:Int)))) rfl b'1 ?_
   refine zN (Zc (Zk (Zas (Zk (Zo (Zf v_l q'2_0 (Zf (.n i) q'2_12 ?_)))))))
   obtain ⟨c'1,hp⟩:=Zm hp
   refine Zj (zq (E:=Zi) (z:=i) (hO'3.rd0 s_l.rd) rfl rfl c'1) (Zj (Zdp (E:=Zi) (hO'3.rd0 s_l.rd) rfl (Zl c'1)) (zF (hO'3.alloc (cs:=Zi.c (⟨⟨0,0,0,0⟩,⟨0,0,0,0⟩⟩:Za)) hO'3.fr) ?_))
   rintro _ k'3 ⟨r'1,rfl,n'1,f'1,hW⟩
   have hO'4:=hW
   refine zF (hO'4.stb (ws:=Zi.c (gi l i.toNat)) (cs':=Zi.c (gi l i.toNat)) (v:=.ag (Zi.c (gi l i.toNat))) 1 rfl rfl rfl rfl ⟨rfl,Nat.le_of_ble_eq_true rfl,rfl⟩ rfl) ?_
   rintro _ k'4 ⟨rfl,f'2,m'1,hW⟩
   have hO'5:=hW
   refine Zd (Zc (Zk (Zk (Zo (Zf (.n i) q'2_12 (Zf (.n v) q'2_1 (Zj (Zb2 (a:=i) (b:=v) rfl rfl) ?_)))))))
   refine Zd (Zc ?_)
   obtain ⟨o'3,ho'2,hp⟩:=Zs hp
   refine W.mono (Q:=fun e fr k=>match (generalizing:=false) o'3 with
     | c=>e = .normal∧fr 0 = v_l∧fr 1 = .n v∧fr 2 = .n d∧fr 3 = .n w∧fr 4 = .n o∧fr 11 = v'2∧fr 12 = .n i∧fr 13 = .p r'1 0∧Own B h k [eSl Zi v'2 out,Zbw r'1 (Zi.c c)]) ?_ ?_
   ·clear hp; have hp:=ho'2; clear ho'2
    rcases Zt hp with ⟨b'2,hp⟩ | ⟨b'2,hp⟩
    ·refine zK (t:=(decide (i = v))) rfl b'2 ?_
     refine Zk (Zo (Zf (.n d) q'2_2 (Zf (.n w) q'2_3 (Zj (Zaz (r:=r'1) (o:=0) (o':=0) rfl rfl) ?_))))
     obtain ⟨c'2,hp⟩:=Zm hp
     refine Zj (Zdc (o:=0) (o':=(0 + d.toNat * 1)) (z:=d) rfl rfl c'2 rfl) (zF (hO'5.stb (ws:=[.n w]) (cs':=Zi.c ({ gi l i.toNat with Next:=((gi l i.toNat).Next).set d w })) (v:=.n w) 1 rfl rfl rfl rfl ⟨rfl,(by have:=c'2; exact (show 0 + d.toNat * 1 + 1≤8 by omega)),rfl⟩ (ZbG c'2)) ?_)
     rintro _ k'6 ⟨rfl,f'3,m'2,hW⟩
     have hO'7:=hW
     refine Zd (Zc (Zo (Zf (.n d) q'2_2 (Zf (.n o) q'2_4 (Zj (Zaz (r:=r'1) (o:=0) (o':=4) rfl rfl) (Zj (Zdc (o:=4) (o':=(4 + d.toNat * 1)) (z:=d) rfl rfl c'2 rfl) (zF (hO'7.stb (ws:=[.n o]) (cs':=Zi.c ({ { gi l i.toNat with Next:=((gi l i.toNat).Next).set d w } with Owner:=(({ gi l i.toNat with Next:=((gi l i.toNat).Next).set d w }).Owner).set d o })) (v:=.n o) 1 rfl rfl rfl rfl ⟨rfl,(by have:=c'2; exact (show 4 + d.toNat * 1 + 1≤8 by omega)),rfl⟩ (Zca c'2)) ?_)))))))
     rintro _ k'7 ⟨rfl,f'4,m'3,hW⟩
     have hO'8:=hW
     refine Zd ?_
     cases hp
     exact ⟨rfl,q'2_0,q'2_1,q'2_2,q'2_3,q'2_4,q'2_11,q'2_12,rfl,(hO'8.pick [0,1] rfl (by decide))⟩
    ·refine zG (t:=(decide (i = v))) rfl b'2 ?_
     refine zN ?_
     cases hp
     exact ⟨rfl,q'2_0,q'2_1,q'2_2,q'2_3,q'2_4,q'2_11,q'2_12,rfl,(hO'5.pick [0,1] rfl (by decide))⟩
   intro e'2 q'3 k'5 hJ'2
   obtain ⟨c,rfl⟩:∃ x,x = o'3:=⟨_,rfl⟩
   obtain ⟨rfl,q'3_0,q'3_1,q'3_2,q'3_3,q'3_4,q'3_11,q'3_12,q'3_13,hO'6⟩:=hJ'2
   refine Zc (Zk (Zk (Zo (Zf (.n i) q'3_12 (Zf (.n w) q'3_3 (Zj (Zb2 (a:=i) (b:=w) rfl rfl) (Zd ?_)))))))
   refine Zc ?_
   rcases Zt hp with ⟨b'3,hp⟩ | ⟨b'3,hp⟩
   ·refine zK (t:=(decide (i = w))) rfl b'3 ?_
    refine Zk (Zo (Zf (.n d) q'3_2 ?_))
    obtain ⟨c'3,hp⟩:=Zm hp
    refine Zj (zH (a:=d) (b:=2) rfl rfl c'3) (Zj (ZdR (a:=(d + 2)) (b:=4) rfl rfl (by decide)) (Zf (.n v) q'3_1 (Zj (Zaz (r:=r'1) (o:=0) (o':=0) q'3_13 rfl) ?_)))
    obtain ⟨c'4,hp⟩:=Zm hp
    refine Zj (Zdc (o:=0) (o':=(0 + ((d + 2).tmod 4:Int).toNat * 1)) (z:=((d + 2).tmod 4)) rfl rfl c'4 rfl) (zF (hO'6.stb (ws:=[.n v]) (cs':=Zi.c ({ c with Next:=c.Next.set ((d + 2).tmod 4) v })) (v:=.n v) 1 rfl rfl rfl rfl ⟨rfl,(by have:=c'4; exact (show 0 + ((d + 2).tmod 4:Int).toNat * 1 + 1≤8 by omega)),rfl⟩ (ZbG c'4)) ?_)
    rintro _ k'8 ⟨rfl,f'5,m'4,hW⟩
    have hO'9:=hW
    refine Zd (Zc (Zo (Zf (.n d) q'3_2 (Zj (zH (a:=d) (b:=2) rfl rfl c'3) (Zj (ZdR (a:=(d + 2)) (b:=4) rfl rfl (by decide)) (Zf (.n o) q'3_4 (Zj (Zaz (r:=r'1) (o:=0) (o':=4) q'3_13 rfl) ?_)))))))
    refine Zj (Zdc (o:=4) (o':=(4 + ((d + 2).tmod 4:Int).toNat * 1)) (z:=((d + 2).tmod 4)) rfl rfl c'4 rfl) (zF (hO'9.stb (ws:=[.n o]) (cs':=Zi.c ({ { c with Next:=c.Next.set ((d + 2).tmod 4) v } with Owner:=(({ c with Next:=c.Next.set ((d + 2).tmod 4) v }).Owner).set ((d + 2).tmod 4) o })) (v:=.n o) 1 rfl rfl rfl rfl ⟨rfl,(by have:=c'4; exact (show 4 + ((d + 2).tmod 4:Int).toNat * 1 + 1≤8 by omega)),rfl⟩ (Zca c'4)) ?_)
    rintro _ k'9 ⟨rfl,f'6,m'5,hW⟩
    have hO'10:=hW
    refine Zd (Zc (Zo (Zf v'2 q'3_11 (Zj (Zbe (cs:=(Zi.c ({ { c with Next:=c.Next.set ((d + 2).tmod 4) v } with Owner:=(({ c with Next:=c.Next.set ((d + 2).tmod 4) v }).Owner).set ((d + 2).tmod 4) o }))) (ws:=Zi.c ({ { c with Next:=c.Next.set ((d + 2).tmod 4) v } with Owner:=(({ c with Next:=c.Next.set ((d + 2).tmod 4) v }).Owner).set ((d + 2).tmod 4) o })) (hO'10.box 1 rfl) q'3_13 rfl) (zF (hO'10.bsl (E:=Zi) (l:=[{ { c with Next:=c.Next.set ((d + 2).tmod 4) v } with Owner:=(({ c with Next:=c.Next.set ((d + 2).tmod 4) v }).Owner).set ((d + 2).tmod 4) o }]) hO'10.fr (by rw [(zp (v:=.ag (Zi.c ({ { c with Next:=c.Next.set ((d + 2).tmod 4) v } with Owner:=(({ c with Next:=c.Next.set ((d + 2).tmod 4) v }).Owner).set ((d + 2).tmod 4) o }))) rfl Zak)]; rfl) rfl) ?_)))))
    rintro v'4 k'10 ⟨r'2,f'7,hW⟩
    have hO'11:=hW
    obtain ⟨c'5,hp⟩:=Zm hp
    refine zF (hO'11.app (E:=Zi) (bytes:=64) 0 hO'11.fr rfl (hO'11.sl 2 rfl:Sl Zi k'10 v'4 [{ { c with Next:=c.Next.set ((d + 2).tmod 4) v } with Owner:=(({ c with Next:=c.Next.set ((d + 2).tmod 4) v }).Owner).set ((d + 2).tmod 4) o }]) rfl rfl (fun _=>rfl) c'5 (by decide)) ?_
    rintro v'5 k'11 ⟨f'8,hW⟩
    have hO'12:=hW
    refine Zf v'5 rfl (Zd (Zan (Zc (Zo (Zf (.n i) q'3_12 ?_)))))
    obtain ⟨c'6,hp⟩:=Zm hp
    refine Zj (zH (a:=i) (b:=1) rfl rfl c'6) (Zf (.n (i + 1)) rfl (Zd ?_))
    cases hp
    exact (Or.inl ⟨(out++[{ { c with Next:=c.Next.set ((d + 2).tmod 4) v } with Owner:=(({ c with Next:=c.Next.set ((d + 2).tmod 4) v }).Owner).set ((d + 2).tmod 4) o }],i + 1),rfl,rfl,v'5,q'3_0,q'3_1,q'3_2,q'3_3,q'3_4,rfl,rfl,(hO'12.pick [0] rfl (by decide))⟩)
   ·refine zG (t:=(decide (i = w))) rfl b'3 ?_
    refine zN (Zc (Zo (Zf v'2 q'3_11 (Zj (Zbe (cs:=(Zi.c c)) (ws:=Zi.c c) (hO'6.box 1 rfl) q'3_13 rfl) (zF (hO'6.bsl (E:=Zi) (l:=[c]) hO'6.fr (by rw [(zp (v:=.ag (Zi.c c)) rfl Zak)]; rfl) rfl) ?_)))))
    rintro v'6 k'12 ⟨r'3,f'9,hW⟩
    have hO'13:=hW
    obtain ⟨c'7,hp⟩:=Zm hp
    refine zF (hO'13.app (E:=Zi) (bytes:=64) 0 hO'13.fr rfl (hO'13.sl 2 rfl) rfl rfl (fun _=>rfl) c'7 (by decide)) ?_
    rintro v'7 k'13 ⟨f'10,hW⟩
    have hO'14:=hW
    refine Zf v'7 rfl (Zd (Zan (Zc (Zo (Zf (.n i) q'3_12 ?_)))))
    obtain ⟨c'8,hp⟩:=Zm hp
    refine Zj (zH (a:=i) (b:=1) rfl rfl c'8) (Zf (.n (i + 1)) rfl (Zd ?_))
    cases hp
    exact (Or.inl ⟨(out++[c],i + 1),rfl,rfl,v'7,q'3_0,q'3_1,q'3_2,q'3_3,q'3_4,rfl,rfl,(hO'14.pick [0] rfl (by decide))⟩)
  ·refine zG (t:=(decide (i < (l.length:Int)))) rfl b'1 ?_
   refine Zbp (zZ ?_)
   cases hp
   refine (Or.inr ⟨out,rfl,(fun h=>nomatch h),(fun he=>?_)⟩)
   subst he; exact ⟨rfl,v'2,q'2_11,(hO'3.pick [0] rfl (by decide))⟩
 intro e'1 q'1 k'1 hJ'1
 obtain ⟨out1,rfl⟩:∃ x,x = o'1:=⟨_,rfl⟩
 obtain ⟨rfl,v'3,q'1_11,hO'1⟩:=hJ'1
 refine ZaJ (Zc (Zk (Zo (Zf v'3 q'1_11 (Zf v'3 rfl (Zd (Zc ?_)))))))
 refine zY (zx (zC (n:=10) (v:=v'3) rfl ZS) ?_)
 cases hp
 exact ⟨v'3,rfl,(hO'1.pick [0] rfl (by decide))⟩

theorem Z9.ok {h:Hp} {z:zj} {most:Int} {v_z_At:V} {v_z_Bits:V} {v_z_Own:V} (s_z_At:Sl Zfn h v_z_At z.At) (s_z_Bits:Sl Zfn h v_z_Bits z.Bits) (s_z_Own:Sl ZhB h v_z_Own z.Own) {r:(List Za) × (List Ze)} (hp:Z9 z most = some r) :
  ∃ u k',Is G 28 [.ag [v_z_At,v_z_Bits,v_z_Own],.n most] h u k'∧∃ (v'1:V),∃ (v'2:V),V.tu [v'1,v'2] = u∧Own (fun r=>r < h.n) h k' [eSl Zi v'1 r.1,eSl Zb v'2 r.2]:=by
 refine WC.is (Za7 ZcI ?_)
 unfold Z9 at hp
 let B:Nat→Prop:=(fun r=>r < h.n)
 have hO:Own B h h []:=Own.start0 h
 refine Zk (Zo (zF (hO.boxd (v:=.ag [v_z_At,v_z_Bits,v_z_Own]) (cs:=[v_z_At,v_z_Bits,v_z_Own]) hO.fr rfl rfl) ?_))
 rintro _ k'1 ⟨r'1,rfl,n'1,f'1,hW⟩
 have hO'1:=hW
 refine Zf (.sn) rfl (Zf (.sn) rfl (Zd (Zc (Zk (Zo (Zf (.sn) rfl (Zd ?_)))))))
 refine Zc (Zk (Zk (Zo (Zf (.n 0) rfl (Zd (Zc (Zas ?_)))))))
 obtain ⟨o'1,ho'1,hp⟩:=Zs hp
 refine W.mono (Q:=fun e fr k=>match (generalizing:=false) o'1 with
   | at_1=>e = (.exit 0)∧∃ (v'4:V),fr 2 = .p r'1 0∧fr 6 = v'4∧Own B h k [Zbw r'1 [v_z_At,v_z_Bits,v_z_Own],eSl Zb v'4 at_1]) ?_ ?_
 ·clear hp
  have hO'3:=hO'1.nil Zb
  refine zR (fun st fr k=>match st with | (at_,i)=>∃ (v'3:V),fr 1 = .n most∧fr 2 = .p r'1 0∧fr 6 = v'3∧fr 7 = .n i∧Own B h k [Zbw r'1 [v_z_At,v_z_Bits,v_z_Own],eSl Zb v'3 at_]) ho'1 (s:=(([]:List Ze),0)) ⟨V.sn,rfl,rfl,rfl,rfl,(hO'3.pick [0,1] rfl (by decide))⟩ ?_
  rintro ⟨at_,i⟩ q'2 k'3 ⟨v'3,q'2_1,q'2_2,q'2_6,q'2_7,hO'4⟩ o'2 hp
  dsimp only [Z9.s0] at hp
  refine Zk (Zk (Zo (Zf (.n i) q'2_7 (Zj (Zaz (r:=r'1) (o:=0) (o':=0) q'2_2 rfl) (Zj (zV (cs:=[v_z_At,v_z_Bits,v_z_Own]) (v:=v_z_At) (hO'4.box 0 rfl) rfl rfl) (Zj (Za0 (hO'4.rd0 s_z_At.rd) rfl) (Zj (zL (a:=i) (b:=(z.At.length:Int)) rfl rfl) ?_)))))))
  refine Zf (.b (decide (i < (z.At.length:Int)))) rfl ?_
  refine ZaF 5 (fun fr' k'=>k'3 = k'∧fr' 28 = .b ((decide (i < (z.At.length:Int))) && (decide ((at_.length:Int) < most)))∧fr' 1 = .n most∧fr' 2 = .p r'1 0∧fr' 6 = v'3∧fr' 7 = .n i) ?_ ?_
  ·rcases bc (decide (i < (z.At.length:Int))) with b'1 | b'1
   ·skip
    refine ZM rfl b'1 (Zf v'3 q'2_6 (ZM rfl b'1 (Zj (Za0 (hO'4.sl 1 rfl) rfl) (ZM rfl b'1 (Zf (.n most) q'2_1 (ZM rfl b'1 (Zj (zL (a:=(at_.length:Int)) (b:=most) rfl rfl) ?_)))))))
    refine Zj (zn (t:=(decide (i < (z.At.length:Int)))) (v:=.b ((decide (i < (z.At.length:Int))) && (decide ((at_.length:Int) < most)))) rfl b'1 (Eq.trans (b:=V.b (decide ((at_.length:Int) < most))) rfl (Zf5 b'1))) (Zd ?_)
    exact ⟨rfl,rfl,q'2_1,q'2_2,q'2_6,q'2_7⟩
   ·skip
    refine Z1 rfl b'1 (Z1 rfl b'1 (Z1 rfl b'1 (Z1 rfl b'1 (Zj (ze (t:=(decide (i < (z.At.length:Int)))) (v:=.b ((decide (i < (z.At.length:Int))) && (decide ((at_.length:Int) < most)))) rfl b'1 (Eq.trans (b:=V.b false) rfl (ZeA b'1))) (Zd ?_)))))
    exact ⟨rfl,rfl,q'2_1,q'2_2,q'2_6,q'2_7⟩
  rintro frg'1 _ ⟨rfl,g'1_28,g'1_1,g'1_2,g'1_6,g'1_7⟩
  refine Zd (Zc ?_)
  rcases Zt hp with ⟨b'2,hp⟩ | ⟨b'2,hp⟩
  ·refine zK (t:=((decide (i < (z.At.length:Int))) && (decide ((at_.length:Int) < most)))) g'1_28 b'2 ?_
   refine zN (Zc (Zk (Zas (Zk (Zfj ?_)))))
   have hW:=hO'4.bump 18
   have fr'1:=Fresh.start k'3 18
   have nb'1:∀ {i:Nat},h.n≤k'3.n + i:=Nat.le_trans hO'4.n (Nat.le_add_right _ _)
   have hO'5:=hW
   refine zm (Zaz (r:=r'1) (o:=0) (o':=0) g'1_2 rfl) (zm (zV (cs:=[v_z_At,v_z_Bits,v_z_Own]) (v:=v_z_At) (hO'5.box 0 rfl) rfl rfl) (ZaK (.n i) g'1_7 ?_))
   obtain ⟨c'1,hp⟩:=Zm hp
   refine zm (zq (E:=Zfn) (z:=i) (hO'5.rd0 s_z_At.rd) rfl rfl c'1) (zm (zO (w:=.i .u8 (gi z.At i.toNat)) (hO'5.rd0 s_z_At.rd) rfl (Zl c'1) rfl) ?_)
   obtain ⟨c'2,hp⟩:=Zm hp
   refine zm (ZdB (a:=(gi z.At i.toNat)) rfl c'2) (zm (ZdR (a:=(gi z.At i.toNat)) (b:=8) rfl rfl (by decide)) (zm (Zaz (r:=r'1) (o:=0) (o':=0) g'1_2 rfl) (zm (zV (cs:=[v_z_At,v_z_Bits,v_z_Own]) (v:=v_z_At) (hO'5.box 0 rfl) rfl rfl) (ZaK (.n i) g'1_7 (zm (zq (E:=Zfn) (z:=i) (hO'5.rd0 s_z_At.rd) rfl rfl c'1) (zm (zO (w:=.i .u8 (gi z.At i.toNat)) (hO'5.rd0 s_z_At.rd) rfl (Zl c'1) rfl) (zm (ZdB (a:=(gi z.At i.toNat)) rfl c'2) ?_)))))))
   obtain ⟨c'3,hp⟩:=Zm hp
   refine zm (Zmx (a:=(gi z.At i.toNat)) (b:=8) rfl rfl c'3) (zm (ZdR (a:=((gi z.At i.toNat).tdiv 8)) (b:=8) rfl rfl (by decide)) (zm (Zbh (cs:=Zb.c (⟨(gi z.At i.toNat).tmod 8,((gi z.At i.toNat).tdiv 8).tmod 8⟩:Ze)) (by rw [(zp (v:=.n ((gi z.At i.toNat).tmod 8)) rfl (zp (v:=.n (((gi z.At i.toNat).tdiv 8).tmod 8)) rfl Zak))]; rfl)) (ZfX (hO'5.alloc (cs:=Zb.c (⟨0,0⟩:Ze)) ⟨fr'1.m 16 (by decide) (by decide),nb'1⟩) ?_)))
   rintro _ k'5 z'1 ⟨r'2,rfl,n'2,f'2,hW⟩
   have fr'2:=fr'1.kept f'2 (by decide)
   have hO'6:=hW
   refine ZfX (hO'6.stb (ws:=Zb.c (⟨(gi z.At i.toNat).tmod 8,((gi z.At i.toNat).tdiv 8).tmod 8⟩:Ze)) (cs':=Zb.c (⟨(gi z.At i.toNat).tmod 8,((gi z.At i.toNat).tdiv 8).tmod 8⟩:Ze)) (v:=.ag (Zb.c (⟨(gi z.At i.toNat).tmod 8,((gi z.At i.toNat).tdiv 8).tmod 8⟩:Ze))) 2 rfl rfl rfl rfl ⟨rfl,Nat.le_of_ble_eq_true rfl,rfl⟩ rfl) ?_
   rintro _ k'6 z'2 ⟨rfl,f'3,m'1,hW⟩
   have fr'3:=fr'2.kept f'3 (by decide)
   have hO'7:=hW
   refine ZbZ ?_
   refine And.intro ?_ ?_
   ·intro q hq
    simp only [List.mem_cons,List.not_mem_nil,or_false] at hq
    rcases hq with rfl | rfl | rfl | rfl | rfl | rfl | rfl | rfl
    ·refine Za8 ?_ ?_
     ·exact (fun h=>nomatch h)
     ·exact (fun h=>nomatch h)
    ·refine Za8 ?_ ?_
     ·exact (fun h=>nomatch h)
     ·exact (fun h=>nomatch h)
    ·refine Za8 ?_ ?_
     ·exact (fun h=>nomatch h)
     ·exact (fun h=>nomatch h)
    ·refine Za8 ?_ ?_
     ·exact (fun h=>nomatch h)
     ·exact (fun h=>nomatch h)
    ·refine Za8 ?_ ?_
     ·exact (fun h=>nomatch h)
     ·exact (fun _ hm=>Nat.lt_irrefl _ (Nat.lt_of_lt_of_le (hO'4.ltAt 0 rfl _ (tch (v:=V.p r'1 0) (Zei hm) rfl)) (Nat.le_add_right _ _)))
    ·refine Za8 ?_ ?_
     ·exact (fun h=>nomatch h)
     ·exact (fun _ hm=>Nat.lt_irrefl _ (Nat.lt_of_lt_of_le (Nat.lt_of_lt_of_le (hO'4.lo _ (Rd.B s_z_At.rd hO'4.lo (Zl c'1) _ (Zd8 (tch (v:=V.elt v_z_At i.toNat 0) (Zei hm) rfl)))) hO'4.n) (Nat.le_add_right _ _)))
    ·refine Za8 ?_ ?_
     ·exact (fun h=>nomatch h)
     ·exact (fun _ hm=>Nat.lt_irrefl _ (Nat.lt_of_lt_of_le (hO'4.ltAt 0 rfl _ (tch (v:=V.p r'1 0) (Zei hm) rfl)) (Nat.le_add_right _ _)))
    ·refine Za8 ?_ ?_
     ·exact (fun h=>nomatch h)
     ·exact (fun _ hm=>Nat.lt_irrefl _ (Nat.lt_of_lt_of_le (Nat.lt_of_lt_of_le (hO'4.lo _ (Rd.B s_z_At.rd hO'4.lo (Zl c'1) _ (Zd8 (tch (v:=V.elt v_z_At i.toNat 0) (Zei hm) rfl)))) hO'4.n) (Nat.le_add_right _ _)))
   refine Zc (Zk (Zo (Zf (.b false) rfl (Zd (Zc (Zk (Zk ?_)))))))
   refine Zo (Zf (.n 0) rfl (Zd (Zc (Zas ?_))))
   obtain ⟨o'3,ho'2,hp⟩:=Zs hp
   refine W.mono (Q:=fun e fr k=>match (generalizing:=false) o'3 with
     | (at_2,met1)=>e = (.exit 2)∧fr 1 = .n most∧fr 2 = .p r'1 0∧fr 6 = v'3∧fr 7 = .n i∧fr 8 = .p r'2 0∧fr 9 = .b met1∧Own B h k [Zbw r'1 [v_z_At,v_z_Bits,v_z_Own],eSl Zb v'3 at_2,Zbw r'2 (Zb.c (⟨(gi z.At i.toNat).tmod 8,((gi z.At i.toNat).tdiv 8).tmod 8⟩:Ze))]) ?_ ?_
   ·clear hp
    refine zR (fun st fr k=>match st with | (met,k_)=>fr 1 = .n most∧fr 2 = .p r'1 0∧fr 6 = v'3∧fr 7 = .n i∧fr 8 = .p r'2 0∧fr 9 = .b met∧fr 10 = .n k_∧Own B h k [Zbw r'1 [v_z_At,v_z_Bits,v_z_Own],eSl Zb v'3 at_,Zbw r'2 (Zb.c (⟨(gi z.At i.toNat).tmod 8,((gi z.At i.toNat).tdiv 8).tmod 8⟩:Ze))]) ho'2 (s:=(false,0)) ⟨g'1_1,g'1_2,g'1_6,g'1_7,rfl,rfl,rfl,(hO'7.pick [0,1,2] rfl (by decide))⟩ ?_
    rintro ⟨met,k_⟩ q'4 k'8 ⟨q'4_1,q'4_2,q'4_6,q'4_7,q'4_8,q'4_9,q'4_10,hO'9⟩ o'4 hp
    dsimp only [Z9.s1] at hp
    refine Zk (Zk (Zo (Zf (.n k_) q'4_10 (Zf v'3 q'4_6 (Zj (Za0 (hO'9.sl 1 rfl) rfl) (Zj (zL (a:=k_) (b:=(at_.length:Int)) rfl rfl) (Zd ?_)))))))
    refine Zc ?_
    rcases Zt hp with ⟨b'3,hp⟩ | ⟨b'3,hp⟩
    ·refine zK (t:=(decide (k_ < (at_.length:Int)))) rfl b'3 ?_
     refine zN (Zc (Zk (Zas (Zh5 ?_))))
     have hW:=hO'9.bump 10
     have hO'10:=hW
     refine Zap (.b met) q'4_9 (Zap (.b met) rfl ?_)
     obtain ⟨t,hv'1,hp⟩:=Zs hp
     refine ZbC 7 (fun fr' k'=>(k'8.bump 10) = k'∧fr' 61 = .b t∧fr' 1 = .n most∧fr' 10 = .n k_∧fr' 2 = .p r'1 0∧fr' 6 = v'3∧fr' 7 = .n i∧fr' 8 = .p r'2 0) ?_ ?_
     ·clear hp; rcases Zt hv'1 with ⟨b'4,hp⟩ | ⟨b'4,hp⟩
      ·skip
       refine Zv rfl b'4 (Zv rfl b'4 (Zv rfl b'4 (Zv rfl b'4 (Zv rfl b'4 (Zv rfl b'4 (ZU rfl (zn (t:=met) (v:=.b t) rfl b'4 (Eq.trans (b:=V.b true) rfl (congrArg V.b (Option.some.inj hp)))) (Zab ?_)))))))
       exact ⟨rfl,rfl,q'4_1,q'4_10,q'4_2,q'4_6,q'4_7,q'4_8⟩
      ·skip
       refine ZB rfl b'4 (Zap v'3 q'4_6 (ZB rfl b'4 (Zap (.n k_) q'4_10 (ZB rfl b'4 ?_))))
       obtain ⟨c'4,hp⟩:=Zm hp
       refine ZU rfl (zq (E:=Zb) (z:=k_) (hO'10.sl 1 rfl) rfl rfl c'4) (ZB rfl b'4 (ZU rfl (Zdp (E:=Zb) (hO'10.sl 1 rfl) rfl (Zl c'4)) (ZB rfl b'4 (ZU rfl (Zbe (cs:=(Zb.c (⟨(gi z.At i.toNat).tmod 8,((gi z.At i.toNat).tdiv 8).tmod 8⟩:Ze))) (ws:=Zb.c (⟨(gi z.At i.toNat).tmod 8,((gi z.At i.toNat).tdiv 8).tmod 8⟩:Ze)) (hO'10.box 2 rfl) q'4_8 rfl) (ZB rfl b'4 (ZU rfl (Zms (as:=Zb.c (gi at_ k_.toNat)) (bs:=Zb.c (⟨(gi z.At i.toNat).tmod 8,((gi z.At i.toNat).tdiv 8).tmod 8⟩:Ze)) rfl rfl (Mu.Zb.same _ _)) (ZU rfl (ze (t:=met) (v:=.b t) rfl b'4 (Eq.trans (b:=V.b (decide (gi at_ k_.toNat = (⟨(gi z.At i.toNat).tmod 8,((gi z.At i.toNat).tdiv 8).tmod 8⟩:Ze)))) rfl (congrArg V.b (Option.some.inj hp)))) ?_)))))))
       refine Zab ?_
       exact ⟨rfl,rfl,q'4_1,q'4_10,q'4_2,q'4_6,q'4_7,q'4_8⟩
     rintro frg'2 _ ⟨rfl,g'2_61,g'2_1,g'2_10,g'2_2,g'2_6,g'2_7,g'2_8⟩
     refine Zap (.b t) g'2_61 (Zab (Zan (Zc (Zo (Zf (.n k_) g'2_10 ?_)))))
     obtain ⟨c'5,hp⟩:=Zm hp
     refine Zj (zH (a:=k_) (b:=1) rfl rfl c'5) (Zf (.n (k_ + 1)) rfl (Zd ?_))
     cases hp
     exact (Or.inl ⟨(t,k_ + 1),rfl,rfl,g'2_1,g'2_2,g'2_6,g'2_7,g'2_8,rfl,rfl,(hO'10.pick [0,1,2] rfl (by decide))⟩)
    ·refine zG (t:=(decide (k_ < (at_.length:Int)))) rfl b'3 ?_
     refine Zbp (zZ ?_)
     cases hp
     refine (Or.inr ⟨(at_,met),rfl,(fun h=>nomatch h),(fun he=>?_)⟩)
     subst he; exact ⟨rfl,q'4_1,q'4_2,q'4_6,q'4_7,q'4_8,q'4_9,(hO'9.pick [0,1,2] rfl (by decide))⟩
   intro e'2 q'3 k'7 hJ'2
   obtain ⟨at_2,met1⟩:=o'3
   obtain ⟨rfl,q'3_1,q'3_2,q'3_6,q'3_7,q'3_8,q'3_9,hO'8⟩:=hJ'2
   refine ZaJ (Zc (Zk (Zo (Zf (.b met1) q'3_9 (Zj (Zdd (t:=met1) rfl) (Zd (Zc ?_)))))))
   rcases Zt hp with ⟨b'5,hp⟩ | ⟨b'5,hp⟩
   ·refine zK (t:=(!met1)) rfl b'5 ?_
    refine Zo (Zf v'3 q'3_6 (Zj (Zbe (cs:=(Zb.c (⟨(gi z.At i.toNat).tmod 8,((gi z.At i.toNat).tdiv 8).tmod 8⟩:Ze))) (ws:=Zb.c (⟨(gi z.At i.toNat).tmod 8,((gi z.At i.toNat).tdiv 8).tmod 8⟩:Ze)) (hO'8.box 2 rfl) q'3_8 rfl) (zF (hO'8.bsl (E:=Zb) (l:=[(⟨(gi z.At i.toNat).tmod 8,((gi z.At i.toNat).tdiv 8).tmod 8⟩:Ze)]) hO'8.fr (by rw [(zp (v:=.ag (Zb.c (⟨(gi z.At i.toNat).tmod 8,((gi z.At i.toNat).tdiv 8).tmod 8⟩:Ze))) rfl Zak)]; rfl) rfl) ?_)))
    rintro v'5 k'10 ⟨r'3,f'4,hW⟩
    have hO'11:=hW
    obtain ⟨c'6,hp⟩:=Zm hp
    refine zF (hO'11.app (E:=Zb) (bytes:=16) 1 hO'11.fr rfl (hO'11.sl 3 rfl:Sl Zb k'10 v'5 [(⟨(gi z.At i.toNat).tmod 8,((gi z.At i.toNat).tdiv 8).tmod 8⟩:Ze)]) rfl rfl (fun _=>rfl) c'6 (by decide)) ?_
    rintro v'6 k'11 ⟨f'5,hW⟩
    have hO'12:=hW
    refine Zf v'6 rfl (Zd (Zan (Zc (Zo (Zf (.n i) q'3_7 ?_)))))
    obtain ⟨c'7,hp⟩:=Zm hp
    refine Zj (zH (a:=i) (b:=1) rfl rfl c'7) (Zf (.n (i + 1)) rfl (Zd ?_))
    cases hp
    exact (Or.inl ⟨(at_2++[(⟨(gi z.At i.toNat).tmod 8,((gi z.At i.toNat).tdiv 8).tmod 8⟩:Ze)],i + 1),rfl,rfl,v'6,q'3_1,q'3_2,rfl,rfl,(hO'12.pick [0,1] rfl (by decide))⟩)
   ·refine zG (t:=(!met1)) rfl b'5 ?_
    refine zN (Zan (Zc (Zo (Zf (.n i) q'3_7 ?_))))
    obtain ⟨c'8,hp⟩:=Zm hp
    refine Zj (zH (a:=i) (b:=1) rfl rfl c'8) (Zf (.n (i + 1)) rfl (Zd ?_))
    cases hp
    exact (Or.inl ⟨(at_2,i + 1),rfl,rfl,v'3,q'3_1,q'3_2,q'3_6,rfl,(hO'8.pick [0,1] rfl (by decide))⟩)
  ·refine zG (t:=((decide (i < (z.At.length:Int))) && (decide ((at_.length:Int) < most)))) g'1_28 b'2 ?_
   refine Zbp (zZ ?_)
   cases hp
   refine (Or.inr ⟨at_,rfl,(fun h=>nomatch h),(fun he=>?_)⟩)
   subst he; exact ⟨rfl,v'3,g'1_2,g'1_6,(hO'4.pick [0,1] rfl (by decide))⟩
 intro e'1 q'1 k'2 hJ'1
 obtain ⟨at_1,rfl⟩:∃ x,x = o'1:=⟨_,rfl⟩
 obtain ⟨rfl,v'4,q'1_2,q'1_6,hO'2⟩:=hJ'1
 refine ZaJ (Zc (Zk (Zo (Zf v'4 q'1_6 (Zj (Za0 (hO'2.sl 1 rfl) rfl) ?_)))))
 obtain ⟨x,hx'1,hp⟩:=Zs hp
 obtain ⟨u'1,k'12,ca'1,v'7,rfl,hW'1⟩:=zf.ok (h:=k'2)   hx'1
 refine ZaN (id:=46) (caps:=[]) rfl (Zu (v:=.n (at_1.length:Int)) rfl zi) ca'1 ?_
 have hO'13:=hO'2.call hW'1 rfl
 refine Zf v'7 rfl (Zd (Zc (Zk (Zk (Zo (Zf (.n 0) rfl (Zd ?_)))))))
 refine Zc (Zas ?_)
 obtain ⟨o'5,ho'3,hp⟩:=Zs hp
 refine W.mono (Q:=fun e fr k=>match (generalizing:=false) o'5 with
   | (at_4,l1)=>e = (.exit 4)∧∃ (v'9:V),fr 6 = v'4∧fr 11 = v'9∧Own B h k [eSl Zb v'4 at_4,eSl Zi v'9 l1]) ?_ ?_
 ·clear hp
  refine zR (fun st fr k=>match st with | (at_3,l,i1)=>∃ (v'8:V),fr 2 = .p r'1 0∧fr 6 = v'4∧fr 11 = v'8∧fr 12 = .n i1∧Own B h k [Zbw r'1 [v_z_At,v_z_Bits,v_z_Own],eSl Zb v'4 at_3,eSl Zi v'8 l]) ho'3 (s:=(at_1,x,0)) ⟨v'7,q'1_2,q'1_6,rfl,rfl,(hO'13.pick [0,1,2] rfl (by decide))⟩ ?_
  rintro ⟨at_3,l,i1⟩ q'6 k'14 ⟨v'8,q'6_2,q'6_6,q'6_11,q'6_12,hO'15⟩ o'6 hp
  dsimp only [Z9.s2] at hp
  refine Zk (Zk (Zo (Zf (.n i1) q'6_12 (Zf v'4 q'6_6 (Zj (Za0 (hO'15.sl 1 rfl) rfl) (Zj (zL (a:=i1) (b:=(at_3.length:Int)) rfl rfl) (Zd ?_)))))))
  refine Zc ?_
  rcases Zt hp with ⟨b'6,hp⟩ | ⟨b'6,hp⟩
  ·refine zK (t:=(decide (i1 < (at_3.length:Int)))) rfl b'6 ?_
   refine zN (Zc (Zk (Zas (Zk (Zo (Zf (.i .u8 3) rfl (Zd ?_)))))))
   refine Zc (Zk (Zk (Zo (Zf (.n i1) q'6_12 (Zj (Zaz (r:=r'1) (o:=0) (o':=1) q'6_2 rfl) (Zj (zV (cs:=[v_z_At,v_z_Bits,v_z_Own]) (v:=v_z_Bits) (hO'15.box 0 rfl) rfl rfl) (Zj (Za0 (hO'15.rd0 s_z_Bits.rd) rfl) ?_)))))))
   refine Zj (zL (a:=i1) (b:=(z.Bits.length:Int)) rfl rfl) (Zd (Zc ?_))
   obtain ⟨o'7,ho'4,hp⟩:=Zs hp
   refine W.mono (Q:=fun e fr k=>match (generalizing:=false) o'7 with
     | (at_5,l2,bits)=>e = .normal∧fr 2 = .p r'1 0∧fr 6 = v'4∧fr 11 = v'8∧fr 12 = .n i1∧fr 13 = .i .u8 bits∧Own B h k [Zbw r'1 [v_z_At,v_z_Bits,v_z_Own],eSl Zb v'4 at_5,eSl Zi v'8 l2]) ?_ ?_
   ·clear hp; have hp:=ho'4; clear ho'4
    rcases Zt hp with ⟨b'7,hp⟩ | ⟨b'7,hp⟩
    ·refine zK (t:=(decide (i1 < (z.Bits.length:Int)))) rfl b'7 ?_
     refine Zo (Zj (Zaz (r:=r'1) (o:=0) (o':=1) q'6_2 rfl) (Zj (zV (cs:=[v_z_At,v_z_Bits,v_z_Own]) (v:=v_z_Bits) (hO'15.box 0 rfl) rfl rfl) (Zf (.n i1) q'6_12 ?_)))
     obtain ⟨c'9,hp⟩:=Zm hp
     refine Zj (zq (E:=Zfn) (z:=i1) (hO'15.rd0 s_z_Bits.rd) rfl rfl c'9) (Zj (zO (w:=.i .u8 (gi z.Bits i1.toNat)) (hO'15.rd0 s_z_Bits.rd) rfl (Zl c'9) rfl) (Zf (.i .u8 (gi z.Bits i1.toNat)) rfl (Zd ?_)))
     cases hp
     exact ⟨rfl,q'6_2,q'6_6,q'6_11,q'6_12,rfl,(hO'15.pick [0,1,2] rfl (by decide))⟩
    ·refine zG (t:=(decide (i1 < (z.Bits.length:Int)))) rfl b'7 ?_
     refine zN ?_
     cases hp
     exact ⟨rfl,q'6_2,q'6_6,q'6_11,q'6_12,rfl,(hO'15.pick [0,1,2] rfl (by decide))⟩
   intro e'4 q'7 k'15 hJ'4
   obtain ⟨at_5,l2,bits⟩:=o'7
   obtain ⟨rfl,q'7_2,q'7_6,q'7_11,q'7_12,q'7_13,hO'16⟩:=hJ'4
   refine Zc (Zk (Zo (Zf (.n i1) q'7_12 (Zf (.n i1) rfl (Zd (Zc (Zk ?_)))))))
   refine Zk (Zo (Zf (.n i1) q'7_12 (Zj (Zaz (r:=r'1) (o:=0) (o':=2) q'7_2 rfl) (Zj (zV (cs:=[v_z_At,v_z_Bits,v_z_Own]) (v:=v_z_Own) (hO'16.box 0 rfl) rfl rfl) (Zj (Za0 (hO'16.rd0 s_z_Own.rd) rfl) (Zj (zL (a:=i1) (b:=(z.Own.length:Int)) rfl rfl) (Zd ?_)))))))
   refine Zc ?_
   obtain ⟨o'8,ho'5,hp⟩:=Zs hp
   refine W.mono (Q:=fun e fr k=>match (generalizing:=false) o'8 with
     | (at_6,l3,own)=>e = .normal∧fr 2 = .p r'1 0∧fr 6 = v'4∧fr 11 = v'8∧fr 12 = .n i1∧fr 13 = .i .u8 bits∧fr 14 = .n own∧Own B h k [Zbw r'1 [v_z_At,v_z_Bits,v_z_Own],eSl Zb v'4 at_6,eSl Zi v'8 l3]) ?_ ?_
   ·clear hp; have hp:=ho'5; clear ho'5
    rcases Zt hp with ⟨b'8,hp⟩ | ⟨b'8,hp⟩
    ·refine zK (t:=(decide (i1 < (z.Own.length:Int)))) rfl b'8 ?_
     refine Zk (Zo (Zj (Zaz (r:=r'1) (o:=0) (o':=2) q'7_2 rfl) (Zj (zV (cs:=[v_z_At,v_z_Bits,v_z_Own]) (v:=v_z_Own) (hO'16.box 0 rfl) rfl rfl) (Zf (.n i1) q'7_12 ?_))))
     obtain ⟨c'10,hp⟩:=Zm hp
     refine Zj (zq (E:=ZhB) (z:=i1) (hO'16.rd0 s_z_Own.rd) rfl rfl c'10) (Zj (zO (w:=.i .i8 (gi z.Own i1.toNat)) (hO'16.rd0 s_z_Own.rd) rfl (Zl c'10) rfl) ?_)
     obtain ⟨c'11,hp⟩:=Zm hp
     refine Zj (ZdB (a:=(gi z.Own i1.toNat)) rfl c'11) (Zf (.n (gi z.Own i1.toNat)) rfl (Zd (Zc (Zk (Zo (Zf (.n (gi z.Own i1.toNat)) rfl (Zj (zL (a:=(gi z.Own i1.toNat)) (b:=(-2)) rfl rfl) ?_)))))))
     refine Zd (Zc ?_)
     rcases Zt hp with ⟨b'9,hp⟩ | ⟨b'9,hp⟩
     ·refine zK (t:=(decide ((gi z.Own i1.toNat) < (-2)))) rfl b'9 ?_
      refine Zo (Zf (.n (gi z.Own i1.toNat)) rfl ?_)
      obtain ⟨c'12,hp⟩:=Zm hp
      refine Zj (ZkW (a:=(gi z.Own i1.toNat)) rfl c'12) (Zf (.n (-(gi z.Own i1.toNat))) rfl (Zd ?_))
      cases hp
      exact ⟨rfl,q'7_2,q'7_6,q'7_11,q'7_12,q'7_13,rfl,(hO'16.pick [0,1,2] rfl (by decide))⟩
     ·refine zG (t:=(decide ((gi z.Own i1.toNat) < (-2)))) rfl b'9 ?_
      refine zN ?_
      cases hp
      exact ⟨rfl,q'7_2,q'7_6,q'7_11,q'7_12,q'7_13,rfl,(hO'16.pick [0,1,2] rfl (by decide))⟩
    ·refine zG (t:=(decide (i1 < (z.Own.length:Int)))) rfl b'8 ?_
     refine zN ?_
     cases hp
     exact ⟨rfl,q'7_2,q'7_6,q'7_11,q'7_12,q'7_13,rfl,(hO'16.pick [0,1,2] rfl (by decide))⟩
   intro e'5 q'8 k'16 hJ'5
   obtain ⟨at_6,l3,own⟩:=o'8
   obtain ⟨rfl,q'8_2,q'8_6,q'8_11,q'8_12,q'8_13,q'8_14,hO'17⟩:=hJ'5
   refine Zc (Zk (Zo (Zf (.n 0) rfl (Zd (Zc (Zas ?_))))))
   obtain ⟨o'9,ho'6,hp⟩:=Zs hp
   refine W.mono (Q:=fun e fr k=>match (generalizing:=false) o'9 with
     | l5=>e = (.exit 6)∧∃ (v'11:V),fr 2 = .p r'1 0∧fr 6 = v'4∧fr 11 = v'11∧fr 12 = .n i1∧Own B h k [Zbw r'1 [v_z_At,v_z_Bits,v_z_Own],eSl Zb v'4 at_6,eSl Zi v'11 l5]) ?_ ?_
   ·clear hp
    refine zR (fun st fr k=>match st with | (l4,d)=>∃ (v'10:V),fr 2 = .p r'1 0∧fr 6 = v'4∧fr 11 = v'10∧fr 12 = .n i1∧fr 13 = .i .u8 bits∧fr 14 = .n own∧fr 15 = .n d∧Own B h k [Zbw r'1 [v_z_At,v_z_Bits,v_z_Own],eSl Zb v'4 at_6,eSl Zi v'10 l4]) ho'6 (s:=(l3,0)) ⟨v'8,q'8_2,q'8_6,q'8_11,q'8_12,q'8_13,q'8_14,rfl,(hO'17.pick [0,1,2] rfl (by decide))⟩ ?_
    rintro ⟨l4,d⟩ q'10 k'18 ⟨v'10,q'10_2,q'10_6,q'10_11,q'10_12,q'10_13,q'10_14,q'10_15,hO'19⟩ o'10 hp
    dsimp only [Z9.s3] at hp
    refine Zk (Zk (Zo (Zf (.n d) q'10_15 (Zj (zL (a:=d) (b:=2) rfl rfl) (Zd (Zc ?_))))))
    rcases Zt hp with ⟨b'10,hp⟩ | ⟨b'10,hp⟩
    ·refine zK (t:=(decide (d < 2))) rfl b'10 ?_
     refine zN (Zc (Zk (Zas (Zk (Zo (Zf v'4 q'10_6 (Zf (.n i1) q'10_12 ?_)))))))
     refine Zf (.n d) q'10_15 ?_
     obtain ⟨x1,hx'2,hp⟩:=Zs hp
     obtain ⟨u'2,k'19,ca'2,rfl,hW'2⟩:=ZI.ok (h:=k'18)  (hO'19.sl 1 rfl) hx'2
     refine ZaN (id:=63) (caps:=[]) rfl (Zu (v:=v'4) rfl (Zu (v:=.n i1) rfl (Zu (v:=.n d) rfl zi))) ca'2 ?_
     have hO'20:=hO'19.call hW'2 rfl
     refine Zf (.n x1) rfl (Zd (Zc (Zk (Zk (Zo (Zf (.i .u8 bits) q'10_13 (Zf (.n d) q'10_15 ?_)))))))
     obtain ⟨c'13,hp⟩:=Zm hp
     refine Zj (Zeq (a:=bits) (b:=d) (v:=.i .u8 (Z3 .u8 bits d)) rfl rfl (by decide) (Zda c'13)) (Zj (Zdo (a:=(Z3 .u8 bits d)) (b:=1) (v:=.i .u8 (Zp .u8 (Z3 .u8 bits d) 1)) rfl rfl (by decide) rfl) (Zj (Zb2 (a:=(Zp .u8 (Z3 .u8 bits d) 1)) (b:=0) rfl rfl) (Zf (.b (decide (Zp .u8 (Z3 .u8 bits d) 1 = 0))) rfl ?_)))
     refine ZaF 3 (fun fr' k'=>k'19 = k'∧fr' 119 = .b ((decide (Zp .u8 (Z3 .u8 bits d) 1 = 0)) || (decide (x1 < 0)))∧fr' 11 = v'10∧fr' 12 = .n i1∧fr' 13 = .i .u8 bits∧fr' 14 = .n own∧fr' 15 = .n d∧fr' 16 = .n x1∧fr' 2 = .p r'1 0∧fr' 6 = v'4) ?_ ?_
     ·rcases bc (decide (Zp .u8 (Z3 .u8 bits d) 1 = 0)) with b'11 | b'11
      ·skip
       refine Z1 rfl b'11 (Z1 rfl b'11 (Zj (zn (t:=(decide (Zp .u8 (Z3 .u8 bits d) 1 = 0))) (v:=.b ((decide (Zp .u8 (Z3 .u8 bits d) 1 = 0)) || (decide (x1 < 0)))) rfl b'11 (Eq.trans (b:=V.b true) rfl (Zbz b'11))) (Zd ?_)))
       exact ⟨rfl,rfl,q'10_11,q'10_12,q'10_13,q'10_14,q'10_15,rfl,q'10_2,q'10_6⟩
      ·skip
       refine ZM rfl b'11 (Zf (.n x1) rfl (ZM rfl b'11 (Zj (zL (a:=x1) (b:=0) rfl rfl) (Zj (ze (t:=(decide (Zp .u8 (Z3 .u8 bits d) 1 = 0))) (v:=.b ((decide (Zp .u8 (Z3 .u8 bits d) 1 = 0)) || (decide (x1 < 0)))) rfl b'11 (Eq.trans (b:=V.b (decide (x1 < 0))) rfl (Zcf b'11))) (Zd ?_)))))
       exact ⟨rfl,rfl,q'10_11,q'10_12,q'10_13,q'10_14,q'10_15,rfl,q'10_2,q'10_6⟩
     rintro frg'3 _ ⟨rfl,g'3_119,g'3_11,g'3_12,g'3_13,g'3_14,g'3_15,g'3_16,g'3_2,g'3_6⟩
     refine Zd (Zc ?_)
     rcases Zt hp with ⟨b'12,hp⟩ | ⟨b'12,hp⟩
     ·refine zK (t:=((decide (Zp .u8 (Z3 .u8 bits d) 1 = 0)) || (decide (x1 < 0)))) g'3_119 b'12 ?_
      refine Zbp (zZ (ZaJ (Zc (Zo (Zf (.n d) g'3_15 ?_)))))
      obtain ⟨c'14,hp⟩:=Zm hp
      refine Zj (zH (a:=d) (b:=1) rfl rfl c'14) (Zf (.n (d + 1)) rfl (Zd ?_))
      cases hp
      exact (Or.inl ⟨(l4,d + 1),rfl,rfl,v'10,g'3_2,g'3_6,g'3_11,g'3_12,g'3_13,g'3_14,rfl,(hO'20.pick [0,1,2] rfl (by decide))⟩)
     ·refine zG (t:=((decide (Zp .u8 (Z3 .u8 bits d) 1 = 0)) || (decide (x1 < 0)))) g'3_119 b'12 ?_
      refine zN (Zc (Zk (Zo (Zf v'4 g'3_6 (Zf v'10 g'3_11 (Zf (.n i1) g'3_12 (Zf (.n x1) g'3_16 ?_)))))))
      obtain ⟨x2,hx'3,hp⟩:=Zs hp
      obtain ⟨u'3,k'20,ca'3,rfl,hW'3⟩:=ZH.ok (h:=k'19)  (hO'20.sl 1 rfl) (hO'20.sl 2 rfl) hx'3
      refine ZaN (id:=64) (caps:=[]) rfl (Zu (v:=v'4) rfl (Zu (v:=v'10) rfl (Zu (v:=.n i1) rfl (Zu (v:=.n x1) rfl zi)))) ca'3 ?_
      have hO'21:=hO'20.call hW'3 rfl
      refine Zf (.b x2) rfl (Zd (Zc (Zk (Zo (Zf (.b x2) rfl (Zj (Zdd (t:=x2) rfl) (Zd ?_)))))))
      refine Zc ?_
      rcases Zt hp with ⟨b'13,hp⟩ | ⟨b'13,hp⟩
      ·refine zK (t:=(!x2)) rfl b'13 ?_
       refine Zo (Zf v'10 g'3_11 (Zf (.n i1) g'3_12 (Zf (.n d) g'3_15 (Zf (.n x1) g'3_16 (Zf (.n own) g'3_14 ?_)))))
       obtain ⟨x3,hx'4,hp⟩:=Zs hp
       obtain ⟨u'4,k'21,ca'4,v'12,rfl,hW'4⟩:=zA.ok (h:=k'20)  (hO'21.sl 2 rfl) hx'4
       refine ZaN (id:=65) (caps:=[]) rfl (Zu (v:=v'10) rfl (Zu (v:=.n i1) rfl (Zu (v:=.n d) rfl (Zu (v:=.n x1) rfl (Zu (v:=.n own) rfl zi))))) ca'4 ?_
       have hO'22:=hO'21.call hW'4 rfl
       refine Zf v'12 rfl (Zd (Zan (Zc (Zo (Zf (.n d) g'3_15 ?_)))))
       obtain ⟨c'15,hp⟩:=Zm hp
       refine Zj (zH (a:=d) (b:=1) rfl rfl c'15) (Zf (.n (d + 1)) rfl (Zd ?_))
       cases hp
       exact (Or.inl ⟨(x3,d + 1),rfl,rfl,v'12,g'3_2,g'3_6,rfl,g'3_12,g'3_13,g'3_14,rfl,(hO'22.pick [0,1,3] rfl (by decide))⟩)
      ·refine zG (t:=(!x2)) rfl b'13 ?_
       refine zN (Zan (Zc (Zo (Zf (.n d) g'3_15 ?_))))
       obtain ⟨c'16,hp⟩:=Zm hp
       refine Zj (zH (a:=d) (b:=1) rfl rfl c'16) (Zf (.n (d + 1)) rfl (Zd ?_))
       cases hp
       exact (Or.inl ⟨(l4,d + 1),rfl,rfl,v'10,g'3_2,g'3_6,g'3_11,g'3_12,g'3_13,g'3_14,rfl,(hO'21.pick [0,1,2] rfl (by decide))⟩)
    ·refine zG (t:=(decide (d < 2))) rfl b'10 ?_
     refine Zbp (zZ ?_)
     cases hp
     refine (Or.inr ⟨l4,rfl,(fun h=>nomatch h),(fun he=>?_)⟩)
     subst he; exact ⟨rfl,v'10,q'10_2,q'10_6,q'10_11,q'10_12,(hO'19.pick [0,1,2] rfl (by decide))⟩
   intro e'6 q'9 k'17 hJ'6
   obtain ⟨l5,rfl⟩:∃ x,x = o'9:=⟨_,rfl⟩
   obtain ⟨rfl,v'11,q'9_2,q'9_6,q'9_11,q'9_12,hO'18⟩:=hJ'6
   refine ZaJ (Zan (Zc (Zo (Zf (.n i1) q'9_12 ?_))))
   obtain ⟨c'17,hp⟩:=Zm hp
   refine Zj (zH (a:=i1) (b:=1) rfl rfl c'17) (Zf (.n (i1 + 1)) rfl (Zd ?_))
   cases hp
   exact (Or.inl ⟨(at_6,l5,i1 + 1),rfl,rfl,v'11,q'9_2,q'9_6,q'9_11,rfl,(hO'18.pick [0,1,2] rfl (by decide))⟩)
  ·refine zG (t:=(decide (i1 < (at_3.length:Int)))) rfl b'6 ?_
   refine Zbp (zZ ?_)
   cases hp
   refine (Or.inr ⟨(at_3,l),rfl,(fun h=>nomatch h),(fun he=>?_)⟩)
   subst he; exact ⟨rfl,v'8,q'6_6,q'6_11,(hO'15.pick [1,2] rfl (by decide))⟩
 intro e'3 q'5 k'13 hJ'3
 obtain ⟨at_4,l1⟩:=o'5
 obtain ⟨rfl,v'9,q'5_6,q'5_11,hO'14⟩:=hJ'3
 refine ZaJ (Zc (Zk (Zo (Zf v'9 q'5_11 (Zf v'4 q'5_6 (Zf v'9 rfl (Zf v'4 rfl ?_)))))))
 refine Zd (Zc (zY (zx (zC (n:=4) (v:=v'9) rfl (zC (n:=5) (v:=v'4) rfl ZS)) ?_)))
 cases hp
 exact ⟨v'9,v'4,rfl,(hO'14.pick [1,0] rfl (by decide))⟩

theorem Za2.ok {h:Hp} {d:Int}   {r:Bool} (hp:Za2 d = some r) :
  ∃ u k',Is G 90 [.n d] h u k'∧V.b r = u∧Own (fun r=>r < h.n) h k' []:=by
 refine WC.is (Za7 Zdx ?_)
 unfold Za2 at hp
 let B:Nat→Prop:=(fun r=>r < h.n)
 have hO:Own B h h []:=Own.start0 h
 refine Zk (Zo (Zf (.b false) rfl (Zd (Zc (Zk (Zo (Zf (.n d) rfl ?_)))))))
 refine Zj (Zcy (a:=d) (b:=0) rfl rfl) (Zf (.b (decide (0≤d))) rfl ?_)
 refine ZaF 3 (fun fr' k'=>h = k'∧fr' 8 = .b ((decide (0≤d)) && (decide (d≤3)))) ?_ ?_
 ·rcases bc (decide (0≤d)) with b'1 | b'1
  ·skip
   refine ZM rfl b'1 (Zf (.n d) rfl (ZM rfl b'1 (Zj (ZkU (a:=d) (b:=3) rfl rfl) (Zj (zn (t:=(decide (0≤d))) (v:=.b ((decide (0≤d)) && (decide (d≤3)))) rfl b'1 (Eq.trans (b:=V.b (decide (d≤3))) rfl (Zf5 b'1))) (Zd ?_)))))
   exact ⟨rfl,rfl⟩
  ·skip
   refine Z1 rfl b'1 (Z1 rfl b'1 (Zj (ze (t:=(decide (0≤d))) (v:=.b ((decide (0≤d)) && (decide (d≤3)))) rfl b'1 (Eq.trans (b:=V.b false) rfl (ZeA b'1))) (Zd ?_)))
   exact ⟨rfl,rfl⟩
 rintro frg'1 _ ⟨rfl,g'1_8⟩
 refine Zf (.b ((decide (0≤d)) && (decide (d≤3)))) g'1_8 (Zd (Zc (zY (zx (zC (n:=2) (v:=.b ((decide (0≤d)) && (decide (d≤3)))) rfl ZS) ?_))))
 cases hp
 exact ⟨rfl,(hO.pick [] rfl (by decide))⟩

theorem Za3.ok {h:Hp} {d:Int} {times:Int}   {r:Int} (hp:Za3 d times = some r) :
  ∃ u k',Is G 77 [.n d,.n times] h u k'∧V.n r = u∧Own (fun r=>r < h.n) h k' []:=by
 refine WC.is (Za7 Zdy ?_)
 unfold Za3 at hp
 let B:Nat→Prop:=(fun r=>r < h.n)
 have hO:Own B h h []:=Own.start0 h
 refine Zk (Zo (Zf (.n 0) rfl (Zd (Zc (Zk (Zk (Zo ?_)))))))
 refine Zf (.n d) rfl ?_
 obtain ⟨x,hx'1,hp⟩:=Zs hp
 obtain ⟨u'1,k'1,ca'1,rfl,hW'1⟩:=Za2.ok (h:=h)   hx'1
 refine ZaN (id:=90) (caps:=[]) rfl (Zu (v:=.n d) rfl zi) ca'1 ?_
 have hO'1:=hO.call hW'1 rfl
 refine Zj (Zdd (t:=x) rfl) (Zd (Zc ?_))
 rcases Zt hp with ⟨b'1,hp⟩ | ⟨b'1,hp⟩
 ·refine zK (t:=(!x)) rfl b'1 ?_
  refine Zk (Zo (Zf (.n 0) rfl (Zd (Zc (zY (z5 (zx (zC (n:=4) (v:=.n 0) rfl ZS) ?_)))))))
  cases hp
  exact ⟨rfl,(hO'1.pick [] rfl (by decide))⟩
 ·refine zG (t:=(!x)) rfl b'1 ?_
  refine zN (Zc (Zk (Zo (Zf (.n d) rfl (Zf (.n times) rfl (Zj (ZdR (a:=times) (b:=4) rfl rfl (by decide)) ?_))))))
  obtain ⟨c'1,hp⟩:=Zm hp
  refine Zj (zH (a:=d) (b:=(times.tmod 4)) rfl rfl c'1) ?_
  obtain ⟨c'2,hp⟩:=Zm hp
  refine Zj (zH (a:=(d + (times.tmod 4))) (b:=4) rfl rfl c'2) (Zj (ZdR (a:=((d + (times.tmod 4)) + 4)) (b:=4) rfl rfl (by decide)) (Zf (.n (((d + (times.tmod 4)) + 4).tmod 4)) rfl (Zd (Zc (zY (zx (zC (n:=4) (v:=.n (((d + (times.tmod 4)) + 4).tmod 4)) rfl ZS) ?_))))))
  cases hp
  exact ⟨rfl,(hO'1.pick [] rfl (by decide))⟩

theorem ZbS.ok {h:Hp} {cells:List Za} {v:Int} {d:Int} {v_cells:V} (s_cells:Sl Zi h v_cells cells) {r:Int} (hp:ZbS cells v d = some r) :
  ∃ u k',Is G 82 [v_cells,.n v,.n d] h u k'∧V.n r = u∧Own (fun r=>r < h.n) h k' []:=by
 refine WC.is (Za7 Zeu ?_)
 unfold ZbS at hp
 let B:Nat→Prop:=(fun r=>r < h.n)
 have hO:Own B h h []:=Own.start0 h
 refine Zk (Zo (Zf (.n 0) rfl (Zd (Zc (Zk (Zh5 ?_))))))
 have hW:=hO.bump 16
 have hO'1:=hW
 refine Zap v_cells rfl (Zap (.n v) rfl (Zap (.n d) rfl ?_))
 obtain ⟨c'1,hp⟩:=Zm hp
 refine ZU rfl (zq (E:=Zi) (z:=v) (hO'1.rd0 s_cells.rd) rfl rfl c'1) (ZU rfl (Zax (off':=0) (off2:=0) (hO'1.rd0 s_cells.rd) (Zl c'1) rfl rfl) ?_)
 obtain ⟨c'2,hp⟩:=Zm hp
 refine ZU rfl (Zb3 (off:=0) (off2:=(0 + d.toNat * 1)) (z:=d) (hO'1.rd0 s_cells.rd) (Zl c'1) rfl rfl c'2 rfl) (ZU rfl (zO (w:=.n (((gi cells v.toNat).Next).get d)) (hO'1.rd0 s_cells.rd) rfl (Zl c'1) (zI c'2)) (Zap v_cells rfl (Zap (.n v) rfl (Zap (.n d) rfl (ZU rfl (zq (E:=Zi) (z:=v) (hO'1.rd0 s_cells.rd) rfl rfl c'1) (ZU rfl (Zax (off':=0) (off2:=4) (hO'1.rd0 s_cells.rd) (Zl c'1) rfl rfl) (ZU rfl (Zb3 (off:=4) (off2:=(4 + d.toNat * 1)) (z:=d) (hO'1.rd0 s_cells.rd) (Zl c'1) rfl rfl c'2 rfl) ?_)))))))
 refine ZU rfl (zO (w:=.n (((gi cells v.toNat).Owner).get d)) (hO'1.rd0 s_cells.rd) rfl (Zl c'1) (Zb5 c'2)) (Zap (.n (((gi cells v.toNat).Next).get d)) rfl (Zap (.n (((gi cells v.toNat).Owner).get d)) rfl (Zab (Zc (Zk (Zk (Zo ?_)))))))
 refine Zf (.n (((gi cells v.toNat).Next).get d)) rfl (Zj (Zb2 (a:=(((gi cells v.toNat).Next).get d)) (b:=(-1)) rfl rfl) (Zd (Zc ?_)))
 rcases Zt hp with ⟨b'1,hp⟩ | ⟨b'1,hp⟩
 ·refine zK (t:=(decide (((gi cells v.toNat).Next).get d = (-1)))) rfl b'1 ?_
  refine Zk (Zk (Zo (Zf (.n (((gi cells v.toNat).Owner).get d)) rfl (Zj (ZcM (a:=(((gi cells v.toNat).Owner).get d)) (b:=0) rfl rfl) (Zd (Zc ?_))))))
  rcases Zt hp with ⟨b'2,hp⟩ | ⟨b'2,hp⟩
  ·refine zK (t:=(!(decide (((gi cells v.toNat).Owner).get d = 0)))) rfl b'2 ?_
   refine Zk (Zo (Zf (.n 9) rfl (Zd (Zc (zY (z5 (z5 ?_)))))))
   refine zx (zC (n:=6) (v:=.n 9) rfl ZS) ?_
   cases hp
   exact ⟨rfl,(hO'1.pick [] rfl (by decide))⟩
  ·refine zG (t:=(!(decide (((gi cells v.toNat).Owner).get d = 0)))) rfl b'2 ?_
   refine zN (Zc (Zk (Zo (Zf (.n 0) rfl (Zd (Zc (zY ?_)))))))
   refine z5 (zx (zC (n:=6) (v:=.n 0) rfl ZS) ?_)
   cases hp
   exact ⟨rfl,(hO'1.pick [] rfl (by decide))⟩
 ·refine zG (t:=(decide (((gi cells v.toNat).Next).get d = (-1)))) rfl b'1 ?_
  refine zN (Zc (Zk (Zk (Zo (Zf (.n (((gi cells v.toNat).Next).get d)) rfl (Zj (zL (a:=(((gi cells v.toNat).Next).get d)) (b:=0) rfl rfl) (Zf (.b (decide ((((gi cells v.toNat).Next).get d) < 0))) rfl ?_)))))))
  refine ZaF 5 (fun fr' k'=>(h.bump 16) = k'∧fr' 35 = .b ((decide ((((gi cells v.toNat).Next).get d) < 0)) || (decide ((cells.length:Int)≤(((gi cells v.toNat).Next).get d))))∧fr' 0 = v_cells∧fr' 1 = .n v∧fr' 2 = .n d∧fr' 7 = .n (((gi cells v.toNat).Next).get d)∧fr' 8 = .n (((gi cells v.toNat).Owner).get d)) ?_ ?_
  ·rcases bc (decide ((((gi cells v.toNat).Next).get d) < 0)) with b'3 | b'3
   ·skip
    refine Z1 rfl b'3 (Z1 rfl b'3 (Z1 rfl b'3 (Z1 rfl b'3 (Zj (zn (t:=(decide ((((gi cells v.toNat).Next).get d) < 0))) (v:=.b ((decide ((((gi cells v.toNat).Next).get d) < 0)) || (decide ((cells.length:Int)≤(((gi cells v.toNat).Next).get d))))) rfl b'3 (Eq.trans (b:=V.b true) rfl (Zbz b'3))) (Zd ?_)))))
    exact ⟨rfl,rfl,rfl,rfl,rfl,rfl,rfl⟩
   ·skip
    refine ZM rfl b'3 (Zf (.n (((gi cells v.toNat).Next).get d)) rfl (ZM rfl b'3 (Zf v_cells rfl (ZM rfl b'3 (Zj (Za0 (hO'1.rd0 s_cells.rd) rfl) (ZM rfl b'3 (Zj (Zcy (a:=(((gi cells v.toNat).Next).get d)) (b:=(cells.length:Int)) rfl rfl) ?_)))))))
    refine Zj (ze (t:=(decide ((((gi cells v.toNat).Next).get d) < 0))) (v:=.b ((decide ((((gi cells v.toNat).Next).get d) < 0)) || (decide ((cells.length:Int)≤(((gi cells v.toNat).Next).get d))))) rfl b'3 (Eq.trans (b:=V.b (decide ((cells.length:Int)≤(((gi cells v.toNat).Next).get d)))) rfl (Zcf b'3))) (Zd ?_)
    exact ⟨rfl,rfl,rfl,rfl,rfl,rfl,rfl⟩
  rintro frg'1 _ ⟨rfl,g'1_35,g'1_0,g'1_1,g'1_2,g'1_7,g'1_8⟩
  refine Zf (.b ((decide ((((gi cells v.toNat).Next).get d) < 0)) || (decide ((cells.length:Int)≤(((gi cells v.toNat).Next).get d))))) g'1_35 ?_
  refine ZaF 4 (fun fr' k'=>(h.bump 16) = k'∧fr' 40 = .b (((decide ((((gi cells v.toNat).Next).get d) < 0)) || (decide ((cells.length:Int)≤(((gi cells v.toNat).Next).get d)))) || (decide (((gi cells v.toNat).Next).get d = v)))∧fr' 0 = v_cells∧fr' 1 = .n v∧fr' 2 = .n d∧fr' 7 = .n (((gi cells v.toNat).Next).get d)∧fr' 8 = .n (((gi cells v.toNat).Owner).get d)) ?_ ?_
  ·rcases bc ((decide ((((gi cells v.toNat).Next).get d) < 0)) || (decide ((cells.length:Int)≤(((gi cells v.toNat).Next).get d)))) with b'4 | b'4
   ·skip
    refine Z1 rfl b'4 (Z1 rfl b'4 (Z1 rfl b'4 (Zj (zn (t:=((decide ((((gi cells v.toNat).Next).get d) < 0)) || (decide ((cells.length:Int)≤(((gi cells v.toNat).Next).get d))))) (v:=.b (((decide ((((gi cells v.toNat).Next).get d) < 0)) || (decide ((cells.length:Int)≤(((gi cells v.toNat).Next).get d)))) || (decide (((gi cells v.toNat).Next).get d = v)))) rfl b'4 (Eq.trans (b:=V.b true) rfl (Zbz b'4))) (Zd ?_))))
    exact ⟨rfl,rfl,g'1_0,g'1_1,g'1_2,g'1_7,g'1_8⟩
   ·skip
    refine ZM rfl b'4 (Zf (.n (((gi cells v.toNat).Next).get d)) g'1_7 (ZM rfl b'4 (Zf (.n v) g'1_1 (ZM rfl b'4 (Zj (Zb2 (a:=(((gi cells v.toNat).Next).get d)) (b:=v) rfl rfl) (Zj (ze (t:=((decide ((((gi cells v.toNat).Next).get d) < 0)) || (decide ((cells.length:Int)≤(((gi cells v.toNat).Next).get d))))) (v:=.b (((decide ((((gi cells v.toNat).Next).get d) < 0)) || (decide ((cells.length:Int)≤(((gi cells v.toNat).Next).get d)))) || (decide (((gi cells v.toNat).Next).get d = v)))) rfl b'4 (Eq.trans (b:=V.b (decide (((gi cells v.toNat).Next).get d = v))) rfl (Zcf b'4))) (Zd ?_)))))))
    exact ⟨rfl,rfl,g'1_0,g'1_1,g'1_2,g'1_7,g'1_8⟩
  rintro frg'2 _ ⟨rfl,g'2_40,g'2_0,g'2_1,g'2_2,g'2_7,g'2_8⟩
  refine Zd (Zc ?_)
  rcases Zt hp with ⟨b'5,hp⟩ | ⟨b'5,hp⟩
  ·refine zK (t:=(((decide ((((gi cells v.toNat).Next).get d) < 0)) || (decide ((cells.length:Int)≤(((gi cells v.toNat).Next).get d)))) || (decide (((gi cells v.toNat).Next).get d = v)))) g'2_40 b'5 ?_
   refine Zk (Zo (Zf (.n 3) rfl (Zd (Zc (zY (z5 (zx (zC (n:=6) (v:=.n 3) rfl ZS) ?_)))))))
   cases hp
   exact ⟨rfl,(hO'1.pick [] rfl (by decide))⟩
  ·refine zG (t:=(((decide ((((gi cells v.toNat).Next).get d) < 0)) || (decide ((cells.length:Int)≤(((gi cells v.toNat).Next).get d)))) || (decide (((gi cells v.toNat).Next).get d = v)))) g'2_40 b'5 ?_
   refine zN (Zc (Zk (Zo (Zf (.n d) g'2_2 ?_))))
   obtain ⟨x,hx'1,hp⟩:=Zs hp
   obtain ⟨u'1,k'2,ca'1,rfl,hW'1⟩:=Za3.ok (h:=(h.bump 16))   hx'1
   refine ZaN (id:=77) (caps:=[]) rfl (Zu (v:=.n d) rfl (Zu (v:=.n 2) rfl zi)) ca'1 ?_
   have hO'2:=hO'1.call hW'1 rfl
   refine Zf (.n x) rfl (Zd (Zc (Zk (Zk (Zo (Zf v_cells g'2_0 (Zf (.n (((gi cells v.toNat).Next).get d)) g'2_7 ?_)))))))
   refine Zf (.n x) rfl ?_
   obtain ⟨c'3,hp⟩:=Zm hp
   refine Zj (zq (E:=Zi) (z:=(((gi cells v.toNat).Next).get d)) (hO'2.rd0 s_cells.rd) rfl rfl c'3) (Zj (Zax (off':=0) (off2:=0) (hO'2.rd0 s_cells.rd) (Zl c'3) rfl rfl) ?_)
   obtain ⟨c'4,hp⟩:=Zm hp
   refine Zj (Zb3 (off:=0) (off2:=(0 + x.toNat * 1)) (z:=x) (hO'2.rd0 s_cells.rd) (Zl c'3) rfl rfl c'4 rfl) (Zj (zO (w:=.n (((gi cells (((gi cells v.toNat).Next).get d:Int).toNat).Next).get x)) (hO'2.rd0 s_cells.rd) rfl (Zl c'3) (zI c'4)) (Zf (.n v) g'2_1 (Zj (ZcM (a:=(((gi cells (((gi cells v.toNat).Next).get d:Int).toNat).Next).get x)) (b:=v) rfl rfl) (Zf (.b (!(decide (((gi cells (((gi cells v.toNat).Next).get d:Int).toNat).Next).get x = v)))) rfl ?_))))
   refine ZaF 10 (fun fr' k'=>k'2 = k'∧fr' 62 = .b ((!(decide (((gi cells (((gi cells v.toNat).Next).get d:Int).toNat).Next).get x = v))) || (!(decide (((gi cells (((gi cells v.toNat).Next).get d:Int).toNat).Owner).get x = ((gi cells v.toNat).Owner).get d))))∧fr' 8 = .n (((gi cells v.toNat).Owner).get d)) ?_ ?_
   ·rcases bc (!(decide (((gi cells (((gi cells v.toNat).Next).get d:Int).toNat).Next).get x = v))) with b'6 | b'6
    ·skip
     refine Z1 rfl b'6 (Z1 rfl b'6 (Z1 rfl b'6 (Z1 rfl b'6 (Z1 rfl b'6 (Z1 rfl b'6 (Z1 rfl b'6 (Z1 rfl b'6 ?_)))))))
     refine Z1 rfl b'6 (Zj (zn (t:=(!(decide (((gi cells (((gi cells v.toNat).Next).get d:Int).toNat).Next).get x = v)))) (v:=.b ((!(decide (((gi cells (((gi cells v.toNat).Next).get d:Int).toNat).Next).get x = v))) || (!(decide (((gi cells (((gi cells v.toNat).Next).get d:Int).toNat).Owner).get x = ((gi cells v.toNat).Owner).get d))))) rfl b'6 (Eq.trans (b:=V.b true) rfl (Zbz b'6))) (Zd ?_))
     exact ⟨rfl,rfl,g'2_8⟩
    ·skip
     refine ZM rfl b'6 (Zf v_cells g'2_0 (ZM rfl b'6 (Zf (.n (((gi cells v.toNat).Next).get d)) g'2_7 (ZM rfl b'6 (Zf (.n x) rfl (ZM rfl b'6 (Zj (zq (E:=Zi) (z:=(((gi cells v.toNat).Next).get d)) (hO'2.rd0 s_cells.rd) rfl rfl c'3) ?_)))))))
     refine ZM rfl b'6 (Zj (Zax (off':=0) (off2:=4) (hO'2.rd0 s_cells.rd) (Zl c'3) rfl rfl) (ZM rfl b'6 (Zj (Zb3 (off:=4) (off2:=(4 + x.toNat * 1)) (z:=x) (hO'2.rd0 s_cells.rd) (Zl c'3) rfl rfl c'4 rfl) (ZM rfl b'6 (Zj (zO (w:=.n (((gi cells (((gi cells v.toNat).Next).get d:Int).toNat).Owner).get x)) (hO'2.rd0 s_cells.rd) rfl (Zl c'3) (Zb5 c'4)) (ZM rfl b'6 (Zf (.n (((gi cells v.toNat).Owner).get d)) g'2_8 ?_)))))))
     refine ZM rfl b'6 (Zj (ZcM (a:=(((gi cells (((gi cells v.toNat).Next).get d:Int).toNat).Owner).get x)) (b:=(((gi cells v.toNat).Owner).get d)) rfl rfl) (Zj (ze (t:=(!(decide (((gi cells (((gi cells v.toNat).Next).get d:Int).toNat).Next).get x = v)))) (v:=.b ((!(decide (((gi cells (((gi cells v.toNat).Next).get d:Int).toNat).Next).get x = v))) || (!(decide (((gi cells (((gi cells v.toNat).Next).get d:Int).toNat).Owner).get x = ((gi cells v.toNat).Owner).get d))))) rfl b'6 (Eq.trans (b:=V.b (!(decide (((gi cells (((gi cells v.toNat).Next).get d:Int).toNat).Owner).get x = ((gi cells v.toNat).Owner).get d)))) rfl (Zcf b'6))) (Zd ?_)))
     exact ⟨rfl,rfl,g'2_8⟩
   rintro frg'3 _ ⟨rfl,g'3_62,g'3_8⟩
   refine Zf (.b ((!(decide (((gi cells (((gi cells v.toNat).Next).get d:Int).toNat).Next).get x = v))) || (!(decide (((gi cells (((gi cells v.toNat).Next).get d:Int).toNat).Owner).get x = ((gi cells v.toNat).Owner).get d))))) g'3_62 ?_
   refine ZaF 3 (fun fr' k'=>k'2 = k'∧fr' 66 = .b (((!(decide (((gi cells (((gi cells v.toNat).Next).get d:Int).toNat).Next).get x = v))) || (!(decide (((gi cells (((gi cells v.toNat).Next).get d:Int).toNat).Owner).get x = ((gi cells v.toNat).Owner).get d)))) || (decide ((((gi cells v.toNat).Owner).get d) < (-2))))) ?_ ?_
   ·rcases bc ((!(decide (((gi cells (((gi cells v.toNat).Next).get d:Int).toNat).Next).get x = v))) || (!(decide (((gi cells (((gi cells v.toNat).Next).get d:Int).toNat).Owner).get x = ((gi cells v.toNat).Owner).get d)))) with b'7 | b'7
    ·skip
     refine Z1 rfl b'7 (Z1 rfl b'7 (Zj (zn (t:=((!(decide (((gi cells (((gi cells v.toNat).Next).get d:Int).toNat).Next).get x = v))) || (!(decide (((gi cells (((gi cells v.toNat).Next).get d:Int).toNat).Owner).get x = ((gi cells v.toNat).Owner).get d))))) (v:=.b (((!(decide (((gi cells (((gi cells v.toNat).Next).get d:Int).toNat).Next).get x = v))) || (!(decide (((gi cells (((gi cells v.toNat).Next).get d:Int).toNat).Owner).get x = ((gi cells v.toNat).Owner).get d)))) || (decide ((((gi cells v.toNat).Owner).get d) < (-2))))) rfl b'7 (Eq.trans (b:=V.b true) rfl (Zbz b'7))) (Zd ?_)))
     exact ⟨rfl,rfl⟩
    ·skip
     refine ZM rfl b'7 (Zf (.n (((gi cells v.toNat).Owner).get d)) g'3_8 (ZM rfl b'7 (Zj (zL (a:=(((gi cells v.toNat).Owner).get d)) (b:=(-2)) rfl rfl) (Zj (ze (t:=((!(decide (((gi cells (((gi cells v.toNat).Next).get d:Int).toNat).Next).get x = v))) || (!(decide (((gi cells (((gi cells v.toNat).Next).get d:Int).toNat).Owner).get x = ((gi cells v.toNat).Owner).get d))))) (v:=.b (((!(decide (((gi cells (((gi cells v.toNat).Next).get d:Int).toNat).Next).get x = v))) || (!(decide (((gi cells (((gi cells v.toNat).Next).get d:Int).toNat).Owner).get x = ((gi cells v.toNat).Owner).get d)))) || (decide ((((gi cells v.toNat).Owner).get d) < (-2))))) rfl b'7 (Eq.trans (b:=V.b (decide ((((gi cells v.toNat).Owner).get d) < (-2)))) rfl (Zcf b'7))) (Zd ?_)))))
     exact ⟨rfl,rfl⟩
   rintro frg'4 _ ⟨rfl,g'4_66⟩
   refine Zd (Zc ?_)
   rcases Zt hp with ⟨b'8,hp⟩ | ⟨b'8,hp⟩
   ·refine zK (t:=(((!(decide (((gi cells (((gi cells v.toNat).Next).get d:Int).toNat).Next).get x = v))) || (!(decide (((gi cells (((gi cells v.toNat).Next).get d:Int).toNat).Owner).get x = ((gi cells v.toNat).Owner).get d)))) || (decide ((((gi cells v.toNat).Owner).get d) < (-2))))) g'4_66 b'8 ?_
    refine Zk (Zo (Zf (.n 9) rfl (Zd (Zc (zY (z5 (zx (zC (n:=6) (v:=.n 9) rfl ZS) ?_)))))))
    cases hp
    exact ⟨rfl,(hO'2.pick [] rfl (by decide))⟩
   ·refine zG (t:=(((!(decide (((gi cells (((gi cells v.toNat).Next).get d:Int).toNat).Next).get x = v))) || (!(decide (((gi cells (((gi cells v.toNat).Next).get d:Int).toNat).Owner).get x = ((gi cells v.toNat).Owner).get d)))) || (decide ((((gi cells v.toNat).Owner).get d) < (-2))))) g'4_66 b'8 ?_
    refine zN (Zc (Zk (Zo (Zf (.n 0) rfl (Zd (Zc (zY ?_)))))))
    refine zx (zC (n:=6) (v:=.n 0) rfl ZS) ?_
    cases hp
    exact ⟨rfl,(hO'2.pick [] rfl (by decide))⟩

theorem zg.ok {h:Hp} {cells:List Za} {v_cells:V} (s_cells:Sl Zi h v_cells cells) {r:Int} (hp:zg cells = some r) :
  ∃ u k',Is G 66 [v_cells] h u k'∧V.n r = u∧Own (fun r=>r < h.n) h k' []:=by
 refine WC.is (Za7 ZdZ ?_)
 unfold zg at hp
 let B:Nat→Prop:=(fun r=>r < h.n)
 have hO:Own B h h []:=Own.start0 h
 refine Zk (Zo (Zf (.n 0) rfl (Zd (Zc (Zk (Zk (Zo ?_)))))))
 refine Zf v_cells rfl (Zj (Za0 (hO.rd0 s_cells.rd) rfl) (Zj (ZdQ (a:=(cells.length:Int)) (b:=4096) rfl rfl) (Zd (Zc ?_))))
 rcases Zt hp with ⟨b'1,hp⟩ | ⟨b'1,hp⟩
 ·refine zK (t:=(decide (4096 < (cells.length:Int)))) rfl b'1 ?_
  refine Zk (Zo (Zf (.n 6) rfl (Zd (Zc (zY (z5 (zx (zC (n:=2) (v:=.n 6) rfl ZS) ?_)))))))
  cases hp
  exact ⟨rfl,(hO.pick [] rfl (by decide))⟩
 ·refine zG (t:=(decide (4096 < (cells.length:Int)))) rfl b'1 ?_
  refine zN (Zc (Zk (Zk (Zo (Zf v_cells rfl (Zj (Za0 (hO.rd0 s_cells.rd) rfl) (Zf (.n 0) rfl ?_)))))))
  refine Zd (Zc (Zas ?_))
  obtain ⟨o'1,ho'1,hp⟩:=Zs hp
  refine W.mono (Q:=fun e fr k=>match (generalizing:=false) o'1 with
    | .inl _=>e = (.exit 0)∧Own B h k []
    | .inr x1=>e = .ret∧fr 2 = .n x1∧Own B h k []) ?_ ?_
  ·clear hp
   refine zR (fun st fr k=>match st with | x=>fr 0 = v_cells∧fr 10 = .n (cells.length:Int)∧fr 11 = .n x∧Own B h k []) ho'1 (s:=0) ⟨rfl,rfl,rfl,(hO.pick [] rfl (by decide))⟩ ?_
   rintro x q'2 k'2 ⟨q'2_0,q'2_10,q'2_11,hO'2⟩ o'2 hp
   dsimp only [zg.s0] at hp
   refine Zk (Zo (Zj (zL (a:=x) (b:=(cells.length:Int)) q'2_11 q'2_10) (Zd (Zc (Zk ?_)))))
   rcases Zt hp with ⟨b'2,hp⟩ | ⟨b'2,hp⟩
   ·refine zK (t:=(decide (x < (cells.length:Int)))) rfl b'2 ?_
    refine zN (Zc (Zk (Zas (Zk (Zo (Zf (.n x) q'2_11 (Zf (.n x) rfl ?_)))))))
    refine Zd (Zc (Zk (Zo (Zf (.n 0) rfl (Zd (Zc (Zas ?_)))))))
    obtain ⟨o'3,ho'2,hp⟩:=Zs hp
    refine W.mono (Q:=fun e fr k=>match (generalizing:=false) o'3 with
      | .inl _=>e = (.exit 2)∧fr 0 = v_cells∧fr 10 = .n (cells.length:Int)∧fr 11 = .n x∧Own B h k []
      | .inr x3=>e = .ret∧fr 2 = .n x3∧Own B h k []) ?_ ?_
    ·clear hp
     refine zR (fun st fr k=>match st with | x2=>fr 0 = v_cells∧fr 3 = .n x∧fr 10 = .n (cells.length:Int)∧fr 11 = .n x∧fr 14 = .n x2∧Own B h k []) ho'2 (s:=0) ⟨q'2_0,rfl,q'2_10,q'2_11,rfl,(hO'2.pick [] rfl (by decide))⟩ ?_
     rintro x2 q'4 k'4 ⟨q'4_0,q'4_3,q'4_10,q'4_11,q'4_14,hO'4⟩ o'4 hp
     dsimp only [zg.s1] at hp
     refine Zk (Zo (Zj (zL (a:=x2) (b:=4) q'4_14 rfl) (Zd (Zc (Zk ?_)))))
     rcases Zt hp with ⟨b'3,hp⟩ | ⟨b'3,hp⟩
     ·refine zK (t:=(decide (x2 < 4))) rfl b'3 ?_
      refine zN (Zc (Zk (Zas (Zk (Zo (Zf (.n x2) q'4_14 (Zf (.n x2) rfl ?_)))))))
      refine Zd (Zc (Zk (Zo (Zf v_cells q'4_0 (Zf (.n x) q'4_3 (Zf (.n x2) rfl ?_))))))
      obtain ⟨x4,hx'1,hp⟩:=Zs hp
      obtain ⟨u'1,k'5,ca'1,rfl,hW'1⟩:=ZbS.ok (h:=k'4)  (hO'4.rd0 s_cells.rd) hx'1
      refine ZaN (id:=82) (caps:=[]) rfl (Zu (v:=v_cells) rfl (Zu (v:=.n x) rfl (Zu (v:=.n x2) rfl zi))) ca'1 ?_
      have hO'5:=hO'4.call hW'1 rfl
      refine Zf (.n x4) rfl (Zd (Zc (Zk (Zo (Zf (.n x4) rfl (Zj (ZcM (a:=x4) (b:=0) rfl rfl) (Zd ?_)))))))
      refine Zc ?_
      rcases Zt hp with ⟨b'4,hp⟩ | ⟨b'4,hp⟩
      ·refine zK (t:=(!(decide (x4 = 0)))) rfl b'4 ?_
       refine Zk (Zo (Zf (.n x4) rfl (Zf (.n x4) rfl (Zd (Zc (zY (Zbd ?_)))))))
       refine z5 ?_
       cases hp
       refine (Or.inr ⟨.inr x4,rfl,(fun h=>nomatch h),(fun he=>?_)⟩)
       subst he; exact ⟨rfl,rfl,(hO'5.pick [] rfl (by decide))⟩
      ·refine zG (t:=(!(decide (x4 = 0)))) rfl b'4 ?_
       refine zN (Zan (Zc (Zo ?_)))
       obtain ⟨c'1,hp⟩:=Zm hp
       refine Zj (zH (a:=x2) (b:=1) q'4_14 rfl c'1) (Zf (.n (x2 + 1)) rfl (Zd ?_))
       cases hp
       exact (Or.inl ⟨x2 + 1,rfl,rfl,q'4_0,q'4_3,q'4_10,q'4_11,rfl,(hO'5.pick [] rfl (by decide))⟩)
     ·refine zG (t:=(decide (x2 < 4))) rfl b'3 ?_
      refine Zbp (zZ ?_)
      cases hp
      refine (Or.inr ⟨.inl (),rfl,(fun h=>nomatch h),(fun he=>?_)⟩)
      subst he; exact ⟨rfl,q'4_0,q'4_10,q'4_11,(hO'4.pick [] rfl (by decide))⟩
    intro e'2 q'3 k'3 hJ'2
    rcases o'3 with _ | x3
    ·obtain ⟨rfl,q'3_0,q'3_10,q'3_11,hO'3⟩:=hJ'2
     refine ZaJ (Zan (Zc (Zo ?_)))
     obtain ⟨c'2,hp⟩:=Zm hp
     refine Zj (zH (a:=x) (b:=1) q'3_11 rfl c'2) (Zf (.n (x + 1)) rfl (Zd ?_))
     cases hp
     exact (Or.inl ⟨x + 1,rfl,rfl,q'3_0,q'3_10,rfl,(hO'3.pick [] rfl (by decide))⟩)
    ·obtain ⟨rfl,q'3_2,hO'3⟩:=hJ'2
     refine Zbd (Zbd (z5 ?_))
     cases hp
     refine (Or.inr ⟨.inr x3,rfl,(fun h=>nomatch h),(fun he=>?_)⟩)
     subst he; exact ⟨rfl,q'3_2,(hO'3.pick [] rfl (by decide))⟩
   ·refine zG (t:=(decide (x < (cells.length:Int)))) rfl b'2 ?_
    refine Zbp (zZ ?_)
    cases hp
    refine (Or.inr ⟨.inl (),rfl,(fun h=>nomatch h),(fun he=>?_)⟩)
    subst he; exact ⟨rfl,(hO'2.pick [] rfl (by decide))⟩
  intro e'1 q'1 k'1 hJ'1
  rcases o'1 with _ | x1
  ·obtain ⟨rfl,hO'1⟩:=hJ'1
   refine ZaJ (Zc (Zk (Zo (Zf (.n 0) rfl (Zd (Zc (zY ?_)))))))
   refine zx (zC (n:=2) (v:=.n 0) rfl ZS) ?_
   cases hp
   exact ⟨rfl,(hO'1.pick [] rfl (by decide))⟩
  ·obtain ⟨rfl,q'1_2,hO'1⟩:=hJ'1
   refine Zbd (z5 (zx (zC (n:=2) (v:=.n x1) q'1_2 ZS) ?_))
   cases hp
   exact ⟨rfl,(hO'1.pick [] rfl (by decide))⟩

theorem Zc5.ok {h:Hp} {x:Int} {y:Int}   {r:Int × Int} (hp:Zc5 x y = some r) :
  ∃ u k',Is G 98 [.i .u64 x,.i .u64 y] h u k'∧V.tu [.i .u64 r.1,.i .u64 r.2] = u∧Own (fun r=>r < h.n) h k' []:=by
 refine WC.is (Za7 ZdU ?_)
 unfold Zc5 at hp
 let B:Nat→Prop:=(fun r=>r < h.n)
 have hO:Own B h h []:=Own.start0 h
 refine Zk (Zo (Zf (.i .u64 0) rfl (Zf (.i .u64 0) rfl (Zd (Zc (Zk (Zo ?_)))))))
 refine Zf (.i .u64 x) rfl (Zj (Zdo (a:=x) (b:=4294967295) (v:=.i .u64 (Zp .u64 x 4294967295)) rfl rfl (by decide) rfl) (Zf (.i .u64 (Zp .u64 x 4294967295)) rfl (Zd (Zc (Zk (Zo (Zf (.i .u64 x) rfl ?_)))))))
 refine Zj (Zeq (a:=x) (b:=32) (v:=.i .u64 (Z3 .u64 x 32)) rfl rfl (by decide) (Zda (by decide))) (Zf (.i .u64 (Z3 .u64 x 32)) rfl (Zd (Zc (Zk (Zo (Zf (.i .u64 y) rfl (Zj (Zdo (a:=y) (b:=4294967295) (v:=.i .u64 (Zp .u64 y 4294967295)) rfl rfl (by decide) rfl) ?_)))))))
 refine Zf (.i .u64 (Zp .u64 y 4294967295)) rfl (Zd (Zc (Zk (Zo (Zf (.i .u64 y) rfl (Zj (Zeq (a:=y) (b:=32) (v:=.i .u64 (Z3 .u64 y 32)) rfl rfl (by decide) (Zda (by decide))) (Zf (.i .u64 (Z3 .u64 y 32)) rfl ?_)))))))
 refine Zd (Zc (Zk (Zo (Zf (.i .u64 (Zp .u64 x 4294967295)) rfl (Zf (.i .u64 (Zp .u64 y 4294967295)) rfl (Zj (Zdo (a:=(Zp .u64 x 4294967295)) (b:=(Zp .u64 y 4294967295)) (v:=.i .u64 (ZE .u64 (Zp .u64 x 4294967295) (Zp .u64 y 4294967295))) rfl rfl (by decide) rfl) (Zf (.i .u64 (ZE .u64 (Zp .u64 x 4294967295) (Zp .u64 y 4294967295))) rfl ?_)))))))
 refine Zd (Zc (Zk (Zo (Zf (.i .u64 (Z3 .u64 x 32)) rfl (Zf (.i .u64 (Zp .u64 y 4294967295)) rfl (Zj (Zdo (a:=(Z3 .u64 x 32)) (b:=(Zp .u64 y 4294967295)) (v:=.i .u64 (ZE .u64 (Z3 .u64 x 32) (Zp .u64 y 4294967295))) rfl rfl (by decide) rfl) (Zf (.i .u64 (ZE .u64 (Zp .u64 x 4294967295) (Zp .u64 y 4294967295))) rfl ?_)))))))
 refine Zj (Zeq (a:=(ZE .u64 (Zp .u64 x 4294967295) (Zp .u64 y 4294967295))) (b:=32) (v:=.i .u64 (Z3 .u64 (ZE .u64 (Zp .u64 x 4294967295) (Zp .u64 y 4294967295)) 32)) rfl rfl (by decide) (Zda (by decide))) (Zj (Zdo (a:=(ZE .u64 (Z3 .u64 x 32) (Zp .u64 y 4294967295))) (b:=(Z3 .u64 (ZE .u64 (Zp .u64 x 4294967295) (Zp .u64 y 4294967295)) 32)) (v:=.i .u64 (z6 .u64 (ZE .u64 (Z3 .u64 x 32) (Zp .u64 y 4294967295)) (Z3 .u64 (ZE .u64 (Zp .u64 x 4294967295) (Zp .u64 y 4294967295)) 32))) rfl rfl (by decide) rfl) (Zf (.i .u64 (z6 .u64 (ZE .u64 (Z3 .u64 x 32) (Zp .u64 y 4294967295)) (Z3 .u64 (ZE .u64 (Zp .u64 x 4294967295) (Zp .u64 y 4294967295)) 32))) rfl (Zd (Zc (Zk (Zo (Zf (.i .u64 (z6 .u64 (ZE .u64 (Z3 .u64 x 32) (Zp .u64 y 4294967295)) (Z3 .u64 (ZE .u64 (Zp .u64 x 4294967295) (Zp .u64 y 4294967295)) 32))) rfl ?_)))))))
 refine Zj (Zdo (a:=(z6 .u64 (ZE .u64 (Z3 .u64 x 32) (Zp .u64 y 4294967295)) (Z3 .u64 (ZE .u64 (Zp .u64 x 4294967295) (Zp .u64 y 4294967295)) 32))) (b:=4294967295) (v:=.i .u64 (Zp .u64 (z6 .u64 (ZE .u64 (Z3 .u64 x 32) (Zp .u64 y 4294967295)) (Z3 .u64 (ZE .u64 (Zp .u64 x 4294967295) (Zp .u64 y 4294967295)) 32)) 4294967295)) rfl rfl (by decide) rfl) (Zf (.i .u64 (Zp .u64 (z6 .u64 (ZE .u64 (Z3 .u64 x 32) (Zp .u64 y 4294967295)) (Z3 .u64 (ZE .u64 (Zp .u64 x 4294967295) (Zp .u64 y 4294967295)) 32)) 4294967295)) rfl (Zd (Zc (Zk (Zo (Zf (.i .u64 (z6 .u64 (ZE .u64 (Z3 .u64 x 32) (Zp .u64 y 4294967295)) (Z3 .u64 (ZE .u64 (Zp .u64 x 4294967295) (Zp .u64 y 4294967295)) 32))) rfl (Zj (Zeq (a:=(z6 .u64 (ZE .u64 (Z3 .u64 x 32) (Zp .u64 y 4294967295)) (Z3 .u64 (ZE .u64 (Zp .u64 x 4294967295) (Zp .u64 y 4294967295)) 32))) (b:=32) (v:=.i .u64 (Z3 .u64 (z6 .u64 (ZE .u64 (Z3 .u64 x 32) (Zp .u64 y 4294967295)) (Z3 .u64 (ZE .u64 (Zp .u64 x 4294967295) (Zp .u64 y 4294967295)) 32)) 32)) rfl rfl (by decide) (Zda (by decide))) ?_)))))))
 refine Zf (.i .u64 (Z3 .u64 (z6 .u64 (ZE .u64 (Z3 .u64 x 32) (Zp .u64 y 4294967295)) (Z3 .u64 (ZE .u64 (Zp .u64 x 4294967295) (Zp .u64 y 4294967295)) 32)) 32)) rfl (Zd (Zc (Zk (Zo (Zf (.i .u64 (Zp .u64 (z6 .u64 (ZE .u64 (Z3 .u64 x 32) (Zp .u64 y 4294967295)) (Z3 .u64 (ZE .u64 (Zp .u64 x 4294967295) (Zp .u64 y 4294967295)) 32)) 4294967295)) rfl (Zf (.i .u64 (Zp .u64 x 4294967295)) rfl (Zf (.i .u64 (Z3 .u64 y 32)) rfl ?_)))))))
 refine Zj (Zdo (a:=(Zp .u64 x 4294967295)) (b:=(Z3 .u64 y 32)) (v:=.i .u64 (ZE .u64 (Zp .u64 x 4294967295) (Z3 .u64 y 32))) rfl rfl (by decide) rfl) (Zj (Zdo (a:=(Zp .u64 (z6 .u64 (ZE .u64 (Z3 .u64 x 32) (Zp .u64 y 4294967295)) (Z3 .u64 (ZE .u64 (Zp .u64 x 4294967295) (Zp .u64 y 4294967295)) 32)) 4294967295)) (b:=(ZE .u64 (Zp .u64 x 4294967295) (Z3 .u64 y 32))) (v:=.i .u64 (z6 .u64 (Zp .u64 (z6 .u64 (ZE .u64 (Z3 .u64 x 32) (Zp .u64 y 4294967295)) (Z3 .u64 (ZE .u64 (Zp .u64 x 4294967295) (Zp .u64 y 4294967295)) 32)) 4294967295) (ZE .u64 (Zp .u64 x 4294967295) (Z3 .u64 y 32)))) rfl rfl (by decide) rfl) (Zf (.i .u64 (z6 .u64 (Zp .u64 (z6 .u64 (ZE .u64 (Z3 .u64 x 32) (Zp .u64 y 4294967295)) (Z3 .u64 (ZE .u64 (Zp .u64 x 4294967295) (Zp .u64 y 4294967295)) 32)) 4294967295) (ZE .u64 (Zp .u64 x 4294967295) (Z3 .u64 y 32)))) rfl (Zd (Zc (Zk (Zo (Zf (.i .u64 (Z3 .u64 x 32)) rfl ?_)))))))
 refine Zf (.i .u64 (Z3 .u64 y 32)) rfl (Zj (Zdo (a:=(Z3 .u64 x 32)) (b:=(Z3 .u64 y 32)) (v:=.i .u64 (ZE .u64 (Z3 .u64 x 32) (Z3 .u64 y 32))) rfl rfl (by decide) rfl) (Zf (.i .u64 (Z3 .u64 (z6 .u64 (ZE .u64 (Z3 .u64 x 32) (Zp .u64 y 4294967295)) (Z3 .u64 (ZE .u64 (Zp .u64 x 4294967295) (Zp .u64 y 4294967295)) 32)) 32)) rfl (Zj (Zdo (a:=(ZE .u64 (Z3 .u64 x 32) (Z3 .u64 y 32))) (b:=(Z3 .u64 (z6 .u64 (ZE .u64 (Z3 .u64 x 32) (Zp .u64 y 4294967295)) (Z3 .u64 (ZE .u64 (Zp .u64 x 4294967295) (Zp .u64 y 4294967295)) 32)) 32)) (v:=.i .u64 (z6 .u64 (ZE .u64 (Z3 .u64 x 32) (Z3 .u64 y 32)) (Z3 .u64 (z6 .u64 (ZE .u64 (Z3 .u64 x 32) (Zp .u64 y 4294967295)) (Z3 .u64 (ZE .u64 (Zp .u64 x 4294967295) (Zp .u64 y 4294967295)) 32)) 32))) rfl rfl (by decide) rfl) (Zf (.i .u64 (z6 .u64 (Zp .u64 (z6 .u64 (ZE .u64 (Z3 .u64 x 32) (Zp .u64 y 4294967295)) (Z3 .u64 (ZE .u64 (Zp .u64 x 4294967295) (Zp .u64 y 4294967295)) 32)) 4294967295) (ZE .u64 (Zp .u64 x 4294967295) (Z3 .u64 y 32)))) rfl (Zj (Zeq (a:=(z6 .u64 (Zp .u64 (z6 .u64 (ZE .u64 (Z3 .u64 x 32) (Zp .u64 y 4294967295)) (Z3 .u64 (ZE .u64 (Zp .u64 x 4294967295) (Zp .u64 y 4294967295)) 32)) 4294967295) (ZE .u64 (Zp .u64 x 4294967295) (Z3 .u64 y 32)))) (b:=32) (v:=.i .u64 (Z3 .u64 (z6 .u64 (Zp .u64 (z6 .u64 (ZE .u64 (Z3 .u64 x 32) (Zp .u64 y 4294967295)) (Z3 .u64 (ZE .u64 (Zp .u64 x 4294967295) (Zp .u64 y 4294967295)) 32)) 4294967295) (ZE .u64 (Zp .u64 x 4294967295) (Z3 .u64 y 32))) 32)) rfl rfl (by decide) (Zda (by decide))) (Zj (Zdo (a:=(z6 .u64 (ZE .u64 (Z3 .u64 x 32) (Z3 .u64 y 32)) (Z3 .u64 (z6 .u64 (ZE .u64 (Z3 .u64 x 32) (Zp .u64 y 4294967295)) (Z3 .u64 (ZE .u64 (Zp .u64 x 4294967295) (Zp .u64 y 4294967295)) 32)) 32))) (b:=(Z3 .u64 (z6 .u64 (Zp .u64 (z6 .u64 (ZE .u64 (Z3 .u64 x 32) (Zp .u64 y 4294967295)) (Z3 .u64 (ZE .u64 (Zp .u64 x 4294967295) (Zp .u64 y 4294967295)) 32)) 4294967295) (ZE .u64 (Zp .u64 x 4294967295) (Z3 .u64 y 32))) 32)) (v:=.i .u64 (z6 .u64 (z6 .u64 (ZE .u64 (Z3 .u64 x 32) (Z3 .u64 y 32)) (Z3 .u64 (z6 .u64 (ZE .u64 (Z3 .u64 x 32) (Zp .u64 y 4294967295)) (Z3 .u64 (ZE .u64 (Zp .u64 x 4294967295) (Zp .u64 y 4294967295)) 32)) 32)) (Z3 .u64 (z6 .u64 (Zp .u64 (z6 .u64 (ZE .u64 (Z3 .u64 x 32) (Zp .u64 y 4294967295)) (Z3 .u64 (ZE .u64 (Zp .u64 x 4294967295) (Zp .u64 y 4294967295)) 32)) 4294967295) (ZE .u64 (Zp .u64 x 4294967295) (Z3 .u64 y 32))) 32))) rfl rfl (by decide) rfl) (Zf (.i .u64 (z6 .u64 (z6 .u64 (ZE .u64 (Z3 .u64 x 32) (Z3 .u64 y 32)) (Z3 .u64 (z6 .u64 (ZE .u64 (Z3 .u64 x 32) (Zp .u64 y 4294967295)) (Z3 .u64 (ZE .u64 (Zp .u64 x 4294967295) (Zp .u64 y 4294967295)) 32)) 32)) (Z3 .u64 (z6 .u64 (Zp .u64 (z6 .u64 (ZE .u64 (Z3 .u64 x 32) (Zp .u64 y 4294967295)) (Z3 .u64 (ZE .u64 (Zp .u64 x 4294967295) (Zp .u64 y 4294967295)) 32)) 4294967295) (ZE .u64 (Zp .u64 x 4294967295) (Z3 .u64 y 32))) 32))) rfl ?_)))))))
 refine Zd (Zc (Zk (Zo (Zf (.i .u64 x) rfl (Zf (.i .u64 y) rfl (Zj (Zdo (a:=x) (b:=y) (v:=.i .u64 (ZE .u64 x y)) rfl rfl (by decide) rfl) (Zf (.i .u64 (ZE .u64 x y)) rfl ?_)))))))
 refine Zd (Zc (zY (zx (zC (n:=4) (v:=.i .u64 (z6 .u64 (z6 .u64 (ZE .u64 (Z3 .u64 x 32) (Z3 .u64 y 32)) (Z3 .u64 (z6 .u64 (ZE .u64 (Z3 .u64 x 32) (Zp .u64 y 4294967295)) (Z3 .u64 (ZE .u64 (Zp .u64 x 4294967295) (Zp .u64 y 4294967295)) 32)) 32)) (Z3 .u64 (z6 .u64 (Zp .u64 (z6 .u64 (ZE .u64 (Z3 .u64 x 32) (Zp .u64 y 4294967295)) (Z3 .u64 (ZE .u64 (Zp .u64 x 4294967295) (Zp .u64 y 4294967295)) 32)) 4294967295) (ZE .u64 (Zp .u64 x 4294967295) (Z3 .u64 y 32))) 32))) rfl (zC (n:=5) (v:=.i .u64 (ZE .u64 x y)) rfl ZS)) ?_)))
 cases hp
 exact ⟨rfl,(hO.pick [] rfl (by decide))⟩

theorem Zcl.ok {h:Hp} {x:Int} {y:Int}   {r:Int × Int} (hp:Zcl x y = some r) :
  ∃ u k',Is G 89 [.i .u64 x,.i .u64 y] h u k'∧V.tu [.i .u64 r.1,.i .u64 r.2] = u∧Own (fun r=>r < h.n) h k' []:=by
 refine WC.is (Za7 Ze8 ?_)
 unfold Zcl at hp
 let B:Nat→Prop:=(fun r=>r < h.n)
 have hO:Own B h h []:=Own.start0 h
 refine Zk (Zo (Zf (.i .u64 0) rfl (Zf (.i .u64 0) rfl (Zd (Zc (Zk (zG (t:=false) rfl rfl ?_)))))))
 refine zN (Zc (Zk (Zo (Zf (.i .u64 x) rfl (Zf (.i .u64 y) rfl ?_)))))
 obtain ⟨⟨x1,x2⟩,hx'1,hp⟩:=Zs hp
 obtain ⟨u'1,k'1,ca'1,rfl,hW'1⟩:=Zc5.ok (h:=h)   hx'1
 refine ZaN (id:=98) (caps:=[]) rfl (Zu (v:=.i .u64 x) rfl (Zu (v:=.i .u64 y) rfl zi)) ca'1 ?_
 have hO'1:=hO.call hW'1 rfl
 refine Zf (.tu [.i .u64 x1,.i .u64 x2]) rfl (Zj (Zbn (vs:=[.i .u64 x1,.i .u64 x2]) (v:=.i .u64 x1) rfl rfl) (Zj (Zbn (vs:=[.i .u64 x1,.i .u64 x2]) (v:=.i .u64 x2) rfl rfl) (Zf (.i .u64 x1) rfl (Zf (.i .u64 x2) rfl (Zd (Zc (Zk ?_)))))))
 refine Zo (Zf (.i .u64 x1) rfl (Zf (.i .u64 x2) rfl (Zf (.i .u64 x1) rfl (Zf (.i .u64 x2) rfl (Zd (Zc (zY ?_)))))))
 refine zx (zC (n:=4) (v:=.i .u64 x1) rfl (zC (n:=5) (v:=.i .u64 x2) rfl ZS)) ?_
 cases hp
 exact ⟨rfl,(hO'1.pick [] rfl (by decide))⟩

end Mu
