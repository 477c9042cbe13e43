/- The code comes to what was worked out. -/
import Derived.Test.YtfdidkebomeiaaaMuDf
import Derived.Test.YtfdidkebomeiaaaMuPa
set_option linter.unusedVariables false
set_option linter.unnecessarySimpa false
set_option linter.unusedSimpArgs false
set_option maxHeartbeats 2000000
set_option maxRecDepth 10000
namespace Mu
open Go (IntKind BinOp UnOp)
theorem zO {x:Ze} {i:Int} (h:0≤i∧i < 4):(Zn.c x)[0 + i.toNat * 1]? = some (.n ((x.Next).get i)):=by
 rcases (show i = 0∨i = 1∨i = 2∨i = 3 by omega) with rfl | rfl | rfl | rfl <;> rfl
theorem Zdc {x:Ze} {i:Int} {w:Int} (h:0≤i∧i < 4):over (Zn.c x) (0 + i.toNat * 1) [.n w] = Zn.c ({ x with Next:=(x.Next).set i w }):=by
 rcases (show i = 0∨i = 1∨i = 2∨i = 3 by omega) with rfl | rfl | rfl | rfl <;> rfl
theorem Zce {x:Ze} {i:Int} (h:0≤i∧i < 4):(Zn.c x)[4 + i.toNat * 1]? = some (.n ((x.Owner).get i)):=by
 rcases (show i = 0∨i = 1∨i = 2∨i = 3 by omega) with rfl | rfl | rfl | rfl <;> rfl
theorem Zec {x:Ze} {i:Int} {w:Int} (h:0≤i∧i < 4):over (Zn.c x) (4 + i.toNat * 1) [.n w] = Zn.c ({ x with Owner:=(x.Owner).set i w }):=by
 rcases (show i = 0∨i = 1∨i = 2∨i = 3 by omega) with rfl | rfl | rfl | rfl <;> rfl
theorem ZeK {x:A10 Int} {i:Int} (h:0≤i∧i < 10):(Zbf.c x)[0 + i.toNat * 1]? = some (.n ((x).get i)):=by
 rcases (show i = 0∨i = 1∨i = 2∨i = 3∨i = 4∨i = 5∨i = 6∨i = 7∨i = 8∨i = 9 by omega) with rfl | rfl | rfl | rfl | rfl | rfl | rfl | rfl | rfl | rfl <;> rfl
theorem ZlV {x:A10 Int} {i:Int} (h:0≤i∧i < 10):Zc9 false (Zbf.c x) (i.toNat * 1) 1 = some (.n ((x).get i)):=by
 rcases (show i = 0∨i = 1∨i = 2∨i = 3∨i = 4∨i = 5∨i = 6∨i = 7∨i = 8∨i = 9 by omega) with rfl | rfl | rfl | rfl | rfl | rfl | rfl | rfl | rfl | rfl <;> rfl
theorem Zhm {x:A10 Int} {i:Int} {w:Int} (h:0≤i∧i < 10):over (Zbf.c x) (0 + i.toNat * 1) [.n w] = Zbf.c ((x).set i w):=by
 rcases (show i = 0∨i = 1∨i = 2∨i = 3∨i = 4∨i = 5∨i = 6∨i = 7∨i = 8∨i = 9 by omega) with rfl | rfl | rfl | rfl | rfl | rfl | rfl | rfl | rfl | rfl <;> rfl
theorem Zm8 {x:A4 Int} {i:Int} (h:0≤i∧i < 4):(ZcF.c x)[0 + i.toNat * 1]? = some (.n ((x).get i)):=by
 rcases (show i = 0∨i = 1∨i = 2∨i = 3 by omega) with rfl | rfl | rfl | rfl <;> rfl
theorem Zh6 {x:A4 Int} {i:Int} (h:0≤i∧i < 4):Zc9 false (ZcF.c x) (i.toNat * 1) 1 = some (.n ((x).get i)):=by
 rcases (show i = 0∨i = 1∨i = 2∨i = 3 by omega) with rfl | rfl | rfl | rfl <;> rfl
theorem Zm9 {x:A4 Int} {i:Int} {w:Int} (h:0≤i∧i < 4):over (ZcF.c x) (0 + i.toNat * 1) [.n w] = ZcF.c ((x).set i w):=by
 rcases (show i = 0∨i = 1∨i = 2∨i = 3 by omega) with rfl | rfl | rfl | rfl <;> rfl
theorem ZiB (cs:List Go.Value) (h:OkL [some .u8] cs):∃ x:Int,Zfm.c x = cs.map toV∧ZfI x:=by
 obtain ⟨n0,cs0,rfl,w0,h0⟩:=h.inv_i
 obtain rfl:=h0.inv_n
 exact ⟨n0,rfl,w0⟩
theorem ZlO (cs:List Go.Value) (h:OkL [some .i8] cs):∃ x:Int,ZiC.c x = cs.map toV∧ZiY x:=by
 obtain ⟨n0,cs0,rfl,w0,h0⟩:=h.inv_i
 obtain rfl:=h0.inv_n
 exact ⟨n0,rfl,w0⟩
theorem Zg2 (cs:List Go.Value) (h:OkL [some .i64,some .i64] cs):∃ x:Zf,Zc.c x = cs.map toV∧Zei x:=by
 obtain ⟨n0,cs0,rfl,w0,h0⟩:=h.inv_i
 obtain ⟨n1,cs1,rfl,w1,h1⟩:=h0.inv_i
 obtain rfl:=h1.inv_n
 exact ⟨⟨n0,n1⟩,rfl,⟨w0,w1⟩⟩
theorem zU.ok {h:Hp} {n:Int}   {r:(List Ze)} (hp:zU n = some r) :
  ∃ u k',Is G 46 [.n n] h u k'∧∃ (v'1:V),v'1 = u∧Own (fun r=>r < h.n) h k' [eSl Zn v'1 r]:=by
 refine WC.is (ZaM ZdY ?_)
 unfold zU at hp
 let B:Nat→Prop:=(fun r=>r < h.n)
 have hO:Own B h h []:=Own.start0 h
 refine Zh (Zk (Zd (.sn) rfl (Zb (Za (Zh (Zk (Zd (.n n) rfl ?_)))))))
 obtain ⟨c'1,hp⟩:=Zj hp
 refine zQ (hO.mks (E:=Zn) (y:=(⟨⟨0,0,0,0⟩,⟨0,0,0,0⟩⟩:Ze)) (bytes:=64) (z:=n) hO.fr rfl rfl rfl c'1 (by decide)) ?_
 rintro v'2 k'1 ⟨r'1,f'1,hW⟩
 have hO'1:=hW
 refine Zd v'2 rfl (Zb (Za (Zh (Zh (Zk (Zd (.n 0) rfl (Zb ?_)))))))
 refine Za (Zaq ?_)
 obtain ⟨o'1,ho'1,hp⟩:=Zq hp
 refine W.mono (Q:=fun e fr k=>match (generalizing:=false) o'1 with
   | l1=>e = (.exit 0)∧fr 3 = v'2∧Own B h k [eSl Zn v'2 l1]) ?_ ?_
 ·clear hp
  refine zP (fun st fr k=>match st with | (l,v)=>fr 0 = .n n∧fr 3 = v'2∧fr 4 = .n v∧Own B h k [eSl Zn v'2 l]) ho'1 (s:=(List.replicate n.toNat (⟨⟨0,0,0,0⟩,⟨0,0,0,0⟩⟩:Ze),0)) ⟨rfl,rfl,rfl,(hO'1.pick [0] rfl (by decide))⟩ ?_
  rintro ⟨l,v⟩ q'2 k'3 ⟨q'2_0,q'2_3,q'2_4,hO'3⟩ o'2 hp
  dsimp only [zU.s0] at hp
  refine Zh (Zh (Zk (Zd (.n v) q'2_4 (Zd (.n n) q'2_0 (Zg (zN (a:=v) (b:=n) rfl rfl) (Zb (Za ?_)))))))
  rcases Zp hp with ⟨b'1,hp⟩ | ⟨b'1,hp⟩
  ·refine zA (t:=(decide (v < n))) rfl b'1 ?_
   refine zD (Za (Zh (Zaq (Zh (Zk (Zd (.n 0) rfl (Zb ?_)))))))
   refine Za (Zaq ?_)
   obtain ⟨o'3,ho'2,hp⟩:=Zq hp
   refine W.mono (Q:=fun e fr k=>match (generalizing:=false) o'3 with
     | l3=>e = (.exit 2)∧fr 0 = .n n∧fr 3 = v'2∧fr 4 = .n v∧Own B h k [eSl Zn v'2 l3]) ?_ ?_
   ·clear hp
    refine zP (fun st fr k=>match st with | (l2,d)=>fr 0 = .n n∧fr 3 = v'2∧fr 4 = .n v∧fr 5 = .n d∧Own B h k [eSl Zn v'2 l2]) ho'2 (s:=(l,0)) ⟨q'2_0,q'2_3,q'2_4,rfl,(hO'3.pick [0] rfl (by decide))⟩ ?_
    rintro ⟨l2,d⟩ q'4 k'5 ⟨q'4_0,q'4_3,q'4_4,q'4_5,hO'5⟩ o'4 hp
    dsimp only [zU.s1] at hp
    refine Zh (Zh (Zk (Zd (.n d) q'4_5 (Zg (zN (a:=d) (b:=4) rfl rfl) (Zb (Za ?_))))))
    rcases Zp hp with ⟨b'2,hp⟩ | ⟨b'2,hp⟩
    ·refine zA (t:=(decide (d < 4))) rfl b'2 ?_
     refine zD (Za (Zh (Zaq (Zk (Zd v'2 q'4_3 (Zd (.n v) q'4_4 (Zd (.n d) q'4_5 ?_)))))))
     obtain ⟨c'2,hp⟩:=Zj hp
     refine Zg (zf (E:=Zn) (z:=v) (hO'5.sl 0 rfl) rfl rfl c'2) (Zg (Za1 (off':=0) (off2:=0) (hO'5.sl 0 rfl) (Zi c'2) rfl rfl) ?_)
     obtain ⟨c'3,hp⟩:=Zj hp
     refine Zg (ZbC (off:=0) (off2:=(0 + d.toNat * 1)) (z:=d) (hO'5.sl 0 rfl) (Zi c'2) rfl rfl c'3 rfl) (zQ (hO'5.ste (E:=Zn) (y:=({ gi l2 v.toNat with Next:=((gi l2 v.toNat).Next).set d (-1) })) (ws:=[.n (-1)]) 0 rfl rfl (Zi c'2) rfl rfl ⟨rfl,(by have:=c'3; exact (show 0 + d.toNat * 1 + 1≤8 by omega)),rfl⟩ (Zdc c'3)) ?_)
     rintro _ k'6 ⟨rfl,f'2,m'1,hW⟩
     have hO'6:=hW
     refine Zb (Zan (Za (Zk (Zd (.n d) q'4_5 ?_))))
     obtain ⟨c'4,hp⟩:=Zj hp
     refine Zg (z6 (a:=d) (b:=1) rfl rfl c'4) (Zd (.n (d + 1)) rfl (Zb ?_))
     cases hp
     exact (Or.inl ⟨(l2.set v.toNat ({ gi l2 v.toNat with Next:=((gi l2 v.toNat).Next).set d (-1) }),d + 1),rfl,rfl,q'4_0,q'4_3,q'4_4,rfl,(hO'6.pick [0] rfl (by decide))⟩)
    ·refine z7 (t:=(decide (d < 4))) rfl b'2 ?_
     refine Zbv (zY ?_)
     cases hp
     refine (Or.inr ⟨l2,rfl,(fun h=>nomatch h),(fun he=>?_)⟩)
     subst he; exact ⟨rfl,q'4_0,q'4_3,q'4_4,(hO'5.pick [0] rfl (by decide))⟩
   intro e'2 q'3 k'4 hJ'2
   obtain ⟨l3,rfl⟩:∃ x,x = o'3:=⟨_,rfl⟩
   obtain ⟨rfl,q'3_0,q'3_3,q'3_4,hO'4⟩:=hJ'2
   refine ZaD (Zan (Za (Zk (Zd (.n v) q'3_4 ?_))))
   obtain ⟨c'5,hp⟩:=Zj hp
   refine Zg (z6 (a:=v) (b:=1) rfl rfl c'5) (Zd (.n (v + 1)) rfl (Zb ?_))
   cases hp
   exact (Or.inl ⟨(l3,v + 1),rfl,rfl,q'3_0,q'3_3,rfl,(hO'4.pick [0] rfl (by decide))⟩)
  ·refine z7 (t:=(decide (v < n))) rfl b'1 ?_
   refine Zbv (zY ?_)
   cases hp
   refine (Or.inr ⟨l,rfl,(fun h=>nomatch h),(fun he=>?_)⟩)
   subst he; exact ⟨rfl,q'2_3,(hO'3.pick [0] rfl (by decide))⟩
 intro e'1 q'1 k'2 hJ'1
 obtain ⟨l1,rfl⟩:∃ x,x = o'1:=⟨_,rfl⟩
 obtain ⟨rfl,q'1_3,hO'2⟩:=hJ'1
 refine ZaD (Za (Zh (Zk (Zd v'2 q'1_3 (Zd v'2 rfl (Zb (Za ?_)))))))
 refine Zad (zu (zG (n:=2) (v:=v'2) rfl ZN) ?_)
 cases hp
 exact ⟨v'2,rfl,(hO'2.pick [0] rfl (by decide))⟩

theorem zj.ok {h:Hp} {at_:List Zf} {i:Int} {d:Int} {v_at_:V} (s_at_:Sl Zc h v_at_ at_) {r:Int} (hp:zj at_ i d = some r) :
  ∃ u k',Is G 63 [v_at_,.n i,.n d] h u k'∧V.n r = u∧Own (fun r=>r < h.n) h k' []:=by
 refine WC.is (ZaM Zdf ?_)
 unfold zj at hp
 let B:Nat→Prop:=(fun r=>r < h.n)
 have hO:Own B h h []:=Own.start0 h
 refine Zh (Zk (Zd (.n 0) rfl (Zb (Za (Zh (Zk (Zd (.n (-1)) rfl ?_)))))))
 refine Zb (Za (Zh (Zh (Zk (Zd (.n 0) rfl (Zb (Za ?_)))))))
 refine Zaq ?_
 obtain ⟨o'1,ho'1,hp⟩:=Zq hp
 refine W.mono (Q:=fun e fr k=>match (generalizing:=false) o'1 with
   | best1=>e = (.exit 0)∧fr 7 = .n best1∧Own B h k []) ?_ ?_
 ·clear hp
  refine zP (fun st fr k=>match st with | (best,k_)=>fr 0 = v_at_∧fr 1 = .n i∧fr 2 = .n d∧fr 7 = .n best∧fr 8 = .n k_∧Own B h k []) ho'1 (s:=((-1),0)) ⟨rfl,rfl,rfl,rfl,rfl,(hO.pick [] rfl (by decide))⟩ ?_
  rintro ⟨best,k_⟩ q'2 k'2 ⟨q'2_0,q'2_1,q'2_2,q'2_7,q'2_8,hO'2⟩ o'2 hp
  dsimp only [zj.s0] at hp
  refine Zh (Zh (Zk (Zd (.n k_) q'2_8 (Zd v_at_ q'2_0 (Zg (Zau (hO'2.rd0 s_at_.rd) rfl) (Zg (zN (a:=k_) (b:=(at_.length:Int)) rfl rfl) (Zb ?_)))))))
  refine Za ?_
  rcases Zp hp with ⟨b'1,hp⟩ | ⟨b'1,hp⟩
  ·refine zA (t:=(decide (k_ < (at_.length:Int)))) rfl b'1 ?_
   refine zD (Za (Zh (Zaq (Zh (Zh (ZgF ?_))))))
   have hW:=hO'2.bump 45
   have hO'3:=hW
   refine ZaE (.n d) q'2_2 (ze rfl (ZbQ (a:=d) (b:=0) rfl rfl) (ZaE (.b (decide (d = 0))) rfl ?_))
   obtain ⟨t,hv'1,hp⟩:=Zq hp
   refine Zcj 12 (fun fr' k'=>(k'2.bump 45) = k'∧fr' 29 = .b t∧fr' 0 = v_at_∧fr' 1 = .n i∧fr' 2 = .n d∧fr' 7 = .n best∧fr' 8 = .n k_) ?_ ?_
   ·clear hp; rcases Zp hv'1 with ⟨b'2,hp⟩ | ⟨b'2,hp⟩
    ·skip
     refine ZB rfl b'2 (ZaE v_at_ q'2_0 (ZB rfl b'2 (ZaE (.n k_) q'2_8 (ZB rfl b'2 ?_))))
     obtain ⟨c'1,hp⟩:=Zj hp
     refine ze rfl (zf (E:=Zc) (z:=k_) (hO'3.rd0 s_at_.rd) rfl rfl c'1) (ZB rfl b'2 (ze rfl (Za1 (off':=0) (off2:=1) (hO'3.rd0 s_at_.rd) (Zi c'1) rfl rfl) (ZB rfl b'2 (ze rfl (zB (w:=.n ((gi at_ k_.toNat).Y)) (hO'3.rd0 s_at_.rd) rfl (Zi c'1) rfl) (ZB rfl b'2 (ZaE v_at_ q'2_0 (ZB rfl b'2 ?_)))))))
     refine ZaE (.n i) q'2_1 (ZB rfl b'2 ?_)
     obtain ⟨c'2,hp⟩:=Zj hp
     refine ze rfl (zf (E:=Zc) (z:=i) (hO'3.rd0 s_at_.rd) rfl rfl c'2) (ZB rfl b'2 (ze rfl (Za1 (off':=0) (off2:=1) (hO'3.rd0 s_at_.rd) (Zi c'2) rfl rfl) (ZB rfl b'2 (ze rfl (zB (w:=.n ((gi at_ i.toNat).Y)) (hO'3.rd0 s_at_.rd) rfl (Zi c'2) rfl) (ZB rfl b'2 (ze rfl (ZbQ (a:=((gi at_ k_.toNat).Y)) (b:=((gi at_ i.toNat).Y)) rfl rfl) (ze rfl (zr (t:=(decide (d = 0))) (v:=.b t) rfl b'2 (Eq.trans (b:=V.b (decide ((gi at_ k_.toNat).Y = (gi at_ i.toNat).Y))) rfl (congrArg V.b (Option.some.inj hp)))) ?_)))))))
     refine Za9 ?_
     exact ⟨rfl,rfl,q'2_0,q'2_1,q'2_2,q'2_7,q'2_8⟩
    ·skip
     refine Zx rfl b'2 (Zx rfl b'2 (Zx rfl b'2 (Zx rfl b'2 (Zx rfl b'2 (Zx rfl b'2 (Zx rfl b'2 (Zx rfl b'2 ?_)))))))
     refine Zx rfl b'2 (Zx rfl b'2 (Zx rfl b'2 (ze rfl (zm (t:=(decide (d = 0))) (v:=.b t) rfl b'2 (Eq.trans (b:=V.b false) rfl (congrArg V.b (Option.some.inj hp)))) (Za9 ?_))))
     exact ⟨rfl,rfl,q'2_0,q'2_1,q'2_2,q'2_7,q'2_8⟩
   rintro frg'1 _ ⟨rfl,g'1_29,g'1_0,g'1_1,g'1_2,g'1_7,g'1_8⟩
   refine ZaE (.b t) g'1_29 ?_
   obtain ⟨t1,hv'2,hp⟩:=Zq hp
   refine Zcj 12 (fun fr' k'=>(k'2.bump 45) = k'∧fr' 42 = .b t1∧fr' 0 = v_at_∧fr' 1 = .n i∧fr' 2 = .n d∧fr' 7 = .n best∧fr' 8 = .n k_) ?_ ?_
   ·clear hp; rcases Zp hv'2 with ⟨b'3,hp⟩ | ⟨b'3,hp⟩
    ·skip
     refine ZB rfl b'3 (ZaE v_at_ g'1_0 (ZB rfl b'3 (ZaE (.n k_) g'1_8 (ZB rfl b'3 ?_))))
     obtain ⟨c'3,hp⟩:=Zj hp
     refine ze rfl (zf (E:=Zc) (z:=k_) (hO'3.rd0 s_at_.rd) rfl rfl c'3) (ZB rfl b'3 (ze rfl (Za1 (off':=0) (off2:=0) (hO'3.rd0 s_at_.rd) (Zi c'3) rfl rfl) (ZB rfl b'3 (ze rfl (zB (w:=.n ((gi at_ k_.toNat).X)) (hO'3.rd0 s_at_.rd) rfl (Zi c'3) rfl) (ZB rfl b'3 (ZaE v_at_ g'1_0 (ZB rfl b'3 ?_)))))))
     refine ZaE (.n i) g'1_1 (ZB rfl b'3 ?_)
     obtain ⟨c'4,hp⟩:=Zj hp
     refine ze rfl (zf (E:=Zc) (z:=i) (hO'3.rd0 s_at_.rd) rfl rfl c'4) (ZB rfl b'3 (ze rfl (Za1 (off':=0) (off2:=0) (hO'3.rd0 s_at_.rd) (Zi c'4) rfl rfl) (ZB rfl b'3 (ze rfl (zB (w:=.n ((gi at_ i.toNat).X)) (hO'3.rd0 s_at_.rd) rfl (Zi c'4) rfl) (ZB rfl b'3 (ze rfl (ZdP (a:=((gi at_ k_.toNat).X)) (b:=((gi at_ i.toNat).X)) rfl rfl) (ze rfl (zr (t:=t) (v:=.b t1) rfl b'3 (Eq.trans (b:=V.b (decide (((gi at_ i.toNat).X) < ((gi at_ k_.toNat).X)))) rfl (congrArg V.b (Option.some.inj hp)))) ?_)))))))
     refine Za9 ?_
     exact ⟨rfl,rfl,g'1_0,g'1_1,g'1_2,g'1_7,g'1_8⟩
    ·skip
     refine Zx rfl b'3 (Zx rfl b'3 (Zx rfl b'3 (Zx rfl b'3 (Zx rfl b'3 (Zx rfl b'3 (Zx rfl b'3 (Zx rfl b'3 ?_)))))))
     refine Zx rfl b'3 (Zx rfl b'3 (Zx rfl b'3 (ze rfl (zm (t:=t) (v:=.b t1) rfl b'3 (Eq.trans (b:=V.b false) rfl (congrArg V.b (Option.some.inj hp)))) (Za9 ?_))))
     exact ⟨rfl,rfl,g'1_0,g'1_1,g'1_2,g'1_7,g'1_8⟩
   rintro frg'2 _ ⟨rfl,g'2_42,g'2_0,g'2_1,g'2_2,g'2_7,g'2_8⟩
   refine ZaE (.b t1) g'2_42 ?_
   obtain ⟨t2,hv'3,hp⟩:=Zq hp
   refine Zcj 16 (fun fr' k'=>(k'2.bump 45) = k'∧fr' 59 = .b t2∧fr' 0 = v_at_∧fr' 1 = .n i∧fr' 2 = .n d∧fr' 7 = .n best∧fr' 8 = .n k_) ?_ ?_
   ·clear hp; rcases Zp hv'3 with ⟨b'4,hp⟩ | ⟨b'4,hp⟩
    ·skip
     refine ZB rfl b'4 (ZaE (.n best) g'2_7 (ZB rfl b'4 (ze rfl (zN (a:=best) (b:=0) rfl rfl) (ZB rfl b'4 (ZaE (.b (decide (best < 0))) rfl ?_)))))
     obtain ⟨t3,hv'4,hp⟩:=Zq hp
     refine Zcj 12 (fun fr' k'=>(k'2.bump 45) = k'∧fr' 58 = .b t3∧fr' 0 = v_at_∧fr' 1 = .n i∧fr' 2 = .n d∧fr' 43 = .b t1∧fr' 7 = .n best∧fr' 8 = .n k_) ?_ ?_
     ·clear hp; rcases Zp hv'4 with ⟨b'5,hp⟩ | ⟨b'5,hp⟩
      ·skip
       refine Zx rfl b'5 (Zx rfl b'5 (Zx rfl b'5 (Zx rfl b'5 (Zx rfl b'5 (Zx rfl b'5 (Zx rfl b'5 (Zx rfl b'5 ?_)))))))
       refine Zx rfl b'5 (Zx rfl b'5 (Zx rfl b'5 (ZB rfl b'4 (ze rfl (zr (t:=(decide (best < 0))) (v:=.b t3) rfl b'5 (Eq.trans (b:=V.b true) rfl (congrArg V.b (Option.some.inj hp)))) (Za9 ?_)))))
       exact ⟨rfl,rfl,g'2_0,g'2_1,g'2_2,rfl,g'2_7,g'2_8⟩
      ·skip
       refine ZB rfl b'5 (ZaE v_at_ g'2_0 (ZB rfl b'5 (ZaE (.n k_) g'2_8 (ZB rfl b'5 ?_))))
       obtain ⟨c'5,hp⟩:=Zj hp
       refine ze rfl (zf (E:=Zc) (z:=k_) (hO'3.rd0 s_at_.rd) rfl rfl c'5) (ZB rfl b'5 (ze rfl (Za1 (off':=0) (off2:=0) (hO'3.rd0 s_at_.rd) (Zi c'5) rfl rfl) (ZB rfl b'5 (ze rfl (zB (w:=.n ((gi at_ k_.toNat).X)) (hO'3.rd0 s_at_.rd) rfl (Zi c'5) rfl) (ZB rfl b'5 (ZaE v_at_ g'2_0 (ZB rfl b'5 ?_)))))))
       refine ZaE (.n best) g'2_7 (ZB rfl b'5 ?_)
       obtain ⟨c'6,hp⟩:=Zj hp
       refine ze rfl (zf (E:=Zc) (z:=best) (hO'3.rd0 s_at_.rd) rfl rfl c'6) (ZB rfl b'5 (ze rfl (Za1 (off':=0) (off2:=0) (hO'3.rd0 s_at_.rd) (Zi c'6) rfl rfl) (ZB rfl b'5 (ze rfl (zB (w:=.n ((gi at_ best.toNat).X)) (hO'3.rd0 s_at_.rd) rfl (Zi c'6) rfl) (ZB rfl b'5 (ze rfl (zN (a:=((gi at_ k_.toNat).X)) (b:=((gi at_ best.toNat).X)) rfl rfl) (ZB rfl b'4 ?_)))))))
       refine ze rfl (zm (t:=(decide (best < 0))) (v:=.b t3) rfl b'5 (Eq.trans (b:=V.b (decide (((gi at_ k_.toNat).X) < ((gi at_ best.toNat).X)))) rfl (congrArg V.b (Option.some.inj hp)))) (Za9 ?_)
       exact ⟨rfl,rfl,g'2_0,g'2_1,g'2_2,rfl,g'2_7,g'2_8⟩
     rintro frg'3 _ ⟨rfl,g'3_58,g'3_0,g'3_1,g'3_2,g'3_43,g'3_7,g'3_8⟩
     refine ze rfl (zr (t:=t1) (v:=.b t2) g'3_43 b'4 (Eq.trans (b:=V.b t3) g'3_58 (congrArg V.b (Option.some.inj hp)))) (Za9 ?_)
     exact ⟨rfl,rfl,g'3_0,g'3_1,g'3_2,g'3_7,g'3_8⟩
    ·skip
     refine Zx rfl b'4 (Zx rfl b'4 (Zx rfl b'4 (Zb5 rfl (Zb5 rfl (Zb5 rfl (Zb5 rfl (Zb5 rfl ?_)))))))
     refine Zb5 rfl (Zb5 rfl (Zb5 rfl (Zb5 rfl (Zb5 rfl (Zb5 rfl (Zx rfl b'4 (ze rfl (zm (t:=t1) (v:=.b t2) rfl b'4 (Eq.trans (b:=V.b false) rfl (congrArg V.b (Option.some.inj hp)))) ?_)))))))
     refine Za9 ?_
     exact ⟨rfl,rfl,g'2_0,g'2_1,g'2_2,g'2_7,g'2_8⟩
   rintro frg'4 _ ⟨rfl,g'4_59,g'4_0,g'4_1,g'4_2,g'4_7,g'4_8⟩
   refine Za9 (Za ?_)
   obtain ⟨o'3,ho'2,hp⟩:=Zq hp
   refine W.mono (Q:=fun e fr k=>match (generalizing:=false) o'3 with
     | best2=>e = .normal∧fr 0 = v_at_∧fr 1 = .n i∧fr 2 = .n d∧fr 7 = .n best2∧fr 8 = .n k_∧Own B h k []) ?_ ?_
   ·clear hp; have hp:=ho'2; clear ho'2
    rcases Zp hp with ⟨b'6,hp⟩ | ⟨b'6,hp⟩
    ·refine zA (t:=t2) g'4_59 b'6 ?_
     refine Zk (Zd (.n k_) g'4_8 (Zd (.n k_) rfl (Zb ?_)))
     cases hp
     exact ⟨rfl,g'4_0,g'4_1,g'4_2,rfl,g'4_8,(hO'3.pick [] rfl (by decide))⟩
    ·refine z7 (t:=t2) g'4_59 b'6 ?_
     refine zD ?_
     cases hp
     exact ⟨rfl,g'4_0,g'4_1,g'4_2,g'4_7,g'4_8,(hO'3.pick [] rfl (by decide))⟩
   intro e'2 q'3 k'4 hJ'2
   obtain ⟨best2,rfl⟩:∃ x,x = o'3:=⟨_,rfl⟩
   obtain ⟨rfl,q'3_0,q'3_1,q'3_2,q'3_7,q'3_8,hO'4⟩:=hJ'2
   refine Za (Zh (ZgF ?_))
   have hW:=hO'4.bump 45
   have hO'5:=hW
   refine ZaE (.n d) q'3_2 (ze rfl (ZbQ (a:=d) (b:=1) rfl rfl) (ZaE (.b (decide (d = 1))) rfl ?_))
   obtain ⟨t4,hv'5,hp⟩:=Zq hp
   refine Zcj 12 (fun fr' k'=>(k'4.bump 45) = k'∧fr' 75 = .b t4∧fr' 0 = v_at_∧fr' 1 = .n i∧fr' 2 = .n d∧fr' 7 = .n best2∧fr' 8 = .n k_) ?_ ?_
   ·clear hp; rcases Zp hv'5 with ⟨b'7,hp⟩ | ⟨b'7,hp⟩
    ·skip
     refine ZB rfl b'7 (ZaE v_at_ q'3_0 (ZB rfl b'7 (ZaE (.n k_) q'3_8 (ZB rfl b'7 ?_))))
     obtain ⟨c'7,hp⟩:=Zj hp
     refine ze rfl (zf (E:=Zc) (z:=k_) (hO'5.rd0 s_at_.rd) rfl rfl c'7) (ZB rfl b'7 (ze rfl (Za1 (off':=0) (off2:=0) (hO'5.rd0 s_at_.rd) (Zi c'7) rfl rfl) (ZB rfl b'7 (ze rfl (zB (w:=.n ((gi at_ k_.toNat).X)) (hO'5.rd0 s_at_.rd) rfl (Zi c'7) rfl) (ZB rfl b'7 (ZaE v_at_ q'3_0 (ZB rfl b'7 ?_)))))))
     refine ZaE (.n i) q'3_1 (ZB rfl b'7 ?_)
     obtain ⟨c'8,hp⟩:=Zj hp
     refine ze rfl (zf (E:=Zc) (z:=i) (hO'5.rd0 s_at_.rd) rfl rfl c'8) (ZB rfl b'7 (ze rfl (Za1 (off':=0) (off2:=0) (hO'5.rd0 s_at_.rd) (Zi c'8) rfl rfl) (ZB rfl b'7 (ze rfl (zB (w:=.n ((gi at_ i.toNat).X)) (hO'5.rd0 s_at_.rd) rfl (Zi c'8) rfl) (ZB rfl b'7 (ze rfl (ZbQ (a:=((gi at_ k_.toNat).X)) (b:=((gi at_ i.toNat).X)) rfl rfl) (ze rfl (zr (t:=(decide (d = 1))) (v:=.b t4) rfl b'7 (Eq.trans (b:=V.b (decide ((gi at_ k_.toNat).X = (gi at_ i.toNat).X))) rfl (congrArg V.b (Option.some.inj hp)))) ?_)))))))
     refine Za9 ?_
     exact ⟨rfl,rfl,q'3_0,q'3_1,q'3_2,q'3_7,q'3_8⟩
    ·skip
     refine Zx rfl b'7 (Zx rfl b'7 (Zx rfl b'7 (Zx rfl b'7 (Zx rfl b'7 (Zx rfl b'7 (Zx rfl b'7 (Zx rfl b'7 ?_)))))))
     refine Zx rfl b'7 (Zx rfl b'7 (Zx rfl b'7 (ze rfl (zm (t:=(decide (d = 1))) (v:=.b t4) rfl b'7 (Eq.trans (b:=V.b false) rfl (congrArg V.b (Option.some.inj hp)))) (Za9 ?_))))
     exact ⟨rfl,rfl,q'3_0,q'3_1,q'3_2,q'3_7,q'3_8⟩
   rintro frg'5 _ ⟨rfl,g'5_75,g'5_0,g'5_1,g'5_2,g'5_7,g'5_8⟩
   refine ZaE (.b t4) g'5_75 ?_
   obtain ⟨t5,hv'6,hp⟩:=Zq hp
   refine Zcj 12 (fun fr' k'=>(k'4.bump 45) = k'∧fr' 88 = .b t5∧fr' 0 = v_at_∧fr' 1 = .n i∧fr' 2 = .n d∧fr' 7 = .n best2∧fr' 8 = .n k_) ?_ ?_
   ·clear hp; rcases Zp hv'6 with ⟨b'8,hp⟩ | ⟨b'8,hp⟩
    ·skip
     refine ZB rfl b'8 (ZaE v_at_ g'5_0 (ZB rfl b'8 (ZaE (.n k_) g'5_8 (ZB rfl b'8 ?_))))
     obtain ⟨c'9,hp⟩:=Zj hp
     refine ze rfl (zf (E:=Zc) (z:=k_) (hO'5.rd0 s_at_.rd) rfl rfl c'9) (ZB rfl b'8 (ze rfl (Za1 (off':=0) (off2:=1) (hO'5.rd0 s_at_.rd) (Zi c'9) rfl rfl) (ZB rfl b'8 (ze rfl (zB (w:=.n ((gi at_ k_.toNat).Y)) (hO'5.rd0 s_at_.rd) rfl (Zi c'9) rfl) (ZB rfl b'8 (ZaE v_at_ g'5_0 (ZB rfl b'8 ?_)))))))
     refine ZaE (.n i) g'5_1 (ZB rfl b'8 ?_)
     obtain ⟨c'10,hp⟩:=Zj hp
     refine ze rfl (zf (E:=Zc) (z:=i) (hO'5.rd0 s_at_.rd) rfl rfl c'10) (ZB rfl b'8 (ze rfl (Za1 (off':=0) (off2:=1) (hO'5.rd0 s_at_.rd) (Zi c'10) rfl rfl) (ZB rfl b'8 (ze rfl (zB (w:=.n ((gi at_ i.toNat).Y)) (hO'5.rd0 s_at_.rd) rfl (Zi c'10) rfl) (ZB rfl b'8 (ze rfl (ZdP (a:=((gi at_ k_.toNat).Y)) (b:=((gi at_ i.toNat).Y)) rfl rfl) (ze rfl (zr (t:=t4) (v:=.b t5) rfl b'8 (Eq.trans (b:=V.b (decide (((gi at_ i.toNat).Y) < ((gi at_ k_.toNat).Y)))) rfl (congrArg V.b (Option.some.inj hp)))) ?_)))))))
     refine Za9 ?_
     exact ⟨rfl,rfl,g'5_0,g'5_1,g'5_2,g'5_7,g'5_8⟩
    ·skip
     refine Zx rfl b'8 (Zx rfl b'8 (Zx rfl b'8 (Zx rfl b'8 (Zx rfl b'8 (Zx rfl b'8 (Zx rfl b'8 (Zx rfl b'8 ?_)))))))
     refine Zx rfl b'8 (Zx rfl b'8 (Zx rfl b'8 (ze rfl (zm (t:=t4) (v:=.b t5) rfl b'8 (Eq.trans (b:=V.b false) rfl (congrArg V.b (Option.some.inj hp)))) (Za9 ?_))))
     exact ⟨rfl,rfl,g'5_0,g'5_1,g'5_2,g'5_7,g'5_8⟩
   rintro frg'6 _ ⟨rfl,g'6_88,g'6_0,g'6_1,g'6_2,g'6_7,g'6_8⟩
   refine ZaE (.b t5) g'6_88 ?_
   obtain ⟨t6,hv'7,hp⟩:=Zq hp
   refine Zcj 16 (fun fr' k'=>(k'4.bump 45) = k'∧fr' 105 = .b t6∧fr' 0 = v_at_∧fr' 1 = .n i∧fr' 2 = .n d∧fr' 7 = .n best2∧fr' 8 = .n k_) ?_ ?_
   ·clear hp; rcases Zp hv'7 with ⟨b'9,hp⟩ | ⟨b'9,hp⟩
    ·skip
     refine ZB rfl b'9 (ZaE (.n best2) g'6_7 (ZB rfl b'9 (ze rfl (zN (a:=best2) (b:=0) rfl rfl) (ZB rfl b'9 (ZaE (.b (decide (best2 < 0))) rfl ?_)))))
     obtain ⟨t7,hv'8,hp⟩:=Zq hp
     refine Zcj 12 (fun fr' k'=>(k'4.bump 45) = k'∧fr' 104 = .b t7∧fr' 0 = v_at_∧fr' 1 = .n i∧fr' 2 = .n d∧fr' 7 = .n best2∧fr' 8 = .n k_∧fr' 89 = .b t5) ?_ ?_
     ·clear hp; rcases Zp hv'8 with ⟨b'10,hp⟩ | ⟨b'10,hp⟩
      ·skip
       refine Zx rfl b'10 (Zx rfl b'10 (Zx rfl b'10 (Zx rfl b'10 (Zx rfl b'10 (Zx rfl b'10 (Zx rfl b'10 (Zx rfl b'10 ?_)))))))
       refine Zx rfl b'10 (Zx rfl b'10 (Zx rfl b'10 (ZB rfl b'9 (ze rfl (zr (t:=(decide (best2 < 0))) (v:=.b t7) rfl b'10 (Eq.trans (b:=V.b true) rfl (congrArg V.b (Option.some.inj hp)))) (Za9 ?_)))))
       exact ⟨rfl,rfl,g'6_0,g'6_1,g'6_2,g'6_7,g'6_8,rfl⟩
      ·skip
       refine ZB rfl b'10 (ZaE v_at_ g'6_0 (ZB rfl b'10 (ZaE (.n k_) g'6_8 (ZB rfl b'10 ?_))))
       obtain ⟨c'11,hp⟩:=Zj hp
       refine ze rfl (zf (E:=Zc) (z:=k_) (hO'5.rd0 s_at_.rd) rfl rfl c'11) (ZB rfl b'10 (ze rfl (Za1 (off':=0) (off2:=1) (hO'5.rd0 s_at_.rd) (Zi c'11) rfl rfl) (ZB rfl b'10 (ze rfl (zB (w:=.n ((gi at_ k_.toNat).Y)) (hO'5.rd0 s_at_.rd) rfl (Zi c'11) rfl) (ZB rfl b'10 (ZaE v_at_ g'6_0 (ZB rfl b'10 ?_)))))))
       refine ZaE (.n best2) g'6_7 (ZB rfl b'10 ?_)
       obtain ⟨c'12,hp⟩:=Zj hp
       refine ze rfl (zf (E:=Zc) (z:=best2) (hO'5.rd0 s_at_.rd) rfl rfl c'12) (ZB rfl b'10 (ze rfl (Za1 (off':=0) (off2:=1) (hO'5.rd0 s_at_.rd) (Zi c'12) rfl rfl) (ZB rfl b'10 (ze rfl (zB (w:=.n ((gi at_ best2.toNat).Y)) (hO'5.rd0 s_at_.rd) rfl (Zi c'12) rfl) (ZB rfl b'10 (ze rfl (zN (a:=((gi at_ k_.toNat).Y)) (b:=((gi at_ best2.toNat).Y)) rfl rfl) (ZB rfl b'9 ?_)))))))
       refine ze rfl (zm (t:=(decide (best2 < 0))) (v:=.b t7) rfl b'10 (Eq.trans (b:=V.b (decide (((gi at_ k_.toNat).Y) < ((gi at_ best2.toNat).Y)))) rfl (congrArg V.b (Option.some.inj hp)))) (Za9 ?_)
       exact ⟨rfl,rfl,g'6_0,g'6_1,g'6_2,g'6_7,g'6_8,rfl⟩
     rintro frg'7 _ ⟨rfl,g'7_104,g'7_0,g'7_1,g'7_2,g'7_7,g'7_8,g'7_89⟩
     refine ze rfl (zr (t:=t5) (v:=.b t6) g'7_89 b'9 (Eq.trans (b:=V.b t7) g'7_104 (congrArg V.b (Option.some.inj hp)))) (Za9 ?_)
     exact ⟨rfl,rfl,g'7_0,g'7_1,g'7_2,g'7_7,g'7_8⟩
    ·skip
     refine Zx rfl b'9 (Zx rfl b'9 (Zx rfl b'9 (Zb5 rfl (Zb5 rfl (Zb5 rfl (Zb5 rfl (Zb5 rfl ?_)))))))
     refine Zb5 rfl (Zb5 rfl (Zb5 rfl (Zb5 rfl (Zb5 rfl (Zb5 rfl (Zx rfl b'9 (ze rfl (zm (t:=t5) (v:=.b t6) rfl b'9 (Eq.trans (b:=V.b false) rfl (congrArg V.b (Option.some.inj hp)))) ?_)))))))
     refine Za9 ?_
     exact ⟨rfl,rfl,g'6_0,g'6_1,g'6_2,g'6_7,g'6_8⟩
   rintro frg'8 _ ⟨rfl,g'8_105,g'8_0,g'8_1,g'8_2,g'8_7,g'8_8⟩
   refine Za9 (Za ?_)
   rcases Zp hp with ⟨b'11,hp⟩ | ⟨b'11,hp⟩
   ·refine zA (t:=t6) g'8_105 b'11 ?_
    refine Zk (Zd (.n k_) g'8_8 (Zd (.n k_) rfl (Zb (Zan (Za (Zk (Zd (.n k_) g'8_8 ?_)))))))
    obtain ⟨c'13,hp⟩:=Zj hp
    refine Zg (z6 (a:=k_) (b:=1) rfl rfl c'13) (Zd (.n (k_ + 1)) rfl (Zb ?_))
    cases hp
    exact (Or.inl ⟨(k_,k_ + 1),rfl,rfl,g'8_0,g'8_1,g'8_2,rfl,rfl,(hO'5.pick [] rfl (by decide))⟩)
   ·refine z7 (t:=t6) g'8_105 b'11 ?_
    refine zD (Zan (Za (Zk (Zd (.n k_) g'8_8 ?_))))
    obtain ⟨c'14,hp⟩:=Zj hp
    refine Zg (z6 (a:=k_) (b:=1) rfl rfl c'14) (Zd (.n (k_ + 1)) rfl (Zb ?_))
    cases hp
    exact (Or.inl ⟨(best2,k_ + 1),rfl,rfl,g'8_0,g'8_1,g'8_2,g'8_7,rfl,(hO'5.pick [] rfl (by decide))⟩)
  ·refine z7 (t:=(decide (k_ < (at_.length:Int)))) rfl b'1 ?_
   refine Zbv (zY ?_)
   cases hp
   refine (Or.inr ⟨best,rfl,(fun h=>nomatch h),(fun he=>?_)⟩)
   subst he; exact ⟨rfl,q'2_7,(hO'2.pick [] rfl (by decide))⟩
 intro e'1 q'1 k'1 hJ'1
 obtain ⟨best1,rfl⟩:∃ x,x = o'1:=⟨_,rfl⟩
 obtain ⟨rfl,q'1_7,hO'1⟩:=hJ'1
 refine ZaD (Za (Zh (Zk (Zd (.n best1) q'1_7 (Zd (.n best1) rfl (Zb (Za ?_)))))))
 refine Zad (zu (zG (n:=6) (v:=.n best1) rfl ZN) ?_)
 cases hp
 exact ⟨rfl,(hO'1.pick [] rfl (by decide))⟩

theorem zi.ok {h:Hp} {at_:List Zf} {l:List Ze} {i:Int} {w:Int} {v_at_:V} {v_l:V} (s_at_:Sl Zc h v_at_ at_) (s_l:Sl Zn h v_l l) {r:Bool} (hp:zi at_ l i w = some r) :
  ∃ u k',Is G 64 [v_at_,v_l,.n i,.n w] h u k'∧V.b r = u∧Own (fun r=>r < h.n) h k' []:=by
 refine WC.is (ZaM Zde ?_)
 unfold zi at hp
 let B:Nat→Prop:=(fun r=>r < h.n)
 have hO:Own B h h []:=Own.start0 h
 refine Zh (Zk (Zd (.b false) rfl (Zb (Za (Zh (Zh (Zk ?_)))))))
 refine Zd (.n 0) rfl (Zb (Za (Zaq ?_)))
 obtain ⟨o'1,ho'1,hp⟩:=Zq hp
 refine W.mono (Q:=fun e fr k=>match (generalizing:=false) o'1 with
   | .inl _=>e = (.exit 0)∧Own B h k []
   | .inr _=>e = .ret∧fr 8 = .b true∧Own B h k []) ?_ ?_
 ·clear hp
  refine zP (fun st fr k=>match st with | a=>fr 0 = v_at_∧fr 1 = v_l∧fr 2 = .n i∧fr 3 = .n w∧fr 9 = .n a∧Own B h k []) ho'1 (s:=0) ⟨rfl,rfl,rfl,rfl,rfl,(hO.pick [] rfl (by decide))⟩ ?_
  rintro a q'2 k'2 ⟨q'2_0,q'2_1,q'2_2,q'2_3,q'2_9,hO'2⟩ o'2 hp
  dsimp only [zi.s0] at hp
  refine Zh (Zh (Zk (Zd (.n a) q'2_9 (Zd v_l q'2_1 (Zg (Zau (hO'2.rd0 s_l.rd) rfl) (Zg (zN (a:=a) (b:=(l.length:Int)) rfl rfl) (Zb ?_)))))))
  refine Za ?_
  rcases Zp hp with ⟨b'1,hp⟩ | ⟨b'1,hp⟩
  ·refine zA (t:=(decide (a < (l.length:Int)))) rfl b'1 ?_
   refine zD (Za (Zh (Zaq (Zh (Zk (Zd (.n 0) rfl (Zb ?_)))))))
   refine Za (Zaq ?_)
   obtain ⟨o'3,ho'2,hp⟩:=Zq hp
   refine W.mono (Q:=fun e fr k=>match (generalizing:=false) o'3 with
     | .inl _=>e = (.exit 2)∧fr 0 = v_at_∧fr 1 = v_l∧fr 2 = .n i∧fr 3 = .n w∧fr 9 = .n a∧Own B h k []
     | .inr _=>e = .ret∧fr 8 = .b true∧Own B h k []) ?_ ?_
   ·clear hp
    refine zP (fun st fr k=>match st with | d=>fr 0 = v_at_∧fr 1 = v_l∧fr 2 = .n i∧fr 3 = .n w∧fr 9 = .n a∧fr 10 = .n d∧Own B h k []) ho'2 (s:=0) ⟨q'2_0,q'2_1,q'2_2,q'2_3,q'2_9,rfl,(hO'2.pick [] rfl (by decide))⟩ ?_
    rintro d q'4 k'4 ⟨q'4_0,q'4_1,q'4_2,q'4_3,q'4_9,q'4_10,hO'4⟩ o'4 hp
    dsimp only [zi.s1] at hp
    refine Zh (Zh (Zk (Zd (.n d) q'4_10 (Zg (zN (a:=d) (b:=2) rfl rfl) (Zb (Za ?_))))))
    rcases Zp hp with ⟨b'2,hp⟩ | ⟨b'2,hp⟩
    ·refine zA (t:=(decide (d < 2))) rfl b'2 ?_
     refine zD (Za (Zh (Zaq (Zh (Zk (Zd v_l q'4_1 (Zd (.n a) q'4_9 ?_)))))))
     refine Zd (.n d) q'4_10 ?_
     obtain ⟨c'1,hp⟩:=Zj hp
     refine Zg (zf (E:=Zn) (z:=a) (hO'4.rd0 s_l.rd) rfl rfl c'1) (Zg (Za1 (off':=0) (off2:=0) (hO'4.rd0 s_l.rd) (Zi c'1) rfl rfl) ?_)
     obtain ⟨c'2,hp⟩:=Zj hp
     refine Zg (ZbC (off:=0) (off2:=(0 + d.toNat * 1)) (z:=d) (hO'4.rd0 s_l.rd) (Zi c'1) rfl rfl c'2 rfl) (Zg (zB (w:=.n (((gi l a.toNat).Next).get d)) (hO'4.rd0 s_l.rd) rfl (Zi c'1) (zO c'2)) (Zd (.n (((gi l a.toNat).Next).get d)) rfl (Zb (Za (Zh (Zh (Zk ?_)))))))
     refine Zd (.n (((gi l a.toNat).Next).get d)) rfl (Zg (zN (a:=(((gi l a.toNat).Next).get d)) (b:=0) rfl rfl) (Zb (Za ?_)))
     rcases Zp hp with ⟨b'3,hp⟩ | ⟨b'3,hp⟩
     ·refine zA (t:=(decide ((((gi l a.toNat).Next).get d) < 0))) rfl b'3 ?_
      refine Zbv (zY (ZaD (Za (Zk (Zd (.n d) q'4_10 ?_)))))
      obtain ⟨c'3,hp⟩:=Zj hp
      refine Zg (z6 (a:=d) (b:=1) rfl rfl c'3) (Zd (.n (d + 1)) rfl (Zb ?_))
      cases hp
      exact (Or.inl ⟨d + 1,rfl,rfl,q'4_0,q'4_1,q'4_2,q'4_3,q'4_9,rfl,(hO'4.pick [] rfl (by decide))⟩)
     ·refine z7 (t:=(decide ((((gi l a.toNat).Next).get d) < 0))) rfl b'3 ?_
      refine zD (Za (Zh (Zk (Zd v_at_ q'4_0 (Zd (.n a) q'4_9 ?_)))))
      obtain ⟨c'4,hp⟩:=Zj hp
      refine Zg (zf (E:=Zc) (z:=a) (hO'4.rd0 s_at_.rd) rfl rfl c'4) (Zg (Zd5 (E:=Zc) (hO'4.rd0 s_at_.rd) rfl (Zi c'4)) (zQ (hO'4.alloc (cs:=Zc.c (⟨0,0⟩:Zf)) hO'4.fr) ?_))
      rintro _ k'5 ⟨r'1,rfl,n'1,f'1,hW⟩
      have hO'5:=hW
      refine zQ (hO'5.stb (ws:=Zc.c (gi at_ a.toNat)) (cs':=Zc.c (gi at_ a.toNat)) (v:=.ag (Zc.c (gi at_ a.toNat))) 0 rfl rfl rfl rfl ⟨rfl,Nat.le_of_ble_eq_true rfl,rfl⟩ rfl) ?_
      rintro _ k'6 ⟨rfl,f'2,m'1,hW⟩
      have hO'6:=hW
      refine Zb (Za (Zh (Zk (Zd v_at_ q'4_0 (Zd (.n (((gi l a.toNat).Next).get d)) rfl ?_)))))
      obtain ⟨c'5,hp⟩:=Zj hp
      refine Zg (zf (E:=Zc) (z:=(((gi l a.toNat).Next).get d)) (hO'6.rd0 s_at_.rd) rfl rfl c'5) (Zg (Zd5 (E:=Zc) (hO'6.rd0 s_at_.rd) rfl (Zi c'5)) (zQ (hO'6.alloc (cs:=Zc.c (⟨0,0⟩:Zf)) hO'6.fr) ?_))
      rintro _ k'7 ⟨r'2,rfl,n'2,f'3,hW⟩
      have hO'7:=hW
      refine zQ (hO'7.stb (ws:=Zc.c (gi at_ (((gi l a.toNat).Next).get d:Int).toNat)) (cs':=Zc.c (gi at_ (((gi l a.toNat).Next).get d:Int).toNat)) (v:=.ag (Zc.c (gi at_ (((gi l a.toNat).Next).get d:Int).toNat))) 1 rfl rfl rfl rfl ⟨rfl,Nat.le_of_ble_eq_true rfl,rfl⟩ rfl) ?_
      rintro _ k'8 ⟨rfl,f'4,m'2,hW⟩
      have hO'8:=hW
      refine Zb (Za (Zh (Zh (ZgF ?_))))
      have hW:=hO'8.bump 58
      have hO'9:=hW
      refine ze rfl (ZaL (r:=r'1) (o:=0) (o':=1) rfl rfl) (ze rfl (Zac (cs:=(Zc.c (gi at_ a.toNat))) (v:=.n ((gi at_ a.toNat).Y)) (hO'9.box 0 rfl) rfl rfl) (ze rfl (ZaL (r:=r'2) (o:=0) (o':=1) rfl rfl) (ze rfl (Zac (cs:=(Zc.c (gi at_ (((gi l a.toNat).Next).get d:Int).toNat))) (v:=.n ((gi at_ (((gi l a.toNat).Next).get d:Int).toNat).Y)) (hO'9.box 1 rfl) rfl rfl) (ze rfl (ZbQ (a:=((gi at_ a.toNat).Y)) (b:=((gi at_ (((gi l a.toNat).Next).get d:Int).toNat).Y)) rfl rfl) (ZaE (.b (decide ((gi at_ a.toNat).Y = (gi at_ (((gi l a.toNat).Next).get d:Int).toNat).Y))) rfl ?_)))))
      obtain ⟨t,hv'1,hp⟩:=Zq hp
      refine Zcj 12 (fun fr' k'=>(k'8.bump 58) = k'∧fr' 58 = .b t∧fr' 0 = v_at_∧fr' 1 = v_l∧fr' 10 = .n d∧fr' 12 = .p r'1 0∧fr' 13 = .p r'2 0∧fr' 2 = .n i∧fr' 3 = .n w∧fr' 9 = .n a) ?_ ?_
      ·clear hp; rcases Zp hv'1 with ⟨b'4,hp⟩ | ⟨b'4,hp⟩
       ·skip
        refine ZB rfl b'4 (ZaE v_at_ q'4_0 (ZB rfl b'4 (ZaE (.n i) q'4_2 (ZB rfl b'4 ?_))))
        obtain ⟨c'6,hp⟩:=Zj hp
        refine ze rfl (zf (E:=Zc) (z:=i) (hO'9.rd0 s_at_.rd) rfl rfl c'6) (ZB rfl b'4 (ze rfl (Za1 (off':=0) (off2:=0) (hO'9.rd0 s_at_.rd) (Zi c'6) rfl rfl) (ZB rfl b'4 (ze rfl (zB (w:=.n ((gi at_ i.toNat).X)) (hO'9.rd0 s_at_.rd) rfl (Zi c'6) rfl) (ZB rfl b'4 (ZaE v_at_ q'4_0 (ZB rfl b'4 ?_)))))))
        refine ZaE (.n w) q'4_3 (ZB rfl b'4 ?_)
        obtain ⟨c'7,hp⟩:=Zj hp
        refine ze rfl (zf (E:=Zc) (z:=w) (hO'9.rd0 s_at_.rd) rfl rfl c'7) (ZB rfl b'4 (ze rfl (Za1 (off':=0) (off2:=0) (hO'9.rd0 s_at_.rd) (Zi c'7) rfl rfl) (ZB rfl b'4 (ze rfl (zB (w:=.n ((gi at_ w.toNat).X)) (hO'9.rd0 s_at_.rd) rfl (Zi c'7) rfl) (ZB rfl b'4 (ze rfl (ZbQ (a:=((gi at_ i.toNat).X)) (b:=((gi at_ w.toNat).X)) rfl rfl) (ze rfl (zr (t:=(decide ((gi at_ a.toNat).Y = (gi at_ (((gi l a.toNat).Next).get d:Int).toNat).Y))) (v:=.b t) rfl b'4 (Eq.trans (b:=V.b (decide ((gi at_ i.toNat).X = (gi at_ w.toNat).X))) rfl (congrArg V.b (Option.some.inj hp)))) ?_)))))))
        refine Za9 ?_
        exact ⟨rfl,rfl,q'4_0,q'4_1,q'4_10,rfl,rfl,q'4_2,q'4_3,q'4_9⟩
       ·skip
        refine Zx rfl b'4 (Zx rfl b'4 (Zx rfl b'4 (Zx rfl b'4 (Zx rfl b'4 (Zx rfl b'4 (Zx rfl b'4 (Zx rfl b'4 ?_)))))))
        refine Zx rfl b'4 (Zx rfl b'4 (Zx rfl b'4 (ze rfl (zm (t:=(decide ((gi at_ a.toNat).Y = (gi at_ (((gi l a.toNat).Next).get d:Int).toNat).Y))) (v:=.b t) rfl b'4 (Eq.trans (b:=V.b false) rfl (congrArg V.b (Option.some.inj hp)))) (Za9 ?_))))
        exact ⟨rfl,rfl,q'4_0,q'4_1,q'4_10,rfl,rfl,q'4_2,q'4_3,q'4_9⟩
      rintro frg'1 _ ⟨rfl,g'1_58,g'1_0,g'1_1,g'1_10,g'1_12,g'1_13,g'1_2,g'1_3,g'1_9⟩
      refine ZaE (.b t) g'1_58 ?_
      obtain ⟨t1,hv'2,hp⟩:=Zq hp
      refine Zcj 9 (fun fr' k'=>(k'8.bump 58) = k'∧fr' 68 = .b t1∧fr' 0 = v_at_∧fr' 1 = v_l∧fr' 10 = .n d∧fr' 12 = .p r'1 0∧fr' 13 = .p r'2 0∧fr' 2 = .n i∧fr' 3 = .n w∧fr' 9 = .n a) ?_ ?_
      ·clear hp; rcases Zp hv'2 with ⟨b'5,hp⟩ | ⟨b'5,hp⟩
       ·skip
        refine ZB rfl b'5 (ze rfl (ZaL (r:=r'1) (o:=0) (o':=0) g'1_12 rfl) (ZB rfl b'5 (ze rfl (Zac (cs:=(Zc.c (gi at_ a.toNat))) (v:=.n ((gi at_ a.toNat).X)) (hO'9.box 0 rfl) rfl rfl) (ZB rfl b'5 (ZaE v_at_ g'1_0 (ZB rfl b'5 (ZaE (.n i) g'1_2 ?_)))))))
        refine ZB rfl b'5 ?_
        obtain ⟨c'8,hp⟩:=Zj hp
        refine ze rfl (zf (E:=Zc) (z:=i) (hO'9.rd0 s_at_.rd) rfl rfl c'8) (ZB rfl b'5 (ze rfl (Za1 (off':=0) (off2:=0) (hO'9.rd0 s_at_.rd) (Zi c'8) rfl rfl) (ZB rfl b'5 (ze rfl (zB (w:=.n ((gi at_ i.toNat).X)) (hO'9.rd0 s_at_.rd) rfl (Zi c'8) rfl) (ZB rfl b'5 (ze rfl (zN (a:=((gi at_ a.toNat).X)) (b:=((gi at_ i.toNat).X)) rfl rfl) (ze rfl (zr (t:=t) (v:=.b t1) rfl b'5 (Eq.trans (b:=V.b (decide (((gi at_ a.toNat).X) < ((gi at_ i.toNat).X)))) rfl (congrArg V.b (Option.some.inj hp)))) ?_)))))))
        refine Za9 ?_
        exact ⟨rfl,rfl,g'1_0,g'1_1,g'1_10,g'1_12,g'1_13,g'1_2,g'1_3,g'1_9⟩
       ·skip
        refine Zx rfl b'5 (Zx rfl b'5 (Zx rfl b'5 (Zx rfl b'5 (Zx rfl b'5 (Zx rfl b'5 (Zx rfl b'5 (Zx rfl b'5 ?_)))))))
        refine ze rfl (zm (t:=t) (v:=.b t1) rfl b'5 (Eq.trans (b:=V.b false) rfl (congrArg V.b (Option.some.inj hp)))) (Za9 ?_)
        exact ⟨rfl,rfl,g'1_0,g'1_1,g'1_10,g'1_12,g'1_13,g'1_2,g'1_3,g'1_9⟩
      rintro frg'2 _ ⟨rfl,g'2_68,g'2_0,g'2_1,g'2_10,g'2_12,g'2_13,g'2_2,g'2_3,g'2_9⟩
      refine ZaE (.b t1) g'2_68 ?_
      obtain ⟨t2,hv'3,hp⟩:=Zq hp
      refine Zcj 9 (fun fr' k'=>(k'8.bump 58) = k'∧fr' 78 = .b t2∧fr' 0 = v_at_∧fr' 1 = v_l∧fr' 10 = .n d∧fr' 12 = .p r'1 0∧fr' 13 = .p r'2 0∧fr' 2 = .n i∧fr' 3 = .n w∧fr' 9 = .n a) ?_ ?_
      ·clear hp; rcases Zp hv'3 with ⟨b'6,hp⟩ | ⟨b'6,hp⟩
       ·skip
        refine ZB rfl b'6 (ZaE v_at_ g'2_0 (ZB rfl b'6 (ZaE (.n i) g'2_2 (ZB rfl b'6 ?_))))
        obtain ⟨c'9,hp⟩:=Zj hp
        refine ze rfl (zf (E:=Zc) (z:=i) (hO'9.rd0 s_at_.rd) rfl rfl c'9) (ZB rfl b'6 (ze rfl (Za1 (off':=0) (off2:=0) (hO'9.rd0 s_at_.rd) (Zi c'9) rfl rfl) (ZB rfl b'6 (ze rfl (zB (w:=.n ((gi at_ i.toNat).X)) (hO'9.rd0 s_at_.rd) rfl (Zi c'9) rfl) (ZB rfl b'6 (ze rfl (ZaL (r:=r'2) (o:=0) (o':=0) g'2_13 rfl) (ZB rfl b'6 ?_)))))))
        refine ze rfl (Zac (cs:=(Zc.c (gi at_ (((gi l a.toNat).Next).get d:Int).toNat))) (v:=.n ((gi at_ (((gi l a.toNat).Next).get d:Int).toNat).X)) (hO'9.box 1 rfl) rfl rfl) (ZB rfl b'6 (ze rfl (zN (a:=((gi at_ i.toNat).X)) (b:=((gi at_ (((gi l a.toNat).Next).get d:Int).toNat).X)) rfl rfl) (ze rfl (zr (t:=t1) (v:=.b t2) rfl b'6 (Eq.trans (b:=V.b (decide (((gi at_ i.toNat).X) < ((gi at_ (((gi l a.toNat).Next).get d:Int).toNat).X)))) rfl (congrArg V.b (Option.some.inj hp)))) (Za9 ?_))))
        exact ⟨rfl,rfl,g'2_0,g'2_1,g'2_10,g'2_12,g'2_13,g'2_2,g'2_3,g'2_9⟩
       ·skip
        refine Zx rfl b'6 (Zx rfl b'6 (Zx rfl b'6 (Zx rfl b'6 (Zx rfl b'6 (Zx rfl b'6 (Zx rfl b'6 (Zx rfl b'6 ?_)))))))
        refine ze rfl (zm (t:=t1) (v:=.b t2) rfl b'6 (Eq.trans (b:=V.b false) rfl (congrArg V.b (Option.some.inj hp)))) (Za9 ?_)
        exact ⟨rfl,rfl,g'2_0,g'2_1,g'2_10,g'2_12,g'2_13,g'2_2,g'2_3,g'2_9⟩
      rintro frg'3 _ ⟨rfl,g'3_78,g'3_0,g'3_1,g'3_10,g'3_12,g'3_13,g'3_2,g'3_3,g'3_9⟩
      refine ZaE (.b t2) g'3_78 ?_
      obtain ⟨t3,hv'4,hp⟩:=Zq hp
      refine Zcj 9 (fun fr' k'=>(k'8.bump 58) = k'∧fr' 88 = .b t3∧fr' 0 = v_at_∧fr' 1 = v_l∧fr' 10 = .n d∧fr' 12 = .p r'1 0∧fr' 13 = .p r'2 0∧fr' 2 = .n i∧fr' 3 = .n w∧fr' 9 = .n a) ?_ ?_
      ·clear hp; rcases Zp hv'4 with ⟨b'7,hp⟩ | ⟨b'7,hp⟩
       ·skip
        refine ZB rfl b'7 (ZaE v_at_ g'3_0 (ZB rfl b'7 (ZaE (.n i) g'3_2 (ZB rfl b'7 ?_))))
        obtain ⟨c'10,hp⟩:=Zj hp
        refine ze rfl (zf (E:=Zc) (z:=i) (hO'9.rd0 s_at_.rd) rfl rfl c'10) (ZB rfl b'7 (ze rfl (Za1 (off':=0) (off2:=1) (hO'9.rd0 s_at_.rd) (Zi c'10) rfl rfl) (ZB rfl b'7 (ze rfl (zB (w:=.n ((gi at_ i.toNat).Y)) (hO'9.rd0 s_at_.rd) rfl (Zi c'10) rfl) (ZB rfl b'7 (ze rfl (ZaL (r:=r'1) (o:=0) (o':=1) g'3_12 rfl) (ZB rfl b'7 ?_)))))))
        refine ze rfl (Zac (cs:=(Zc.c (gi at_ a.toNat))) (v:=.n ((gi at_ a.toNat).Y)) (hO'9.box 0 rfl) rfl rfl) (ZB rfl b'7 (ze rfl (zN (a:=((gi at_ i.toNat).Y)) (b:=((gi at_ a.toNat).Y)) rfl rfl) (ze rfl (zr (t:=t2) (v:=.b t3) rfl b'7 (Eq.trans (b:=V.b (decide (((gi at_ i.toNat).Y) < ((gi at_ a.toNat).Y)))) rfl (congrArg V.b (Option.some.inj hp)))) (Za9 ?_))))
        exact ⟨rfl,rfl,g'3_0,g'3_1,g'3_10,g'3_12,g'3_13,g'3_2,g'3_3,g'3_9⟩
       ·skip
        refine Zx rfl b'7 (Zx rfl b'7 (Zx rfl b'7 (Zx rfl b'7 (Zx rfl b'7 (Zx rfl b'7 (Zx rfl b'7 (Zx rfl b'7 ?_)))))))
        refine ze rfl (zm (t:=t2) (v:=.b t3) rfl b'7 (Eq.trans (b:=V.b false) rfl (congrArg V.b (Option.some.inj hp)))) (Za9 ?_)
        exact ⟨rfl,rfl,g'3_0,g'3_1,g'3_10,g'3_12,g'3_13,g'3_2,g'3_3,g'3_9⟩
      rintro frg'4 _ ⟨rfl,g'4_88,g'4_0,g'4_1,g'4_10,g'4_12,g'4_13,g'4_2,g'4_3,g'4_9⟩
      refine ZaE (.b t3) g'4_88 ?_
      obtain ⟨t4,hv'5,hp⟩:=Zq hp
      refine Zcj 9 (fun fr' k'=>(k'8.bump 58) = k'∧fr' 98 = .b t4∧fr' 0 = v_at_∧fr' 1 = v_l∧fr' 10 = .n d∧fr' 12 = .p r'1 0∧fr' 13 = .p r'2 0∧fr' 2 = .n i∧fr' 3 = .n w∧fr' 9 = .n a) ?_ ?_
      ·clear hp; rcases Zp hv'5 with ⟨b'8,hp⟩ | ⟨b'8,hp⟩
       ·skip
        refine ZB rfl b'8 (ze rfl (ZaL (r:=r'1) (o:=0) (o':=1) g'4_12 rfl) (ZB rfl b'8 (ze rfl (Zac (cs:=(Zc.c (gi at_ a.toNat))) (v:=.n ((gi at_ a.toNat).Y)) (hO'9.box 0 rfl) rfl rfl) (ZB rfl b'8 (ZaE v_at_ g'4_0 (ZB rfl b'8 (ZaE (.n w) g'4_3 ?_)))))))
        refine ZB rfl b'8 ?_
        obtain ⟨c'11,hp⟩:=Zj hp
        refine ze rfl (zf (E:=Zc) (z:=w) (hO'9.rd0 s_at_.rd) rfl rfl c'11) (ZB rfl b'8 (ze rfl (Za1 (off':=0) (off2:=1) (hO'9.rd0 s_at_.rd) (Zi c'11) rfl rfl) (ZB rfl b'8 (ze rfl (zB (w:=.n ((gi at_ w.toNat).Y)) (hO'9.rd0 s_at_.rd) rfl (Zi c'11) rfl) (ZB rfl b'8 (ze rfl (zN (a:=((gi at_ a.toNat).Y)) (b:=((gi at_ w.toNat).Y)) rfl rfl) (ze rfl (zr (t:=t3) (v:=.b t4) rfl b'8 (Eq.trans (b:=V.b (decide (((gi at_ a.toNat).Y) < ((gi at_ w.toNat).Y)))) rfl (congrArg V.b (Option.some.inj hp)))) ?_)))))))
        refine Za9 ?_
        exact ⟨rfl,rfl,g'4_0,g'4_1,g'4_10,g'4_12,g'4_13,g'4_2,g'4_3,g'4_9⟩
       ·skip
        refine Zx rfl b'8 (Zx rfl b'8 (Zx rfl b'8 (Zx rfl b'8 (Zx rfl b'8 (Zx rfl b'8 (Zx rfl b'8 (Zx rfl b'8 ?_)))))))
        refine ze rfl (zm (t:=t3) (v:=.b t4) rfl b'8 (Eq.trans (b:=V.b false) rfl (congrArg V.b (Option.some.inj hp)))) (Za9 ?_)
        exact ⟨rfl,rfl,g'4_0,g'4_1,g'4_10,g'4_12,g'4_13,g'4_2,g'4_3,g'4_9⟩
      rintro frg'5 _ ⟨rfl,g'5_98,g'5_0,g'5_1,g'5_10,g'5_12,g'5_13,g'5_2,g'5_3,g'5_9⟩
      refine Za9 (Za ?_)
      rcases Zp hp with ⟨b'9,hp⟩ | ⟨b'9,hp⟩
      ·refine zA (t:=t4) g'5_98 b'9 ?_
       refine Zh (Zk (Zd (.b true) rfl (Zb (Za (Zad (zk (ZaP ?_)))))))
       refine zk ?_
       cases hp
       refine (Or.inr ⟨.inr (),rfl,(fun h=>nomatch h),(fun he=>?_)⟩)
       subst he; exact ⟨rfl,rfl,(hO'9.pick [] rfl (by decide))⟩
      ·refine z7 (t:=t4) g'5_98 b'9 ?_
       refine zD (Za (Zh (ZgF ?_)))
       have hW:=hO'9.bump 58
       have hO'10:=hW
       refine ze rfl (ZaL (r:=r'1) (o:=0) (o':=0) g'5_12 rfl) (ze rfl (Zac (cs:=(Zc.c (gi at_ a.toNat))) (v:=.n ((gi at_ a.toNat).X)) (hO'10.box 0 rfl) rfl rfl) (ze rfl (ZaL (r:=r'2) (o:=0) (o':=0) g'5_13 rfl) (ze rfl (Zac (cs:=(Zc.c (gi at_ (((gi l a.toNat).Next).get d:Int).toNat))) (v:=.n ((gi at_ (((gi l a.toNat).Next).get d:Int).toNat).X)) (hO'10.box 1 rfl) rfl rfl) (ze rfl (ZbQ (a:=((gi at_ a.toNat).X)) (b:=((gi at_ (((gi l a.toNat).Next).get d:Int).toNat).X)) rfl rfl) (ZaE (.b (decide ((gi at_ a.toNat).X = (gi at_ (((gi l a.toNat).Next).get d:Int).toNat).X))) rfl ?_)))))
       obtain ⟨t5,hv'6,hp⟩:=Zq hp
       refine Zcj 12 (fun fr' k'=>((k'8.bump 58).bump 58) = k'∧fr' 116 = .b t5∧fr' 0 = v_at_∧fr' 1 = v_l∧fr' 10 = .n d∧fr' 12 = .p r'1 0∧fr' 13 = .p r'2 0∧fr' 2 = .n i∧fr' 3 = .n w∧fr' 9 = .n a) ?_ ?_
       ·clear hp; rcases Zp hv'6 with ⟨b'10,hp⟩ | ⟨b'10,hp⟩
        ·skip
         refine ZB rfl b'10 (ZaE v_at_ g'5_0 (ZB rfl b'10 (ZaE (.n i) g'5_2 (ZB rfl b'10 ?_))))
         obtain ⟨c'12,hp⟩:=Zj hp
         refine ze rfl (zf (E:=Zc) (z:=i) (hO'10.rd0 s_at_.rd:Sl Zc ((k'8.bump 58).bump 58) v_at_ at_) rfl rfl c'12) (ZB rfl b'10 (ze rfl (Za1 (off':=0) (off2:=1) (hO'10.rd0 s_at_.rd:Sl Zc ((k'8.bump 58).bump 58) v_at_ at_) (Zi c'12) rfl rfl) (ZB rfl b'10 (ze rfl (zB (w:=.n ((gi at_ i.toNat).Y)) (hO'10.rd0 s_at_.rd:Sl Zc ((k'8.bump 58).bump 58) v_at_ at_) rfl (Zi c'12) rfl) (ZB rfl b'10 (ZaE v_at_ g'5_0 (ZB rfl b'10 ?_)))))))
         refine ZaE (.n w) g'5_3 (ZB rfl b'10 ?_)
         obtain ⟨c'13,hp⟩:=Zj hp
         refine ze rfl (zf (E:=Zc) (z:=w) (hO'10.rd0 s_at_.rd:Sl Zc ((k'8.bump 58).bump 58) v_at_ at_) rfl rfl c'13) (ZB rfl b'10 (ze rfl (Za1 (off':=0) (off2:=1) (hO'10.rd0 s_at_.rd:Sl Zc ((k'8.bump 58).bump 58) v_at_ at_) (Zi c'13) rfl rfl) (ZB rfl b'10 (ze rfl (zB (w:=.n ((gi at_ w.toNat).Y)) (hO'10.rd0 s_at_.rd:Sl Zc ((k'8.bump 58).bump 58) v_at_ at_) rfl (Zi c'13) rfl) (ZB rfl b'10 (ze rfl (ZbQ (a:=((gi at_ i.toNat).Y)) (b:=((gi at_ w.toNat).Y)) rfl rfl) (ze rfl (zr (t:=(decide ((gi at_ a.toNat).X = (gi at_ (((gi l a.toNat).Next).get d:Int).toNat).X))) (v:=.b t5) rfl b'10 (Eq.trans (b:=V.b (decide ((gi at_ i.toNat).Y = (gi at_ w.toNat).Y))) rfl (congrArg V.b (Option.some.inj hp)))) ?_)))))))
         refine Za9 ?_
         exact ⟨rfl,rfl,g'5_0,g'5_1,g'5_10,g'5_12,g'5_13,g'5_2,g'5_3,g'5_9⟩
        ·skip
         refine Zx rfl b'10 (Zx rfl b'10 (Zx rfl b'10 (Zx rfl b'10 (Zx rfl b'10 (Zx rfl b'10 (Zx rfl b'10 (Zx rfl b'10 ?_)))))))
         refine Zx rfl b'10 (Zx rfl b'10 (Zx rfl b'10 (ze rfl (zm (t:=(decide ((gi at_ a.toNat).X = (gi at_ (((gi l a.toNat).Next).get d:Int).toNat).X))) (v:=.b t5) rfl b'10 (Eq.trans (b:=V.b false) rfl (congrArg V.b (Option.some.inj hp)))) (Za9 ?_))))
         exact ⟨rfl,rfl,g'5_0,g'5_1,g'5_10,g'5_12,g'5_13,g'5_2,g'5_3,g'5_9⟩
       rintro frg'6 _ ⟨rfl,g'6_116,g'6_0,g'6_1,g'6_10,g'6_12,g'6_13,g'6_2,g'6_3,g'6_9⟩
       refine ZaE (.b t5) g'6_116 ?_
       obtain ⟨t6,hv'7,hp⟩:=Zq hp
       refine Zcj 9 (fun fr' k'=>((k'8.bump 58).bump 58) = k'∧fr' 126 = .b t6∧fr' 0 = v_at_∧fr' 1 = v_l∧fr' 10 = .n d∧fr' 12 = .p r'1 0∧fr' 13 = .p r'2 0∧fr' 2 = .n i∧fr' 3 = .n w∧fr' 9 = .n a) ?_ ?_
       ·clear hp; rcases Zp hv'7 with ⟨b'11,hp⟩ | ⟨b'11,hp⟩
        ·skip
         refine ZB rfl b'11 (ZaE v_at_ g'6_0 (ZB rfl b'11 (ZaE (.n i) g'6_2 (ZB rfl b'11 ?_))))
         obtain ⟨c'14,hp⟩:=Zj hp
         refine ze rfl (zf (E:=Zc) (z:=i) (hO'10.rd0 s_at_.rd:Sl Zc ((k'8.bump 58).bump 58) v_at_ at_) rfl rfl c'14) (ZB rfl b'11 (ze rfl (Za1 (off':=0) (off2:=0) (hO'10.rd0 s_at_.rd:Sl Zc ((k'8.bump 58).bump 58) v_at_ at_) (Zi c'14) rfl rfl) (ZB rfl b'11 (ze rfl (zB (w:=.n ((gi at_ i.toNat).X)) (hO'10.rd0 s_at_.rd:Sl Zc ((k'8.bump 58).bump 58) v_at_ at_) rfl (Zi c'14) rfl) (ZB rfl b'11 (ze rfl (ZaL (r:=r'1) (o:=0) (o':=0) g'6_12 rfl) (ZB rfl b'11 ?_)))))))
         refine ze rfl (Zac (cs:=(Zc.c (gi at_ a.toNat))) (v:=.n ((gi at_ a.toNat).X)) (hO'10.box 0 rfl) rfl rfl) (ZB rfl b'11 (ze rfl (zN (a:=((gi at_ i.toNat).X)) (b:=((gi at_ a.toNat).X)) rfl rfl) (ze rfl (zr (t:=t5) (v:=.b t6) rfl b'11 (Eq.trans (b:=V.b (decide (((gi at_ i.toNat).X) < ((gi at_ a.toNat).X)))) rfl (congrArg V.b (Option.some.inj hp)))) (Za9 ?_))))
         exact ⟨rfl,rfl,g'6_0,g'6_1,g'6_10,g'6_12,g'6_13,g'6_2,g'6_3,g'6_9⟩
        ·skip
         refine Zx rfl b'11 (Zx rfl b'11 (Zx rfl b'11 (Zx rfl b'11 (Zx rfl b'11 (Zx rfl b'11 (Zx rfl b'11 (Zx rfl b'11 ?_)))))))
         refine ze rfl (zm (t:=t5) (v:=.b t6) rfl b'11 (Eq.trans (b:=V.b false) rfl (congrArg V.b (Option.some.inj hp)))) (Za9 ?_)
         exact ⟨rfl,rfl,g'6_0,g'6_1,g'6_10,g'6_12,g'6_13,g'6_2,g'6_3,g'6_9⟩
       rintro frg'7 _ ⟨rfl,g'7_126,g'7_0,g'7_1,g'7_10,g'7_12,g'7_13,g'7_2,g'7_3,g'7_9⟩
       refine ZaE (.b t6) g'7_126 ?_
       obtain ⟨t7,hv'8,hp⟩:=Zq hp
       refine Zcj 9 (fun fr' k'=>((k'8.bump 58).bump 58) = k'∧fr' 136 = .b t7∧fr' 0 = v_at_∧fr' 1 = v_l∧fr' 10 = .n d∧fr' 12 = .p r'1 0∧fr' 13 = .p r'2 0∧fr' 2 = .n i∧fr' 3 = .n w∧fr' 9 = .n a) ?_ ?_
       ·clear hp; rcases Zp hv'8 with ⟨b'12,hp⟩ | ⟨b'12,hp⟩
        ·skip
         refine ZB rfl b'12 (ze rfl (ZaL (r:=r'1) (o:=0) (o':=0) g'7_12 rfl) (ZB rfl b'12 (ze rfl (Zac (cs:=(Zc.c (gi at_ a.toNat))) (v:=.n ((gi at_ a.toNat).X)) (hO'10.box 0 rfl) rfl rfl) (ZB rfl b'12 (ZaE v_at_ g'7_0 (ZB rfl b'12 (ZaE (.n w) g'7_3 ?_)))))))
         refine ZB rfl b'12 ?_
         obtain ⟨c'15,hp⟩:=Zj hp
         refine ze rfl (zf (E:=Zc) (z:=w) (hO'10.rd0 s_at_.rd:Sl Zc ((k'8.bump 58).bump 58) v_at_ at_) rfl rfl c'15) (ZB rfl b'12 (ze rfl (Za1 (off':=0) (off2:=0) (hO'10.rd0 s_at_.rd:Sl Zc ((k'8.bump 58).bump 58) v_at_ at_) (Zi c'15) rfl rfl) (ZB rfl b'12 (ze rfl (zB (w:=.n ((gi at_ w.toNat).X)) (hO'10.rd0 s_at_.rd:Sl Zc ((k'8.bump 58).bump 58) v_at_ at_) rfl (Zi c'15) rfl) (ZB rfl b'12 (ze rfl (zN (a:=((gi at_ a.toNat).X)) (b:=((gi at_ w.toNat).X)) rfl rfl) (ze rfl (zr (t:=t6) (v:=.b t7) rfl b'12 (Eq.trans (b:=V.b (decide (((gi at_ a.toNat).X) < ((gi at_ w.toNat).X)))) rfl (congrArg V.b (Option.some.inj hp)))) ?_)))))))
         refine Za9 ?_
         exact ⟨rfl,rfl,g'7_0,g'7_1,g'7_10,g'7_12,g'7_13,g'7_2,g'7_3,g'7_9⟩
        ·skip
         refine Zx rfl b'12 (Zx rfl b'12 (Zx rfl b'12 (Zx rfl b'12 (Zx rfl b'12 (Zx rfl b'12 (Zx rfl b'12 (Zx rfl b'12 ?_)))))))
         refine ze rfl (zm (t:=t6) (v:=.b t7) rfl b'12 (Eq.trans (b:=V.b false) rfl (congrArg V.b (Option.some.inj hp)))) (Za9 ?_)
         exact ⟨rfl,rfl,g'7_0,g'7_1,g'7_10,g'7_12,g'7_13,g'7_2,g'7_3,g'7_9⟩
       rintro frg'8 _ ⟨rfl,g'8_136,g'8_0,g'8_1,g'8_10,g'8_12,g'8_13,g'8_2,g'8_3,g'8_9⟩
       refine ZaE (.b t7) g'8_136 ?_
       obtain ⟨t8,hv'9,hp⟩:=Zq hp
       refine Zcj 9 (fun fr' k'=>((k'8.bump 58).bump 58) = k'∧fr' 146 = .b t8∧fr' 0 = v_at_∧fr' 1 = v_l∧fr' 10 = .n d∧fr' 13 = .p r'2 0∧fr' 2 = .n i∧fr' 3 = .n w∧fr' 9 = .n a) ?_ ?_
       ·clear hp; rcases Zp hv'9 with ⟨b'13,hp⟩ | ⟨b'13,hp⟩
        ·skip
         refine ZB rfl b'13 (ze rfl (ZaL (r:=r'1) (o:=0) (o':=1) g'8_12 rfl) (ZB rfl b'13 (ze rfl (Zac (cs:=(Zc.c (gi at_ a.toNat))) (v:=.n ((gi at_ a.toNat).Y)) (hO'10.box 0 rfl) rfl rfl) (ZB rfl b'13 (ZaE v_at_ g'8_0 (ZB rfl b'13 (ZaE (.n i) g'8_2 ?_)))))))
         refine ZB rfl b'13 ?_
         obtain ⟨c'16,hp⟩:=Zj hp
         refine ze rfl (zf (E:=Zc) (z:=i) (hO'10.rd0 s_at_.rd:Sl Zc ((k'8.bump 58).bump 58) v_at_ at_) rfl rfl c'16) (ZB rfl b'13 (ze rfl (Za1 (off':=0) (off2:=1) (hO'10.rd0 s_at_.rd:Sl Zc ((k'8.bump 58).bump 58) v_at_ at_) (Zi c'16) rfl rfl) (ZB rfl b'13 (ze rfl (zB (w:=.n ((gi at_ i.toNat).Y)) (hO'10.rd0 s_at_.rd:Sl Zc ((k'8.bump 58).bump 58) v_at_ at_) rfl (Zi c'16) rfl) (ZB rfl b'13 (ze rfl (zN (a:=((gi at_ a.toNat).Y)) (b:=((gi at_ i.toNat).Y)) rfl rfl) (ze rfl (zr (t:=t7) (v:=.b t8) rfl b'13 (Eq.trans (b:=V.b (decide (((gi at_ a.toNat).Y) < ((gi at_ i.toNat).Y)))) rfl (congrArg V.b (Option.some.inj hp)))) ?_)))))))
         refine Za9 ?_
         exact ⟨rfl,rfl,g'8_0,g'8_1,g'8_10,g'8_13,g'8_2,g'8_3,g'8_9⟩
        ·skip
         refine Zx rfl b'13 (Zx rfl b'13 (Zx rfl b'13 (Zx rfl b'13 (Zx rfl b'13 (Zx rfl b'13 (Zx rfl b'13 (Zx rfl b'13 ?_)))))))
         refine ze rfl (zm (t:=t7) (v:=.b t8) rfl b'13 (Eq.trans (b:=V.b false) rfl (congrArg V.b (Option.some.inj hp)))) (Za9 ?_)
         exact ⟨rfl,rfl,g'8_0,g'8_1,g'8_10,g'8_13,g'8_2,g'8_3,g'8_9⟩
       rintro frg'9 _ ⟨rfl,g'9_146,g'9_0,g'9_1,g'9_10,g'9_13,g'9_2,g'9_3,g'9_9⟩
       refine ZaE (.b t8) g'9_146 ?_
       obtain ⟨t9,hv'10,hp⟩:=Zq hp
       refine Zcj 9 (fun fr' k'=>((k'8.bump 58).bump 58) = k'∧fr' 156 = .b t9∧fr' 0 = v_at_∧fr' 1 = v_l∧fr' 10 = .n d∧fr' 2 = .n i∧fr' 3 = .n w∧fr' 9 = .n a) ?_ ?_
       ·clear hp; rcases Zp hv'10 with ⟨b'14,hp⟩ | ⟨b'14,hp⟩
        ·skip
         refine ZB rfl b'14 (ZaE v_at_ g'9_0 (ZB rfl b'14 (ZaE (.n i) g'9_2 (ZB rfl b'14 ?_))))
         obtain ⟨c'17,hp⟩:=Zj hp
         refine ze rfl (zf (E:=Zc) (z:=i) (hO'10.rd0 s_at_.rd:Sl Zc ((k'8.bump 58).bump 58) v_at_ at_) rfl rfl c'17) (ZB rfl b'14 (ze rfl (Za1 (off':=0) (off2:=1) (hO'10.rd0 s_at_.rd:Sl Zc ((k'8.bump 58).bump 58) v_at_ at_) (Zi c'17) rfl rfl) (ZB rfl b'14 (ze rfl (zB (w:=.n ((gi at_ i.toNat).Y)) (hO'10.rd0 s_at_.rd:Sl Zc ((k'8.bump 58).bump 58) v_at_ at_) rfl (Zi c'17) rfl) (ZB rfl b'14 (ze rfl (ZaL (r:=r'2) (o:=0) (o':=1) g'9_13 rfl) (ZB rfl b'14 ?_)))))))
         refine ze rfl (Zac (cs:=(Zc.c (gi at_ (((gi l a.toNat).Next).get d:Int).toNat))) (v:=.n ((gi at_ (((gi l a.toNat).Next).get d:Int).toNat).Y)) (hO'10.box 1 rfl) rfl rfl) (ZB rfl b'14 (ze rfl (zN (a:=((gi at_ i.toNat).Y)) (b:=((gi at_ (((gi l a.toNat).Next).get d:Int).toNat).Y)) rfl rfl) (ze rfl (zr (t:=t8) (v:=.b t9) rfl b'14 (Eq.trans (b:=V.b (decide (((gi at_ i.toNat).Y) < ((gi at_ (((gi l a.toNat).Next).get d:Int).toNat).Y)))) rfl (congrArg V.b (Option.some.inj hp)))) (Za9 ?_))))
         exact ⟨rfl,rfl,g'9_0,g'9_1,g'9_10,g'9_2,g'9_3,g'9_9⟩
        ·skip
         refine Zx rfl b'14 (Zx rfl b'14 (Zx rfl b'14 (Zx rfl b'14 (Zx rfl b'14 (Zx rfl b'14 (Zx rfl b'14 (Zx rfl b'14 ?_)))))))
         refine ze rfl (zm (t:=t8) (v:=.b t9) rfl b'14 (Eq.trans (b:=V.b false) rfl (congrArg V.b (Option.some.inj hp)))) (Za9 ?_)
         exact ⟨rfl,rfl,g'9_0,g'9_1,g'9_10,g'9_2,g'9_3,g'9_9⟩
       rintro frg'10 _ ⟨rfl,g'10_156,g'10_0,g'10_1,g'10_10,g'10_2,g'10_3,g'10_9⟩
       refine Za9 (Za ?_)
       rcases Zp hp with ⟨b'15,hp⟩ | ⟨b'15,hp⟩
       ·refine zA (t:=t9) g'10_156 b'15 ?_
        refine Zh (Zk (Zd (.b true) rfl (Zb (Za (Zad (ZaP (zk ?_)))))))
        cases hp
        refine (Or.inr ⟨.inr (),rfl,(fun h=>nomatch h),(fun he=>?_)⟩)
        subst he; exact ⟨rfl,rfl,(hO'10.pick [] rfl (by decide))⟩
       ·refine z7 (t:=t9) g'10_156 b'15 ?_
        refine zD (Zan (Za (Zk (Zd (.n d) g'10_10 ?_))))
        obtain ⟨c'18,hp⟩:=Zj hp
        refine Zg (z6 (a:=d) (b:=1) rfl rfl c'18) (Zd (.n (d + 1)) rfl (Zb ?_))
        cases hp
        exact (Or.inl ⟨d + 1,rfl,rfl,g'10_0,g'10_1,g'10_2,g'10_3,g'10_9,rfl,(hO'10.pick [] rfl (by decide))⟩)
    ·refine z7 (t:=(decide (d < 2))) rfl b'2 ?_
     refine Zbv (zY ?_)
     cases hp
     refine (Or.inr ⟨.inl (),rfl,(fun h=>nomatch h),(fun he=>?_)⟩)
     subst he; exact ⟨rfl,q'4_0,q'4_1,q'4_2,q'4_3,q'4_9,(hO'4.pick [] rfl (by decide))⟩
   intro e'2 q'3 k'3 hJ'2
   rcases o'3 with _ | _
   ·obtain ⟨rfl,q'3_0,q'3_1,q'3_2,q'3_3,q'3_9,hO'3⟩:=hJ'2
    refine ZaD (Zan (Za (Zk (Zd (.n a) q'3_9 ?_))))
    obtain ⟨c'19,hp⟩:=Zj hp
    refine Zg (z6 (a:=a) (b:=1) rfl rfl c'19) (Zd (.n (a + 1)) rfl (Zb ?_))
    cases hp
    exact (Or.inl ⟨a + 1,rfl,rfl,q'3_0,q'3_1,q'3_2,q'3_3,rfl,(hO'3.pick [] rfl (by decide))⟩)
   ·obtain ⟨rfl,q'3_8,hO'3⟩:=hJ'2
    refine ZaP (ZaP (zk ?_))
    cases hp
    refine (Or.inr ⟨.inr (),rfl,(fun h=>nomatch h),(fun he=>?_)⟩)
    subst he; exact ⟨rfl,q'3_8,(hO'3.pick [] rfl (by decide))⟩
  ·refine z7 (t:=(decide (a < (l.length:Int)))) rfl b'1 ?_
   refine Zbv (zY ?_)
   cases hp
   refine (Or.inr ⟨.inl (),rfl,(fun h=>nomatch h),(fun he=>?_)⟩)
   subst he; exact ⟨rfl,(hO'2.pick [] rfl (by decide))⟩
 intro e'1 q'1 k'1 hJ'1
 rcases o'1 with _ | _
 ·obtain ⟨rfl,hO'1⟩:=hJ'1
  refine ZaD (Za (Zh (Zk (Zd (.b false) rfl (Zb (Za (Zad ?_)))))))
  refine zu (zG (n:=8) (v:=.b false) rfl ZN) ?_
  cases hp
  exact ⟨rfl,(hO'1.pick [] rfl (by decide))⟩
 ·obtain ⟨rfl,q'1_8,hO'1⟩:=hJ'1
  refine ZaP (zk (zu (zG (n:=8) (v:=.b true) q'1_8 ZN) ?_))
  cases hp
  exact ⟨rfl,(hO'1.pick [] rfl (by decide))⟩

theorem Za4.ok {h:Hp} {l:List Ze} {v:Int} {d:Int} {w:Int} {o:Int} {v_l:V} (s_l:Sl Zn h v_l l) {r:(List Ze)} (hp:Za4 l v d w o = some r) :
  ∃ u k',Is G 65 [v_l,.n v,.n d,.n w,.n o] h u k'∧∃ (v'1:V),v'1 = u∧Own (fun r=>r < h.n) h k' [eSl Zn v'1 r]:=by
 refine WC.is (ZaM ZdI ?_)
 unfold Za4 at hp
 let B:Nat→Prop:=(fun r=>r < h.n)
 have hO:Own B h h []:=Own.start0 h
 refine Zh (Zk (Zd (.sn) rfl (Zb (Za (Zh (Zk (Zd (.sn) rfl ?_)))))))
 refine Zb (Za (Zh (Zh (Zk (Zd (.n 0) rfl (Zb (Za ?_)))))))
 refine Zaq ?_
 obtain ⟨o'1,ho'1,hp⟩:=Zq hp
 refine W.mono (Q:=fun e fr k=>match (generalizing:=false) o'1 with
   | out1=>e = (.exit 0)∧∃ (v'3:V),fr 11 = v'3∧Own B h k [eSl Zn v'3 out1]) ?_ ?_
 ·clear hp
  have hO'2:=hO.nil Zn
  refine zP (fun st fr k=>match st with | (out,i)=>∃ (v'2:V),fr 0 = v_l∧fr 1 = .n v∧fr 2 = .n d∧fr 3 = .n w∧fr 4 = .n o∧fr 11 = v'2∧fr 12 = .n i∧Own B h k [eSl Zn v'2 out]) ho'1 (s:=(([]:List Ze),0)) ⟨V.sn,rfl,rfl,rfl,rfl,rfl,rfl,rfl,(hO'2.pick [0] rfl (by decide))⟩ ?_
  rintro ⟨out,i⟩ q'2 k'2 ⟨v'2,q'2_0,q'2_1,q'2_2,q'2_3,q'2_4,q'2_11,q'2_12,hO'3⟩ o'2 hp
  dsimp only [Za4.s0] at hp
  refine Zh (Zh (Zk (Zd (.n i) q'2_12 (Zd v_l q'2_0 (Zg (Zau (hO'3.rd0 s_l.rd) rfl) (Zg (zN (a:=i) (b:=(l.length:Int)) rfl rfl) (Zb ?_)))))))
  refine Za ?_
  rcases Zp hp with ⟨b'1,hp⟩ | ⟨b'1,hp⟩
  ·refine zA (t:=(decide (i < (l.length:Int)))) rfl b'1 ?_
   refine zD (Za (Zh (Zaq (Zh (Zk (Zd v_l q'2_0 (Zd (.n i) q'2_12 ?_)))))))
   obtain ⟨c'1,hp⟩:=Zj hp
   refine Zg (zf (E:=Zn) (z:=i) (hO'3.rd0 s_l.rd) rfl rfl c'1) (Zg (Zd5 (E:=Zn) (hO'3.rd0 s_l.rd) rfl (Zi c'1)) (zQ (hO'3.alloc (cs:=Zn.c (⟨⟨0,0,0,0⟩,⟨0,0,0,0⟩⟩:Ze)) hO'3.fr) ?_))
   rintro _ k'3 ⟨r'1,rfl,n'1,f'1,hW⟩
   have hO'4:=hW
   refine zQ (hO'4.stb (ws:=Zn.c (gi l i.toNat)) (cs':=Zn.c (gi l i.toNat)) (v:=.ag (Zn.c (gi l i.toNat))) 1 rfl rfl rfl rfl ⟨rfl,Nat.le_of_ble_eq_true rfl,rfl⟩ rfl) ?_
   rintro _ k'4 ⟨rfl,f'2,m'1,hW⟩
   have hO'5:=hW
   refine Zb (Za (Zh (Zh (Zk (Zd (.n i) q'2_12 (Zd (.n v) q'2_1 (Zg (ZbQ (a:=i) (b:=v) rfl rfl) ?_)))))))
   refine Zb (Za ?_)
   obtain ⟨o'3,ho'2,hp⟩:=Zq hp
   refine W.mono (Q:=fun e fr k=>match (generalizing:=false) o'3 with
     | c=>e = .normal∧fr 0 = v_l∧fr 1 = .n v∧fr 2 = .n d∧fr 3 = .n w∧fr 4 = .n o∧fr 11 = v'2∧fr 12 = .n i∧fr 13 = .p r'1 0∧Own B h k [eSl Zn v'2 out,ZbF r'1 (Zn.c c)]) ?_ ?_
   ·clear hp; have hp:=ho'2; clear ho'2
    rcases Zp hp with ⟨b'2,hp⟩ | ⟨b'2,hp⟩
    ·refine zA (t:=(decide (i = v))) rfl b'2 ?_
     refine Zh (Zk (Zd (.n d) q'2_2 (Zd (.n w) q'2_3 (Zg (ZaL (r:=r'1) (o:=0) (o':=0) rfl rfl) ?_))))
     obtain ⟨c'2,hp⟩:=Zj hp
     refine Zg (ZdU (o:=0) (o':=(0 + d.toNat * 1)) (z:=d) rfl rfl c'2 rfl) (zQ (hO'5.stb (ws:=[.n w]) (cs':=Zn.c ({ gi l i.toNat with Next:=((gi l i.toNat).Next).set d w })) (v:=.n w) 1 rfl rfl rfl rfl ⟨rfl,(by have:=c'2; exact (show 0 + d.toNat * 1 + 1≤8 by omega)),rfl⟩ (Zdc c'2)) ?_)
     rintro _ k'6 ⟨rfl,f'3,m'2,hW⟩
     have hO'7:=hW
     refine Zb (Za (Zk (Zd (.n d) q'2_2 (Zd (.n o) q'2_4 (Zg (ZaL (r:=r'1) (o:=0) (o':=4) rfl rfl) (Zg (ZdU (o:=4) (o':=(4 + d.toNat * 1)) (z:=d) rfl rfl c'2 rfl) (zQ (hO'7.stb (ws:=[.n o]) (cs':=Zn.c ({ { gi l i.toNat with Next:=((gi l i.toNat).Next).set d w } with Owner:=(({ gi l i.toNat with Next:=((gi l i.toNat).Next).set d w }).Owner).set d o })) (v:=.n o) 1 rfl rfl rfl rfl ⟨rfl,(by have:=c'2; exact (show 4 + d.toNat * 1 + 1≤8 by omega)),rfl⟩ (Zec c'2)) ?_)))))))
     rintro _ k'7 ⟨rfl,f'4,m'3,hW⟩
     have hO'8:=hW
     refine Zb ?_
     cases hp
     exact ⟨rfl,q'2_0,q'2_1,q'2_2,q'2_3,q'2_4,q'2_11,q'2_12,rfl,(hO'8.pick [0,1] rfl (by decide))⟩
    ·refine z7 (t:=(decide (i = v))) rfl b'2 ?_
     refine zD ?_
     cases hp
     exact ⟨rfl,q'2_0,q'2_1,q'2_2,q'2_3,q'2_4,q'2_11,q'2_12,rfl,(hO'5.pick [0,1] rfl (by decide))⟩
   intro e'2 q'3 k'5 hJ'2
   obtain ⟨c,rfl⟩:∃ x,x = o'3:=⟨_,rfl⟩
   obtain ⟨rfl,q'3_0,q'3_1,q'3_2,q'3_3,q'3_4,q'3_11,q'3_12,q'3_13,hO'6⟩:=hJ'2
   refine Za (Zh (Zh (Zk (Zd (.n i) q'3_12 (Zd (.n w) q'3_3 (Zg (ZbQ (a:=i) (b:=w) rfl rfl) (Zb ?_)))))))
   refine Za ?_
   rcases Zp hp with ⟨b'3,hp⟩ | ⟨b'3,hp⟩
   ·refine zA (t:=(decide (i = w))) rfl b'3 ?_
    refine Zh (Zk (Zd (.n d) q'3_2 ?_))
    obtain ⟨c'3,hp⟩:=Zj hp
    refine Zg (z6 (a:=d) (b:=2) rfl rfl c'3) (Zg (ZcU (a:=(d + 2)) (b:=4) rfl rfl (by decide)) (Zd (.n v) q'3_1 (Zg (ZaL (r:=r'1) (o:=0) (o':=0) q'3_13 rfl) ?_)))
    obtain ⟨c'4,hp⟩:=Zj hp
    refine Zg (ZdU (o:=0) (o':=(0 + ((d + 2).tmod 4:Int).toNat * 1)) (z:=((d + 2).tmod 4)) rfl rfl c'4 rfl) (zQ (hO'6.stb (ws:=[.n v]) (cs':=Zn.c ({ c with Next:=c.Next.set ((d + 2).tmod 4) v })) (v:=.n v) 1 rfl rfl rfl rfl ⟨rfl,(by have:=c'4; exact (show 0 + ((d + 2).tmod 4:Int).toNat * 1 + 1≤8 by omega)),rfl⟩ (Zdc c'4)) ?_)
    rintro _ k'8 ⟨rfl,f'5,m'4,hW⟩
    have hO'9:=hW
    refine Zb (Za (Zk (Zd (.n d) q'3_2 (Zg (z6 (a:=d) (b:=2) rfl rfl c'3) (Zg (ZcU (a:=(d + 2)) (b:=4) rfl rfl (by decide)) (Zd (.n o) q'3_4 (Zg (ZaL (r:=r'1) (o:=0) (o':=4) q'3_13 rfl) ?_)))))))
    refine Zg (ZdU (o:=4) (o':=(4 + ((d + 2).tmod 4:Int).toNat * 1)) (z:=((d + 2).tmod 4)) rfl rfl c'4 rfl) (zQ (hO'9.stb (ws:=[.n o]) (cs':=Zn.c ({ { c with Next:=c.Next.set ((d + 2).tmod 4) v } with Owner:=(({ c with Next:=c.Next.set ((d + 2).tmod 4) v }).Owner).set ((d + 2).tmod 4) o })) (v:=.n o) 1 rfl rfl rfl rfl ⟨rfl,(by have:=c'4; exact (show 4 + ((d + 2).tmod 4:Int).toNat * 1 + 1≤8 by omega)),rfl⟩ (Zec c'4)) ?_)
    rintro _ k'9 ⟨rfl,f'6,m'5,hW⟩
    have hO'10:=hW
    refine Zb (Za (Zk (Zd v'2 q'3_11 (Zg (Zb7 (cs:=(Zn.c ({ { c with Next:=c.Next.set ((d + 2).tmod 4) v } with Owner:=(({ c with Next:=c.Next.set ((d + 2).tmod 4) v }).Owner).set ((d + 2).tmod 4) o }))) (ws:=Zn.c ({ { c with Next:=c.Next.set ((d + 2).tmod 4) v } with Owner:=(({ c with Next:=c.Next.set ((d + 2).tmod 4) v }).Owner).set ((d + 2).tmod 4) o })) (hO'10.box 1 rfl) q'3_13 rfl) (zQ (hO'10.bsl (E:=Zn) (l:=[{ { c with Next:=c.Next.set ((d + 2).tmod 4) v } with Owner:=(({ c with Next:=c.Next.set ((d + 2).tmod 4) v }).Owner).set ((d + 2).tmod 4) o }]) hO'10.fr (by rw [(zt (v:=.ag (Zn.c ({ { c with Next:=c.Next.set ((d + 2).tmod 4) v } with Owner:=(({ c with Next:=c.Next.set ((d + 2).tmod 4) v }).Owner).set ((d + 2).tmod 4) o }))) rfl Za2)]; rfl) rfl) ?_)))))
    rintro v'4 k'10 ⟨r'2,f'7,hW⟩
    have hO'11:=hW
    obtain ⟨c'5,hp⟩:=Zj hp
    refine zQ (hO'11.app (E:=Zn) (bytes:=64) 0 hO'11.fr rfl (hO'11.sl 2 rfl:Sl Zn k'10 v'4 [{ { c with Next:=c.Next.set ((d + 2).tmod 4) v } with Owner:=(({ c with Next:=c.Next.set ((d + 2).tmod 4) v }).Owner).set ((d + 2).tmod 4) o }]) rfl rfl (fun _=>rfl) c'5 (by decide)) ?_
    rintro v'5 k'11 ⟨f'8,hW⟩
    have hO'12:=hW
    refine Zd v'5 rfl (Zb (Zan (Za (Zk (Zd (.n i) q'3_12 ?_)))))
    obtain ⟨c'6,hp⟩:=Zj hp
    refine Zg (z6 (a:=i) (b:=1) rfl rfl c'6) (Zd (.n (i + 1)) rfl (Zb ?_))
    cases hp
    exact (Or.inl ⟨(out++[{ { c with Next:=c.Next.set ((d + 2).tmod 4) v } with Owner:=(({ c with Next:=c.Next.set ((d + 2).tmod 4) v }).Owner).set ((d + 2).tmod 4) o }],i + 1),rfl,rfl,v'5,q'3_0,q'3_1,q'3_2,q'3_3,q'3_4,rfl,rfl,(hO'12.pick [0] rfl (by decide))⟩)
   ·refine z7 (t:=(decide (i = w))) rfl b'3 ?_
    refine zD (Za (Zk (Zd v'2 q'3_11 (Zg (Zb7 (cs:=(Zn.c c)) (ws:=Zn.c c) (hO'6.box 1 rfl) q'3_13 rfl) (zQ (hO'6.bsl (E:=Zn) (l:=[c]) hO'6.fr (by rw [(zt (v:=.ag (Zn.c c)) rfl Za2)]; rfl) rfl) ?_)))))
    rintro v'6 k'12 ⟨r'3,f'9,hW⟩
    have hO'13:=hW
    obtain ⟨c'7,hp⟩:=Zj hp
    refine zQ (hO'13.app (E:=Zn) (bytes:=64) 0 hO'13.fr rfl (hO'13.sl 2 rfl) rfl rfl (fun _=>rfl) c'7 (by decide)) ?_
    rintro v'7 k'13 ⟨f'10,hW⟩
    have hO'14:=hW
    refine Zd v'7 rfl (Zb (Zan (Za (Zk (Zd (.n i) q'3_12 ?_)))))
    obtain ⟨c'8,hp⟩:=Zj hp
    refine Zg (z6 (a:=i) (b:=1) rfl rfl c'8) (Zd (.n (i + 1)) rfl (Zb ?_))
    cases hp
    exact (Or.inl ⟨(out++[c],i + 1),rfl,rfl,v'7,q'3_0,q'3_1,q'3_2,q'3_3,q'3_4,rfl,rfl,(hO'14.pick [0] rfl (by decide))⟩)
  ·refine z7 (t:=(decide (i < (l.length:Int)))) rfl b'1 ?_
   refine Zbv (zY ?_)
   cases hp
   refine (Or.inr ⟨out,rfl,(fun h=>nomatch h),(fun he=>?_)⟩)
   subst he; exact ⟨rfl,v'2,q'2_11,(hO'3.pick [0] rfl (by decide))⟩
 intro e'1 q'1 k'1 hJ'1
 obtain ⟨out1,rfl⟩:∃ x,x = o'1:=⟨_,rfl⟩
 obtain ⟨rfl,v'3,q'1_11,hO'1⟩:=hJ'1
 refine ZaD (Za (Zh (Zk (Zd v'3 q'1_11 (Zd v'3 rfl (Zb (Za ?_)))))))
 refine Zad (zu (zG (n:=10) (v:=v'3) rfl ZN) ?_)
 cases hp
 exact ⟨v'3,rfl,(hO'1.pick [0] rfl (by decide))⟩

theorem ZV.ok {h:Hp} {z:zX} {most:Int} {v_z_At:V} {v_z_Bits:V} {v_z_Own:V} (s_z_At:Sl Zfm h v_z_At z.At) (s_z_Bits:Sl Zfm h v_z_Bits z.Bits) (s_z_Own:Sl ZiC h v_z_Own z.Own) {r:(List Ze) × (List Zf)} (hp:ZV z most = some r) :
  ∃ u k',Is G 28 [.ag [v_z_At,v_z_Bits,v_z_Own],.n most] h u k'∧∃ (v'1:V),∃ (v'2:V),V.tu [v'1,v'2] = u∧Own (fun r=>r < h.n) h k' [eSl Zn v'1 r.1,eSl Zc v'2 r.2]:=by
 refine WC.is (ZaM ZdH ?_)
 unfold ZV at hp
 let B:Nat→Prop:=(fun r=>r < h.n)
 have hO:Own B h h []:=Own.start0 h
 refine Zh (Zk (zQ (hO.boxd (v:=.ag [v_z_At,v_z_Bits,v_z_Own]) (cs:=[v_z_At,v_z_Bits,v_z_Own]) hO.fr rfl rfl) ?_))
 rintro _ k'1 ⟨r'1,rfl,n'1,f'1,hW⟩
 have hO'1:=hW
 refine Zd (.sn) rfl (Zd (.sn) rfl (Zb (Za (Zh (Zk (Zd (.sn) rfl (Zb ?_)))))))
 refine Za (Zh (Zh (Zk (Zd (.n 0) rfl (Zb (Za (Zaq ?_)))))))
 obtain ⟨o'1,ho'1,hp⟩:=Zq hp
 refine W.mono (Q:=fun e fr k=>match (generalizing:=false) o'1 with
   | at_1=>e = (.exit 0)∧∃ (v'4:V),fr 2 = .p r'1 0∧fr 6 = v'4∧Own B h k [ZbF r'1 [v_z_At,v_z_Bits,v_z_Own],eSl Zc v'4 at_1]) ?_ ?_
 ·clear hp
  have hO'3:=hO'1.nil Zc
  refine zP (fun st fr k=>match st with | (at_,i)=>∃ (v'3:V),fr 1 = .n most∧fr 2 = .p r'1 0∧fr 6 = v'3∧fr 7 = .n i∧Own B h k [ZbF r'1 [v_z_At,v_z_Bits,v_z_Own],eSl Zc v'3 at_]) ho'1 (s:=(([]:List Zf),0)) ⟨V.sn,rfl,rfl,rfl,rfl,(hO'3.pick [0,1] rfl (by decide))⟩ ?_
  rintro ⟨at_,i⟩ q'2 k'3 ⟨v'3,q'2_1,q'2_2,q'2_6,q'2_7,hO'4⟩ o'2 hp
  dsimp only [ZV.s0] at hp
  refine Zh (Zh (Zk (Zd (.n i) q'2_7 (Zg (ZaL (r:=r'1) (o:=0) (o':=0) q'2_2 rfl) (Zg (Zac (cs:=[v_z_At,v_z_Bits,v_z_Own]) (v:=v_z_At) (hO'4.box 0 rfl) rfl rfl) (Zg (Zau (hO'4.rd0 s_z_At.rd) rfl) (Zg (zN (a:=i) (b:=(z.At.length:Int)) rfl rfl) ?_)))))))
  refine Zd (.b (decide (i < (z.At.length:Int)))) rfl ?_
  refine Za0 5 (fun fr' k'=>k'3 = k'∧fr' 28 = .b ((decide (i < (z.At.length:Int))) && (decide ((at_.length:Int) < most)))∧fr' 1 = .n most∧fr' 2 = .p r'1 0∧fr' 6 = v'3∧fr' 7 = .n i) ?_ ?_
  ·rcases bc (decide (i < (z.At.length:Int))) with b'1 | b'1
   ·skip
    refine Z8 rfl b'1 (Zd v'3 q'2_6 (Z8 rfl b'1 (Zg (Zau (hO'4.sl 1 rfl) rfl) (Z8 rfl b'1 (Zd (.n most) q'2_1 (Z8 rfl b'1 (Zg (zN (a:=(at_.length:Int)) (b:=most) rfl rfl) ?_)))))))
    refine Zg (zr (t:=(decide (i < (z.At.length:Int)))) (v:=.b ((decide (i < (z.At.length:Int))) && (decide ((at_.length:Int) < most)))) rfl b'1 (Eq.trans (b:=V.b (decide ((at_.length:Int) < most))) rfl (Zd7 b'1))) (Zb ?_)
    exact ⟨rfl,rfl,q'2_1,q'2_2,q'2_6,q'2_7⟩
   ·skip
    refine Zv rfl b'1 (Zv rfl b'1 (Zv rfl b'1 (Zv rfl b'1 (Zg (zm (t:=(decide (i < (z.At.length:Int)))) (v:=.b ((decide (i < (z.At.length:Int))) && (decide ((at_.length:Int) < most)))) rfl b'1 (Eq.trans (b:=V.b false) rfl (ZcN b'1))) (Zb ?_)))))
    exact ⟨rfl,rfl,q'2_1,q'2_2,q'2_6,q'2_7⟩
  rintro frg'1 _ ⟨rfl,g'1_28,g'1_1,g'1_2,g'1_6,g'1_7⟩
  refine Zb (Za ?_)
  rcases Zp hp with ⟨b'2,hp⟩ | ⟨b'2,hp⟩
  ·refine zA (t:=((decide (i < (z.At.length:Int))) && (decide ((at_.length:Int) < most)))) g'1_28 b'2 ?_
   refine zD (Za (Zh (Zaq (Zh (Zfi ?_)))))
   have hW:=hO'4.bump 18
   have fr'1:=Fresh.start k'3 18
   have nb'1:∀ {i:Nat},h.n≤k'3.n + i:=Nat.le_trans hO'4.n (Nat.le_add_right _ _)
   have hO'5:=hW
   refine z9 (ZaL (r:=r'1) (o:=0) (o':=0) g'1_2 rfl) (z9 (Zac (cs:=[v_z_At,v_z_Bits,v_z_Own]) (v:=v_z_At) (hO'5.box 0 rfl) rfl rfl) (ZaS (.n i) g'1_7 ?_))
   obtain ⟨c'1,hp⟩:=Zj hp
   refine z9 (zf (E:=Zfm) (z:=i) (hO'5.rd0 s_z_At.rd) rfl rfl c'1) (z9 (zB (w:=.i .u8 (gi z.At i.toNat)) (hO'5.rd0 s_z_At.rd) rfl (Zi c'1) rfl) ?_)
   obtain ⟨c'2,hp⟩:=Zj hp
   refine z9 (Zfj (a:=(gi z.At i.toNat)) rfl c'2) (z9 (ZcU (a:=(gi z.At i.toNat)) (b:=8) rfl rfl (by decide)) (z9 (ZaL (r:=r'1) (o:=0) (o':=0) g'1_2 rfl) (z9 (Zac (cs:=[v_z_At,v_z_Bits,v_z_Own]) (v:=v_z_At) (hO'5.box 0 rfl) rfl rfl) (ZaS (.n i) g'1_7 (z9 (zf (E:=Zfm) (z:=i) (hO'5.rd0 s_z_At.rd) rfl rfl c'1) (z9 (zB (w:=.i .u8 (gi z.At i.toNat)) (hO'5.rd0 s_z_At.rd) rfl (Zi c'1) rfl) (z9 (Zfj (a:=(gi z.At i.toNat)) rfl c'2) ?_)))))))
   obtain ⟨c'3,hp⟩:=Zj hp
   refine z9 (Zlr (a:=(gi z.At i.toNat)) (b:=8) rfl rfl c'3) (z9 (ZcU (a:=((gi z.At i.toNat).tdiv 8)) (b:=8) rfl rfl (by decide)) (z9 (ZbB (cs:=Zc.c (⟨(gi z.At i.toNat).tmod 8,((gi z.At i.toNat).tdiv 8).tmod 8⟩:Zf)) (by rw [(zt (v:=.n ((gi z.At i.toNat).tmod 8)) rfl (zt (v:=.n (((gi z.At i.toNat).tdiv 8).tmod 8)) rfl Za2))]; rfl)) (Ze5 (hO'5.alloc (cs:=Zc.c (⟨0,0⟩:Zf)) ⟨fr'1.m 16 (by decide) (by decide),nb'1⟩) ?_)))
   rintro _ k'5 z'1 ⟨r'2,rfl,n'2,f'2,hW⟩
   have fr'2:=fr'1.kept f'2 (by decide)
   have hO'6:=hW
   refine Ze5 (hO'6.stb (ws:=Zc.c (⟨(gi z.At i.toNat).tmod 8,((gi z.At i.toNat).tdiv 8).tmod 8⟩:Zf)) (cs':=Zc.c (⟨(gi z.At i.toNat).tmod 8,((gi z.At i.toNat).tdiv 8).tmod 8⟩:Zf)) (v:=.ag (Zc.c (⟨(gi z.At i.toNat).tmod 8,((gi z.At i.toNat).tdiv 8).tmod 8⟩:Zf))) 2 rfl rfl rfl rfl ⟨rfl,Nat.le_of_ble_eq_true rfl,rfl⟩ rfl) ?_
   rintro _ k'6 z'2 ⟨rfl,f'3,m'1,hW⟩
   have fr'3:=fr'2.kept f'3 (by decide)
   have hO'7:=hW
   refine Zcu ?_
   refine And.intro ?_ ?_
   ·intro q hq
    simp only [List.mem_cons,List.not_mem_nil,or_false] at hq
    rcases hq with rfl | rfl | rfl | rfl | rfl | rfl | rfl | rfl
    ·refine ZaF ?_ ?_
     ·exact (fun h=>nomatch h)
     ·exact (fun h=>nomatch h)
    ·refine ZaF ?_ ?_
     ·exact (fun h=>nomatch h)
     ·exact (fun h=>nomatch h)
    ·refine ZaF ?_ ?_
     ·exact (fun h=>nomatch h)
     ·exact (fun h=>nomatch h)
    ·refine ZaF ?_ ?_
     ·exact (fun h=>nomatch h)
     ·exact (fun h=>nomatch h)
    ·refine ZaF ?_ ?_
     ·exact (fun h=>nomatch h)
     ·exact (fun _ hm=>Nat.lt_irrefl _ (Nat.lt_of_lt_of_le (hO'4.ltAt 0 rfl _ (tch (v:=V.p r'1 0) (ZcH hm) rfl)) (Nat.le_add_right _ _)))
    ·refine ZaF ?_ ?_
     ·exact (fun h=>nomatch h)
     ·exact (fun _ hm=>Nat.lt_irrefl _ (Nat.lt_of_lt_of_le (Nat.lt_of_lt_of_le (hO'4.lo _ (Rd.B s_z_At.rd hO'4.lo (Zi c'1) _ (Zct (tch (v:=V.elt v_z_At i.toNat 0) (ZcH hm) rfl)))) hO'4.n) (Nat.le_add_right _ _)))
    ·refine ZaF ?_ ?_
     ·exact (fun h=>nomatch h)
     ·exact (fun _ hm=>Nat.lt_irrefl _ (Nat.lt_of_lt_of_le (hO'4.ltAt 0 rfl _ (tch (v:=V.p r'1 0) (ZcH hm) rfl)) (Nat.le_add_right _ _)))
    ·refine ZaF ?_ ?_
     ·exact (fun h=>nomatch h)
     ·exact (fun _ hm=>Nat.lt_irrefl _ (Nat.lt_of_lt_of_le (Nat.lt_of_lt_of_le (hO'4.lo _ (Rd.B s_z_At.rd hO'4.lo (Zi c'1) _ (Zct (tch (v:=V.elt v_z_At i.toNat 0) (ZcH hm) rfl)))) hO'4.n) (Nat.le_add_right _ _)))
   refine Za (Zh (Zk (Zd (.b false) rfl (Zb (Za (Zh (Zh ?_)))))))
   refine Zk (Zd (.n 0) rfl (Zb (Za (Zaq ?_))))
   obtain ⟨o'3,ho'2,hp⟩:=Zq hp
   refine W.mono (Q:=fun e fr k=>match (generalizing:=false) o'3 with
     | (at_2,met1)=>e = (.exit 2)∧fr 1 = .n most∧fr 2 = .p r'1 0∧fr 6 = v'3∧fr 7 = .n i∧fr 8 = .p r'2 0∧fr 9 = .b met1∧Own B h k [ZbF r'1 [v_z_At,v_z_Bits,v_z_Own],eSl Zc v'3 at_2,ZbF r'2 (Zc.c (⟨(gi z.At i.toNat).tmod 8,((gi z.At i.toNat).tdiv 8).tmod 8⟩:Zf))]) ?_ ?_
   ·clear hp
    refine zP (fun st fr k=>match st with | (met,k_)=>fr 1 = .n most∧fr 2 = .p r'1 0∧fr 6 = v'3∧fr 7 = .n i∧fr 8 = .p r'2 0∧fr 9 = .b met∧fr 10 = .n k_∧Own B h k [ZbF r'1 [v_z_At,v_z_Bits,v_z_Own],eSl Zc v'3 at_,ZbF r'2 (Zc.c (⟨(gi z.At i.toNat).tmod 8,((gi z.At i.toNat).tdiv 8).tmod 8⟩:Zf))]) ho'2 (s:=(false,0)) ⟨g'1_1,g'1_2,g'1_6,g'1_7,rfl,rfl,rfl,(hO'7.pick [0,1,2] rfl (by decide))⟩ ?_
    rintro ⟨met,k_⟩ q'4 k'8 ⟨q'4_1,q'4_2,q'4_6,q'4_7,q'4_8,q'4_9,q'4_10,hO'9⟩ o'4 hp
    dsimp only [ZV.s1] at hp
    refine Zh (Zh (Zk (Zd (.n k_) q'4_10 (Zd v'3 q'4_6 (Zg (Zau (hO'9.sl 1 rfl) rfl) (Zg (zN (a:=k_) (b:=(at_.length:Int)) rfl rfl) (Zb ?_)))))))
    refine Za ?_
    rcases Zp hp with ⟨b'3,hp⟩ | ⟨b'3,hp⟩
    ·refine zA (t:=(decide (k_ < (at_.length:Int)))) rfl b'3 ?_
     refine zD (Za (Zh (Zaq (ZgF ?_))))
     have hW:=hO'9.bump 10
     have hO'10:=hW
     refine ZaE (.b met) q'4_9 (ZaE (.b met) rfl ?_)
     obtain ⟨t,hv'1,hp⟩:=Zq hp
     refine Zcj 7 (fun fr' k'=>(k'8.bump 10) = k'∧fr' 61 = .b t∧fr' 1 = .n most∧fr' 10 = .n k_∧fr' 2 = .p r'1 0∧fr' 6 = v'3∧fr' 7 = .n i∧fr' 8 = .p r'2 0) ?_ ?_
     ·clear hp; rcases Zp hv'1 with ⟨b'4,hp⟩ | ⟨b'4,hp⟩
      ·skip
       refine Zx rfl b'4 (Zx rfl b'4 (Zx rfl b'4 (Zx rfl b'4 (Zx rfl b'4 (Zx rfl b'4 (ze rfl (zr (t:=met) (v:=.b t) rfl b'4 (Eq.trans (b:=V.b true) rfl (congrArg V.b (Option.some.inj hp)))) (Za9 ?_)))))))
       exact ⟨rfl,rfl,q'4_1,q'4_10,q'4_2,q'4_6,q'4_7,q'4_8⟩
      ·skip
       refine ZB rfl b'4 (ZaE v'3 q'4_6 (ZB rfl b'4 (ZaE (.n k_) q'4_10 (ZB rfl b'4 ?_))))
       obtain ⟨c'4,hp⟩:=Zj hp
       refine ze rfl (zf (E:=Zc) (z:=k_) (hO'10.sl 1 rfl) rfl rfl c'4) (ZB rfl b'4 (ze rfl (Zd5 (E:=Zc) (hO'10.sl 1 rfl) rfl (Zi c'4)) (ZB rfl b'4 (ze rfl (Zb7 (cs:=(Zc.c (⟨(gi z.At i.toNat).tmod 8,((gi z.At i.toNat).tdiv 8).tmod 8⟩:Zf))) (ws:=Zc.c (⟨(gi z.At i.toNat).tmod 8,((gi z.At i.toNat).tdiv 8).tmod 8⟩:Zf)) (hO'10.box 2 rfl) q'4_8 rfl) (ZB rfl b'4 (ze rfl (ZmN (as:=Zc.c (gi at_ k_.toNat)) (bs:=Zc.c (⟨(gi z.At i.toNat).tmod 8,((gi z.At i.toNat).tdiv 8).tmod 8⟩:Zf)) rfl rfl (Mu.Zc.same _ _)) (ze rfl (zm (t:=met) (v:=.b t) rfl b'4 (Eq.trans (b:=V.b (decide (gi at_ k_.toNat = (⟨(gi z.At i.toNat).tmod 8,((gi z.At i.toNat).tdiv 8).tmod 8⟩:Zf)))) rfl (congrArg V.b (Option.some.inj hp)))) ?_)))))))
       refine Za9 ?_
       exact ⟨rfl,rfl,q'4_1,q'4_10,q'4_2,q'4_6,q'4_7,q'4_8⟩
     rintro frg'2 _ ⟨rfl,g'2_61,g'2_1,g'2_10,g'2_2,g'2_6,g'2_7,g'2_8⟩
     refine ZaE (.b t) g'2_61 (Za9 (Zan (Za (Zk (Zd (.n k_) g'2_10 ?_)))))
     obtain ⟨c'5,hp⟩:=Zj hp
     refine Zg (z6 (a:=k_) (b:=1) rfl rfl c'5) (Zd (.n (k_ + 1)) rfl (Zb ?_))
     cases hp
     exact (Or.inl ⟨(t,k_ + 1),rfl,rfl,g'2_1,g'2_2,g'2_6,g'2_7,g'2_8,rfl,rfl,(hO'10.pick [0,1,2] rfl (by decide))⟩)
    ·refine z7 (t:=(decide (k_ < (at_.length:Int)))) rfl b'3 ?_
     refine Zbv (zY ?_)
     cases hp
     refine (Or.inr ⟨(at_,met),rfl,(fun h=>nomatch h),(fun he=>?_)⟩)
     subst he; exact ⟨rfl,q'4_1,q'4_2,q'4_6,q'4_7,q'4_8,q'4_9,(hO'9.pick [0,1,2] rfl (by decide))⟩
   intro e'2 q'3 k'7 hJ'2
   obtain ⟨at_2,met1⟩:=o'3
   obtain ⟨rfl,q'3_1,q'3_2,q'3_6,q'3_7,q'3_8,q'3_9,hO'8⟩:=hJ'2
   refine ZaD (Za (Zh (Zk (Zd (.b met1) q'3_9 (Zg (Zc3 (t:=met1) rfl) (Zb (Za ?_)))))))
   rcases Zp hp with ⟨b'5,hp⟩ | ⟨b'5,hp⟩
   ·refine zA (t:=(!met1)) rfl b'5 ?_
    refine Zk (Zd v'3 q'3_6 (Zg (Zb7 (cs:=(Zc.c (⟨(gi z.At i.toNat).tmod 8,((gi z.At i.toNat).tdiv 8).tmod 8⟩:Zf))) (ws:=Zc.c (⟨(gi z.At i.toNat).tmod 8,((gi z.At i.toNat).tdiv 8).tmod 8⟩:Zf)) (hO'8.box 2 rfl) q'3_8 rfl) (zQ (hO'8.bsl (E:=Zc) (l:=[(⟨(gi z.At i.toNat).tmod 8,((gi z.At i.toNat).tdiv 8).tmod 8⟩:Zf)]) hO'8.fr (by rw [(zt (v:=.ag (Zc.c (⟨(gi z.At i.toNat).tmod 8,((gi z.At i.toNat).tdiv 8).tmod 8⟩:Zf))) rfl Za2)]; rfl) rfl) ?_)))
    rintro v'5 k'10 ⟨r'3,f'4,hW⟩
    have hO'11:=hW
    obtain ⟨c'6,hp⟩:=Zj hp
    refine zQ (hO'11.app (E:=Zc) (bytes:=16) 1 hO'11.fr rfl (hO'11.sl 3 rfl:Sl Zc k'10 v'5 [(⟨(gi z.At i.toNat).tmod 8,((gi z.At i.toNat).tdiv 8).tmod 8⟩:Zf)]) rfl rfl (fun _=>rfl) c'6 (by decide)) ?_
    rintro v'6 k'11 ⟨f'5,hW⟩
    have hO'12:=hW
    refine Zd v'6 rfl (Zb (Zan (Za (Zk (Zd (.n i) q'3_7 ?_)))))
    obtain ⟨c'7,hp⟩:=Zj hp
    refine Zg (z6 (a:=i) (b:=1) rfl rfl c'7) (Zd (.n (i + 1)) rfl (Zb ?_))
    cases hp
    exact (Or.inl ⟨(at_2++[(⟨(gi z.At i.toNat).tmod 8,((gi z.At i.toNat).tdiv 8).tmod 8⟩:Zf)],i + 1),rfl,rfl,v'6,q'3_1,q'3_2,rfl,rfl,(hO'12.pick [0,1] rfl (by decide))⟩)
   ·refine z7 (t:=(!met1)) rfl b'5 ?_
    refine zD (Zan (Za (Zk (Zd (.n i) q'3_7 ?_))))
    obtain ⟨c'8,hp⟩:=Zj hp
    refine Zg (z6 (a:=i) (b:=1) rfl rfl c'8) (Zd (.n (i + 1)) rfl (Zb ?_))
    cases hp
    exact (Or.inl ⟨(at_2,i + 1),rfl,rfl,v'3,q'3_1,q'3_2,q'3_6,rfl,(hO'8.pick [0,1] rfl (by decide))⟩)
  ·refine z7 (t:=((decide (i < (z.At.length:Int))) && (decide ((at_.length:Int) < most)))) g'1_28 b'2 ?_
   refine Zbv (zY ?_)
   cases hp
   refine (Or.inr ⟨at_,rfl,(fun h=>nomatch h),(fun he=>?_)⟩)
   subst he; exact ⟨rfl,v'3,g'1_2,g'1_6,(hO'4.pick [0,1] rfl (by decide))⟩
 intro e'1 q'1 k'2 hJ'1
 obtain ⟨at_1,rfl⟩:∃ x,x = o'1:=⟨_,rfl⟩
 obtain ⟨rfl,v'4,q'1_2,q'1_6,hO'2⟩:=hJ'1
 refine ZaD (Za (Zh (Zk (Zd v'4 q'1_6 (Zg (Zau (hO'2.sl 1 rfl) rfl) ?_)))))
 obtain ⟨x,hx'1,hp⟩:=Zq hp
 obtain ⟨u'1,k'12,ca'1,v'7,rfl,hW'1⟩:=zU.ok (h:=k'2)   hx'1
 refine Zbd (id:=46) (caps:=[]) rfl (Zu (v:=.n (at_1.length:Int)) rfl zx) ca'1 ?_
 have hO'13:=hO'2.call hW'1 rfl
 refine Zd v'7 rfl (Zb (Za (Zh (Zh (Zk (Zd (.n 0) rfl (Zb ?_)))))))
 refine Za (Zaq ?_)
 obtain ⟨o'5,ho'3,hp⟩:=Zq hp
 refine W.mono (Q:=fun e fr k=>match (generalizing:=false) o'5 with
   | (at_4,l1)=>e = (.exit 4)∧∃ (v'9:V),fr 6 = v'4∧fr 11 = v'9∧Own B h k [eSl Zc v'4 at_4,eSl Zn v'9 l1]) ?_ ?_
 ·clear hp
  refine zP (fun st fr k=>match st with | (at_3,l,i1)=>∃ (v'8:V),fr 2 = .p r'1 0∧fr 6 = v'4∧fr 11 = v'8∧fr 12 = .n i1∧Own B h k [ZbF r'1 [v_z_At,v_z_Bits,v_z_Own],eSl Zc v'4 at_3,eSl Zn v'8 l]) ho'3 (s:=(at_1,x,0)) ⟨v'7,q'1_2,q'1_6,rfl,rfl,(hO'13.pick [0,1,2] rfl (by decide))⟩ ?_
  rintro ⟨at_3,l,i1⟩ q'6 k'14 ⟨v'8,q'6_2,q'6_6,q'6_11,q'6_12,hO'15⟩ o'6 hp
  dsimp only [ZV.s2] at hp
  refine Zh (Zh (Zk (Zd (.n i1) q'6_12 (Zd v'4 q'6_6 (Zg (Zau (hO'15.sl 1 rfl) rfl) (Zg (zN (a:=i1) (b:=(at_3.length:Int)) rfl rfl) (Zb ?_)))))))
  refine Za ?_
  rcases Zp hp with ⟨b'6,hp⟩ | ⟨b'6,hp⟩
  ·refine zA (t:=(decide (i1 < (at_3.length:Int)))) rfl b'6 ?_
   refine zD (Za (Zh (Zaq (Zh (Zk (Zd (.i .u8 3) rfl (Zb ?_)))))))
   refine Za (Zh (Zh (Zk (Zd (.n i1) q'6_12 (Zg (ZaL (r:=r'1) (o:=0) (o':=1) q'6_2 rfl) (Zg (Zac (cs:=[v_z_At,v_z_Bits,v_z_Own]) (v:=v_z_Bits) (hO'15.box 0 rfl) rfl rfl) (Zg (Zau (hO'15.rd0 s_z_Bits.rd) rfl) ?_)))))))
   refine Zg (zN (a:=i1) (b:=(z.Bits.length:Int)) rfl rfl) (Zb (Za ?_))
   obtain ⟨o'7,ho'4,hp⟩:=Zq hp
   refine W.mono (Q:=fun e fr k=>match (generalizing:=false) o'7 with
     | (at_5,l2,bits)=>e = .normal∧fr 2 = .p r'1 0∧fr 6 = v'4∧fr 11 = v'8∧fr 12 = .n i1∧fr 13 = .i .u8 bits∧Own B h k [ZbF r'1 [v_z_At,v_z_Bits,v_z_Own],eSl Zc v'4 at_5,eSl Zn v'8 l2]) ?_ ?_
   ·clear hp; have hp:=ho'4; clear ho'4
    rcases Zp hp with ⟨b'7,hp⟩ | ⟨b'7,hp⟩
    ·refine zA (t:=(decide (i1 < (z.Bits.length:Int)))) rfl b'7 ?_
     refine Zk (Zg (ZaL (r:=r'1) (o:=0) (o':=1) q'6_2 rfl) (Zg (Zac (cs:=[v_z_At,v_z_Bits,v_z_Own]) (v:=v_z_Bits) (hO'15.box 0 rfl) rfl rfl) (Zd (.n i1) q'6_12 ?_)))
     obtain ⟨c'9,hp⟩:=Zj hp
     refine Zg (zf (E:=Zfm) (z:=i1) (hO'15.rd0 s_z_Bits.rd) rfl rfl c'9) (Zg (zB (w:=.i .u8 (gi z.Bits i1.toNat)) (hO'15.rd0 s_z_Bits.rd) rfl (Zi c'9) rfl) (Zd (.i .u8 (gi z.Bits i1.toNat)) rfl (Zb ?_)))
     cases hp
     exact ⟨rfl,q'6_2,q'6_6,q'6_11,q'6_12,rfl,(hO'15.pick [0,1,2] rfl (by decide))⟩
    ·refine z7 (t:=(decide (i1 < (z.Bits.length:Int)))) rfl b'7 ?_
     refine zD ?_
     cases hp
     exact ⟨rfl,q'6_2,q'6_6,q'6_11,q'6_12,rfl,(hO'15.pick [0,1,2] rfl (by decide))⟩
   intro e'4 q'7 k'15 hJ'4
   obtain ⟨at_5,l2,bits⟩:=o'7
   obtain ⟨rfl,q'7_2,q'7_6,q'7_11,q'7_12,q'7_13,hO'16⟩:=hJ'4
   refine Za (Zh (Zk (Zd (.n i1) q'7_12 (Zd (.n i1) rfl (Zb (Za (Zh ?_)))))))
   refine Zh (Zk (Zd (.n i1) q'7_12 (Zg (ZaL (r:=r'1) (o:=0) (o':=2) q'7_2 rfl) (Zg (Zac (cs:=[v_z_At,v_z_Bits,v_z_Own]) (v:=v_z_Own) (hO'16.box 0 rfl) rfl rfl) (Zg (Zau (hO'16.rd0 s_z_Own.rd) rfl) (Zg (zN (a:=i1) (b:=(z.Own.length:Int)) rfl rfl) (Zb ?_)))))))
   refine Za ?_
   obtain ⟨o'8,ho'5,hp⟩:=Zq hp
   refine W.mono (Q:=fun e fr k=>match (generalizing:=false) o'8 with
     | (at_6,l3,own)=>e = .normal∧fr 2 = .p r'1 0∧fr 6 = v'4∧fr 11 = v'8∧fr 12 = .n i1∧fr 13 = .i .u8 bits∧fr 14 = .n own∧Own B h k [ZbF r'1 [v_z_At,v_z_Bits,v_z_Own],eSl Zc v'4 at_6,eSl Zn v'8 l3]) ?_ ?_
   ·clear hp; have hp:=ho'5; clear ho'5
    rcases Zp hp with ⟨b'8,hp⟩ | ⟨b'8,hp⟩
    ·refine zA (t:=(decide (i1 < (z.Own.length:Int)))) rfl b'8 ?_
     refine Zh (Zk (Zg (ZaL (r:=r'1) (o:=0) (o':=2) q'7_2 rfl) (Zg (Zac (cs:=[v_z_At,v_z_Bits,v_z_Own]) (v:=v_z_Own) (hO'16.box 0 rfl) rfl rfl) (Zd (.n i1) q'7_12 ?_))))
     obtain ⟨c'10,hp⟩:=Zj hp
     refine Zg (zf (E:=ZiC) (z:=i1) (hO'16.rd0 s_z_Own.rd) rfl rfl c'10) (Zg (zB (w:=.i .i8 (gi z.Own i1.toNat)) (hO'16.rd0 s_z_Own.rd) rfl (Zi c'10) rfl) ?_)
     obtain ⟨c'11,hp⟩:=Zj hp
     refine Zg (Zfj (a:=(gi z.Own i1.toNat)) rfl c'11) (Zd (.n (gi z.Own i1.toNat)) rfl (Zb (Za (Zh (Zk (Zd (.n (gi z.Own i1.toNat)) rfl (Zg (zN (a:=(gi z.Own i1.toNat)) (b:=(-2)) rfl rfl) ?_)))))))
     refine Zb (Za ?_)
     rcases Zp hp with ⟨b'9,hp⟩ | ⟨b'9,hp⟩
     ·refine zA (t:=(decide ((gi z.Own i1.toNat) < (-2)))) rfl b'9 ?_
      refine Zk (Zd (.n (gi z.Own i1.toNat)) rfl ?_)
      obtain ⟨c'12,hp⟩:=Zj hp
      refine Zg (ZmT (a:=(gi z.Own i1.toNat)) rfl c'12) (Zd (.n (-(gi z.Own i1.toNat))) rfl (Zb ?_))
      cases hp
      exact ⟨rfl,q'7_2,q'7_6,q'7_11,q'7_12,q'7_13,rfl,(hO'16.pick [0,1,2] rfl (by decide))⟩
     ·refine z7 (t:=(decide ((gi z.Own i1.toNat) < (-2)))) rfl b'9 ?_
      refine zD ?_
      cases hp
      exact ⟨rfl,q'7_2,q'7_6,q'7_11,q'7_12,q'7_13,rfl,(hO'16.pick [0,1,2] rfl (by decide))⟩
    ·refine z7 (t:=(decide (i1 < (z.Own.length:Int)))) rfl b'8 ?_
     refine zD ?_
     cases hp
     exact ⟨rfl,q'7_2,q'7_6,q'7_11,q'7_12,q'7_13,rfl,(hO'16.pick [0,1,2] rfl (by decide))⟩
   intro e'5 q'8 k'16 hJ'5
   obtain ⟨at_6,l3,own⟩:=o'8
   obtain ⟨rfl,q'8_2,q'8_6,q'8_11,q'8_12,q'8_13,q'8_14,hO'17⟩:=hJ'5
   refine Za (Zh (Zk (Zd (.n 0) rfl (Zb (Za (Zaq ?_))))))
   obtain ⟨o'9,ho'6,hp⟩:=Zq hp
   refine W.mono (Q:=fun e fr k=>match (generalizing:=false) o'9 with
     | l5=>e = (.exit 6)∧∃ (v'11:V),fr 2 = .p r'1 0∧fr 6 = v'4∧fr 11 = v'11∧fr 12 = .n i1∧Own B h k [ZbF r'1 [v_z_At,v_z_Bits,v_z_Own],eSl Zc v'4 at_6,eSl Zn v'11 l5]) ?_ ?_
   ·clear hp
    refine zP (fun st fr k=>match st with | (l4,d)=>∃ (v'10:V),fr 2 = .p r'1 0∧fr 6 = v'4∧fr 11 = v'10∧fr 12 = .n i1∧fr 13 = .i .u8 bits∧fr 14 = .n own∧fr 15 = .n d∧Own B h k [ZbF r'1 [v_z_At,v_z_Bits,v_z_Own],eSl Zc v'4 at_6,eSl Zn v'10 l4]) ho'6 (s:=(l3,0)) ⟨v'8,q'8_2,q'8_6,q'8_11,q'8_12,q'8_13,q'8_14,rfl,(hO'17.pick [0,1,2] rfl (by decide))⟩ ?_
    rintro ⟨l4,d⟩ q'10 k'18 ⟨v'10,q'10_2,q'10_6,q'10_11,q'10_12,q'10_13,q'10_14,q'10_15,hO'19⟩ o'10 hp
    dsimp only [ZV.s3] at hp
    refine Zh (Zh (Zk (Zd (.n d) q'10_15 (Zg (zN (a:=d) (b:=2) rfl rfl) (Zb (Za ?_))))))
    rcases Zp hp with ⟨b'10,hp⟩ | ⟨b'10,hp⟩
    ·refine zA (t:=(decide (d < 2))) rfl b'10 ?_
     refine zD (Za (Zh (Zaq (Zh (Zk (Zd v'4 q'10_6 (Zd (.n i1) q'10_12 ?_)))))))
     refine Zd (.n d) q'10_15 ?_
     obtain ⟨x1,hx'2,hp⟩:=Zq hp
     obtain ⟨u'2,k'19,ca'2,rfl,hW'2⟩:=zj.ok (h:=k'18)  (hO'19.sl 1 rfl) hx'2
     refine Zbd (id:=63) (caps:=[]) rfl (Zu (v:=v'4) rfl (Zu (v:=.n i1) rfl (Zu (v:=.n d) rfl zx))) ca'2 ?_
     have hO'20:=hO'19.call hW'2 rfl
     refine Zd (.n x1) rfl (Zb (Za (Zh (Zh (Zk (Zd (.i .u8 bits) q'10_13 (Zd (.n d) q'10_15 ?_)))))))
     obtain ⟨c'13,hp⟩:=Zj hp
     refine Zg (Zfv (a:=bits) (b:=d) (v:=.i .u8 (ZO .u8 bits d)) rfl rfl (by decide) (Zeg c'13)) (Zg (Ze6 (a:=(ZO .u8 bits d)) (b:=1) (v:=.i .u8 (Z6 .u8 (ZO .u8 bits d) 1)) rfl rfl (by decide) rfl) (Zg (ZbQ (a:=(Z6 .u8 (ZO .u8 bits d) 1)) (b:=0) rfl rfl) (Zd (.b (decide (Z6 .u8 (ZO .u8 bits d) 1 = 0))) rfl ?_)))
     refine Za0 3 (fun fr' k'=>k'19 = k'∧fr' 119 = .b ((decide (Z6 .u8 (ZO .u8 bits d) 1 = 0)) || (decide (x1 < 0)))∧fr' 11 = v'10∧fr' 12 = .n i1∧fr' 13 = .i .u8 bits∧fr' 14 = .n own∧fr' 15 = .n d∧fr' 16 = .n x1∧fr' 2 = .p r'1 0∧fr' 6 = v'4) ?_ ?_
     ·rcases bc (decide (Z6 .u8 (ZO .u8 bits d) 1 = 0)) with b'11 | b'11
      ·skip
       refine Zv rfl b'11 (Zv rfl b'11 (Zg (zr (t:=(decide (Z6 .u8 (ZO .u8 bits d) 1 = 0))) (v:=.b ((decide (Z6 .u8 (ZO .u8 bits d) 1 = 0)) || (decide (x1 < 0)))) rfl b'11 (Eq.trans (b:=V.b true) rfl (Zbx b'11))) (Zb ?_)))
       exact ⟨rfl,rfl,q'10_11,q'10_12,q'10_13,q'10_14,q'10_15,rfl,q'10_2,q'10_6⟩
      ·skip
       refine Z8 rfl b'11 (Zd (.n x1) rfl (Z8 rfl b'11 (Zg (zN (a:=x1) (b:=0) rfl rfl) (Zg (zm (t:=(decide (Z6 .u8 (ZO .u8 bits d) 1 = 0))) (v:=.b ((decide (Z6 .u8 (ZO .u8 bits d) 1 = 0)) || (decide (x1 < 0)))) rfl b'11 (Eq.trans (b:=V.b (decide (x1 < 0))) rfl (Zca b'11))) (Zb ?_)))))
       exact ⟨rfl,rfl,q'10_11,q'10_12,q'10_13,q'10_14,q'10_15,rfl,q'10_2,q'10_6⟩
     rintro frg'3 _ ⟨rfl,g'3_119,g'3_11,g'3_12,g'3_13,g'3_14,g'3_15,g'3_16,g'3_2,g'3_6⟩
     refine Zb (Za ?_)
     rcases Zp hp with ⟨b'12,hp⟩ | ⟨b'12,hp⟩
     ·refine zA (t:=((decide (Z6 .u8 (ZO .u8 bits d) 1 = 0)) || (decide (x1 < 0)))) g'3_119 b'12 ?_
      refine Zbv (zY (ZaD (Za (Zk (Zd (.n d) g'3_15 ?_)))))
      obtain ⟨c'14,hp⟩:=Zj hp
      refine Zg (z6 (a:=d) (b:=1) rfl rfl c'14) (Zd (.n (d + 1)) rfl (Zb ?_))
      cases hp
      exact (Or.inl ⟨(l4,d + 1),rfl,rfl,v'10,g'3_2,g'3_6,g'3_11,g'3_12,g'3_13,g'3_14,rfl,(hO'20.pick [0,1,2] rfl (by decide))⟩)
     ·refine z7 (t:=((decide (Z6 .u8 (ZO .u8 bits d) 1 = 0)) || (decide (x1 < 0)))) g'3_119 b'12 ?_
      refine zD (Za (Zh (Zk (Zd v'4 g'3_6 (Zd v'10 g'3_11 (Zd (.n i1) g'3_12 (Zd (.n x1) g'3_16 ?_)))))))
      obtain ⟨x2,hx'3,hp⟩:=Zq hp
      obtain ⟨u'3,k'20,ca'3,rfl,hW'3⟩:=zi.ok (h:=k'19)  (hO'20.sl 1 rfl) (hO'20.sl 2 rfl) hx'3
      refine Zbd (id:=64) (caps:=[]) rfl (Zu (v:=v'4) rfl (Zu (v:=v'10) rfl (Zu (v:=.n i1) rfl (Zu (v:=.n x1) rfl zx)))) ca'3 ?_
      have hO'21:=hO'20.call hW'3 rfl
      refine Zd (.b x2) rfl (Zb (Za (Zh (Zk (Zd (.b x2) rfl (Zg (Zc3 (t:=x2) rfl) (Zb ?_)))))))
      refine Za ?_
      rcases Zp hp with ⟨b'13,hp⟩ | ⟨b'13,hp⟩
      ·refine zA (t:=(!x2)) rfl b'13 ?_
       refine Zk (Zd v'10 g'3_11 (Zd (.n i1) g'3_12 (Zd (.n d) g'3_15 (Zd (.n x1) g'3_16 (Zd (.n own) g'3_14 ?_)))))
       obtain ⟨x3,hx'4,hp⟩:=Zq hp
       obtain ⟨u'4,k'21,ca'4,v'12,rfl,hW'4⟩:=Za4.ok (h:=k'20)  (hO'21.sl 2 rfl) hx'4
       refine Zbd (id:=65) (caps:=[]) rfl (Zu (v:=v'10) rfl (Zu (v:=.n i1) rfl (Zu (v:=.n d) rfl (Zu (v:=.n x1) rfl (Zu (v:=.n own) rfl zx))))) ca'4 ?_
       have hO'22:=hO'21.call hW'4 rfl
       refine Zd v'12 rfl (Zb (Zan (Za (Zk (Zd (.n d) g'3_15 ?_)))))
       obtain ⟨c'15,hp⟩:=Zj hp
       refine Zg (z6 (a:=d) (b:=1) rfl rfl c'15) (Zd (.n (d + 1)) rfl (Zb ?_))
       cases hp
       exact (Or.inl ⟨(x3,d + 1),rfl,rfl,v'12,g'3_2,g'3_6,rfl,g'3_12,g'3_13,g'3_14,rfl,(hO'22.pick [0,1,3] rfl (by decide))⟩)
      ·refine z7 (t:=(!x2)) rfl b'13 ?_
       refine zD (Zan (Za (Zk (Zd (.n d) g'3_15 ?_))))
       obtain ⟨c'16,hp⟩:=Zj hp
       refine Zg (z6 (a:=d) (b:=1) rfl rfl c'16) (Zd (.n (d + 1)) rfl (Zb ?_))
       cases hp
       exact (Or.inl ⟨(l4,d + 1),rfl,rfl,v'10,g'3_2,g'3_6,g'3_11,g'3_12,g'3_13,g'3_14,rfl,(hO'21.pick [0,1,2] rfl (by decide))⟩)
    ·refine z7 (t:=(decide (d < 2))) rfl b'10 ?_
     refine Zbv (zY ?_)
     cases hp
     refine (Or.inr ⟨l4,rfl,(fun h=>nomatch h),(fun he=>?_)⟩)
     subst he; exact ⟨rfl,v'10,q'10_2,q'10_6,q'10_11,q'10_12,(hO'19.pick [0,1,2] rfl (by decide))⟩
   intro e'6 q'9 k'17 hJ'6
   obtain ⟨l5,rfl⟩:∃ x,x = o'9:=⟨_,rfl⟩
   obtain ⟨rfl,v'11,q'9_2,q'9_6,q'9_11,q'9_12,hO'18⟩:=hJ'6
   refine ZaD (Zan (Za (Zk (Zd (.n i1) q'9_12 ?_))))
   obtain ⟨c'17,hp⟩:=Zj hp
   refine Zg (z6 (a:=i1) (b:=1) rfl rfl c'17) (Zd (.n (i1 + 1)) rfl (Zb ?_))
   cases hp
   exact (Or.inl ⟨(at_6,l5,i1 + 1),rfl,rfl,v'11,q'9_2,q'9_6,q'9_11,rfl,(hO'18.pick [0,1,2] rfl (by decide))⟩)
  ·refine z7 (t:=(decide (i1 < (at_3.length:Int)))) rfl b'6 ?_
   refine Zbv (zY ?_)
   cases hp
   refine (Or.inr ⟨(at_3,l),rfl,(fun h=>nomatch h),(fun he=>?_)⟩)
   subst he; exact ⟨rfl,v'8,q'6_6,q'6_11,(hO'15.pick [1,2] rfl (by decide))⟩
 intro e'3 q'5 k'13 hJ'3
 obtain ⟨at_4,l1⟩:=o'5
 obtain ⟨rfl,v'9,q'5_6,q'5_11,hO'14⟩:=hJ'3
 refine ZaD (Za (Zh (Zk (Zd v'9 q'5_11 (Zd v'4 q'5_6 (Zd v'9 rfl (Zd v'4 rfl ?_)))))))
 refine Zb (Za (Zad (zu (zG (n:=4) (v:=v'9) rfl (zG (n:=5) (v:=v'4) rfl ZN)) ?_)))
 cases hp
 exact ⟨v'9,v'4,rfl,(hO'14.pick [1,0] rfl (by decide))⟩

theorem ZbH.ok {h:Hp} {s:List Zf} {v_s:V} (s_s:Sl Zc h v_s s) {r:List Zf} (hp:ZbH s = some r) :
  ∃ u k',Is G 165 [v_s] h u k'∧∃ (v:V),v = u∧Own (fun r=>r < h.n) h k' [eSl Zc v r]:=by
 refine WC.is (ZaM ZcD ?_)
 obtain ⟨c1,hp⟩:=Zj hp
 cases hp
 have hO:Own (fun r=>r < h.n) h h []:=Own.start0 h
 refine Zh (Zk (Zd (.sn) rfl (Zb (Za (Zh (Zh (Zk ?_)))))))
 refine Zd v_s rfl ?_
 rcases Zmz s_s with ⟨rfl,rfl⟩ | hn
 ·refine Zg (v:=.b true) rfl ?_
  refine Zb (Za (zA (t:=true) rfl rfl (Zh (Zk (Zd (.sn) rfl (Zb (Za ?_)))))))
  refine Zad (zk (zu (zG (n:=2) (v:=.sn) rfl ZN) ?_))
  exact ⟨.sn,rfl,hO.nil Zc⟩
 ·refine Zg (ZmP (v:=v_s) hn rfl rfl) ?_
  refine Zb (Za (z7 (t:=false) rfl rfl (zD (Za (Zh (Zk (zQ (hO.bsl (E:=Zc) (l:=[]) hO.fr rfl rfl) ?_)))))))
  rintro v1 k1 ⟨r1,f1,hW⟩
  have hO1:Own (fun r=>r < h.n) h k1 [eSl Zc v1 []]:=hW
  refine Zd v_s rfl (zQ (hO1.app (E:=Zc) (bytes:=16) 0 hO1.fr rfl (hO1.rd0 s_s.rd) rfl rfl (fun _=>rfl) (by simpa using c1) (by decide)) ?_)
  rintro v2 k2 ⟨f2,hW⟩
  have hO2:Own (fun r=>r < h.n) h k2 [eSl Zc v2 ([]++s)]:=hW
  refine Zd v2 rfl (Zb (Za (Zad (zu (zG (n:=2) (v:=v2) rfl ZN) ?_))))
  exact ⟨v2,rfl,hO2⟩

theorem zz.ok {h:Hp} {at_:List Zf} {steps:List Int} {v_at_:V} {v_steps:V} (s_at_:Sl Zc h v_at_ at_) (s_steps:Sl Zfm h v_steps steps) {r:(List Zf)} (hp:zz at_ steps = some r) :
  ∃ u k',Is G 262 [v_at_,v_steps] h u k'∧∃ (v'1:V),v'1 = u∧Own (fun r=>r < h.n) h k' [eSl Zc v'1 r]:=by
 refine WC.is (ZaM ZcQ ?_)
 unfold zz at hp
 let B:Nat→Prop:=(fun r=>r < h.n)
 have hO:Own B h h []:=Own.start0 h
 refine Zh (Zk (Zd (.sn) rfl (Zb (Za (Zh (Zk (zQ (hO.alloc (cs:=Zbf.c (⟨0,0,0,0,0,0,0,0,0,0⟩:A10 Int)) hO.fr) ?_)))))))
 rintro _ k'1 ⟨r'1,rfl,n'1,f'1,hW⟩
 have hO'1:=hW
 refine zQ (hO'1.alloc (cs:=Zbf.c (⟨0,0,0,0,0,0,0,0,0,0⟩:A10 Int)) hO'1.fr) ?_
 rintro _ k'2 ⟨r'2,rfl,n'2,f'2,hW⟩
 have hO'2:=hW
 refine Zb (Za (Zh (Zh (Zk (Zd (.n 1) rfl (Zb (Za ?_)))))))
 refine Zaq ?_
 obtain ⟨o'1,ho'1,hp⟩:=Zq hp
 refine W.mono (Q:=fun e fr k=>match (generalizing:=false) o'1 with
   | (x1,y1)=>e = (.exit 0)∧fr 0 = v_at_∧fr 5 = .p r'1 0∧fr 6 = .p r'2 0∧Own B h k [ZbF r'1 (Zbf.c x1),ZbF r'2 (Zbf.c y1)]) ?_ ?_
 ·clear hp
  refine zP (fun st fr k=>match st with | (x,y,i)=>fr 0 = v_at_∧fr 1 = v_steps∧fr 5 = .p r'1 0∧fr 6 = .p r'2 0∧fr 7 = .n i∧Own B h k [ZbF r'1 (Zbf.c x),ZbF r'2 (Zbf.c y)]) ho'1 (s:=((⟨0,0,0,0,0,0,0,0,0,0⟩:A10 Int),(⟨0,0,0,0,0,0,0,0,0,0⟩:A10 Int),1)) ⟨rfl,rfl,rfl,rfl,rfl,(hO'2.pick [0,1] rfl (by decide))⟩ ?_
  rintro ⟨x,y,i⟩ q'2 k'4 ⟨q'2_0,q'2_1,q'2_5,q'2_6,q'2_7,hO'4⟩ o'2 hp
  dsimp only [zz.s0] at hp
  refine Zh (Zh (Zk (Zd (.n i) q'2_7 (Zg (zN (a:=i) (b:=10) rfl rfl) (Zb (Za ?_))))))
  rcases Zp hp with ⟨b'1,hp⟩ | ⟨b'1,hp⟩
  ·refine zA (t:=(decide (i < 10))) rfl b'1 ?_
   refine zD (Za (Zh (Zaq (Zh (Zk (Zd (.n 1) rfl (Zb ?_)))))))
   refine Za (Zh (Zk (Zd (.n 1) rfl (Zb (Za (Zh (Zh ?_)))))))
   refine Zk (Zd (.n i) q'2_7 ?_)
   obtain ⟨c'1,hp⟩:=Zj hp
   refine Zg (ZfJ (a:=2) (b:=i) rfl rfl c'1) (Zd v_steps q'2_1 (Zg (Zau (hO'4.rd0 s_steps.rd) rfl) (Zg (zN (a:=(2 * i)) (b:=(steps.length:Int)) rfl rfl) (Zb (Za ?_)))))
   obtain ⟨o'3,ho'2,hp⟩:=Zq hp
   refine W.mono (Q:=fun e fr k=>match (generalizing:=false) o'3 with
     | s=>e = .normal∧fr 0 = v_at_∧fr 1 = v_steps∧fr 5 = .p r'1 0∧fr 6 = .p r'2 0∧fr 7 = .n i∧fr 8 = .n s∧fr 9 = .n 1∧Own B h k [ZbF r'1 (Zbf.c x),ZbF r'2 (Zbf.c y)]) ?_ ?_
   ·clear hp; have hp:=ho'2; clear ho'2
    rcases Zp hp with ⟨b'2,hp⟩ | ⟨b'2,hp⟩
    ·refine zA (t:=(decide ((2 * i) < (steps.length:Int)))) rfl b'2 ?_
     refine Zk (Zd v_steps q'2_1 (Zd (.n i) q'2_7 (Zg (ZfJ (a:=2) (b:=i) rfl rfl c'1) ?_)))
     obtain ⟨c'2,hp⟩:=Zj hp
     refine Zg (zf (E:=Zfm) (z:=(2 * i)) (hO'4.rd0 s_steps.rd) rfl rfl c'2) (Zg (zB (w:=.i .u8 (gi steps (2 * i:Int).toNat)) (hO'4.rd0 s_steps.rd) rfl (Zi c'2) rfl) ?_)
     obtain ⟨c'3,hp⟩:=Zj hp
     refine Zg (Zfj (a:=(gi steps (2 * i:Int).toNat)) rfl c'3) (Zg (ZcU (a:=(gi steps (2 * i:Int).toNat)) (b:=5) rfl rfl (by decide)) ?_)
     obtain ⟨c'4,hp⟩:=Zj hp
     refine Zg (z6 (a:=1) (b:=((gi steps (2 * i:Int).toNat).tmod 5)) rfl rfl c'4) (Zd (.n (1 + ((gi steps (2 * i:Int).toNat).tmod 5))) rfl (Zb ?_))
     cases hp
     exact ⟨rfl,q'2_0,q'2_1,q'2_5,q'2_6,q'2_7,rfl,rfl,(hO'4.pick [0,1] rfl (by decide))⟩
    ·refine z7 (t:=(decide ((2 * i) < (steps.length:Int)))) rfl b'2 ?_
     refine zD ?_
     cases hp
     exact ⟨rfl,q'2_0,q'2_1,q'2_5,q'2_6,q'2_7,rfl,rfl,(hO'4.pick [0,1] rfl (by decide))⟩
   intro e'2 q'3 k'5 hJ'2
   obtain ⟨s,rfl⟩:∃ x,x = o'3:=⟨_,rfl⟩
   obtain ⟨rfl,q'3_0,q'3_1,q'3_5,q'3_6,q'3_7,q'3_8,q'3_9,hO'5⟩:=hJ'2
   refine Za (Zh (Zh (Zk (Zd (.n i) q'3_7 (Zg (ZfJ (a:=2) (b:=i) rfl rfl c'1) ?_)))))
   obtain ⟨c'5,hp⟩:=Zj hp
   refine Zg (z6 (a:=(2 * i)) (b:=1) rfl rfl c'5) (Zd v_steps q'3_1 (Zg (Zau (hO'5.rd0 s_steps.rd) rfl) (Zg (zN (a:=((2 * i) + 1)) (b:=(steps.length:Int)) rfl rfl) (Zb (Za ?_)))))
   obtain ⟨o'4,ho'3,hp⟩:=Zq hp
   refine W.mono (Q:=fun e fr k=>match (generalizing:=false) o'4 with
     | t=>e = .normal∧fr 0 = v_at_∧fr 1 = v_steps∧fr 5 = .p r'1 0∧fr 6 = .p r'2 0∧fr 7 = .n i∧fr 8 = .n s∧fr 9 = .n t∧Own B h k [ZbF r'1 (Zbf.c x),ZbF r'2 (Zbf.c y)]) ?_ ?_
   ·clear hp; have hp:=ho'3; clear ho'3
    rcases Zp hp with ⟨b'3,hp⟩ | ⟨b'3,hp⟩
    ·refine zA (t:=(decide (((2 * i) + 1) < (steps.length:Int)))) rfl b'3 ?_
     refine Zk (Zd v_steps q'3_1 (Zd (.n i) q'3_7 (Zg (ZfJ (a:=2) (b:=i) rfl rfl c'1) (Zg (z6 (a:=(2 * i)) (b:=1) rfl rfl c'5) ?_))))
     obtain ⟨c'6,hp⟩:=Zj hp
     refine Zg (zf (E:=Zfm) (z:=((2 * i) + 1)) (hO'5.rd0 s_steps.rd) rfl rfl c'6) (Zg (zB (w:=.i .u8 (gi steps ((2 * i) + 1:Int).toNat)) (hO'5.rd0 s_steps.rd) rfl (Zi c'6) rfl) ?_)
     obtain ⟨c'7,hp⟩:=Zj hp
     refine Zg (Zfj (a:=(gi steps ((2 * i) + 1:Int).toNat)) rfl c'7) (Zg (ZcU (a:=(gi steps ((2 * i) + 1:Int).toNat)) (b:=5) rfl rfl (by decide)) ?_)
     obtain ⟨c'8,hp⟩:=Zj hp
     refine Zg (z6 (a:=1) (b:=((gi steps ((2 * i) + 1:Int).toNat).tmod 5)) rfl rfl c'8) (Zd (.n (1 + ((gi steps ((2 * i) + 1:Int).toNat).tmod 5))) rfl (Zb ?_))
     cases hp
     exact ⟨rfl,q'3_0,q'3_1,q'3_5,q'3_6,q'3_7,q'3_8,rfl,(hO'5.pick [0,1] rfl (by decide))⟩
    ·refine z7 (t:=(decide (((2 * i) + 1) < (steps.length:Int)))) rfl b'3 ?_
     refine zD ?_
     cases hp
     exact ⟨rfl,q'3_0,q'3_1,q'3_5,q'3_6,q'3_7,q'3_8,q'3_9,(hO'5.pick [0,1] rfl (by decide))⟩
   intro e'3 q'4 k'6 hJ'3
   obtain ⟨t,rfl⟩:∃ x,x = o'4:=⟨_,rfl⟩
   obtain ⟨rfl,q'4_0,q'4_1,q'4_5,q'4_6,q'4_7,q'4_8,q'4_9,hO'6⟩:=hJ'3
   refine Za (Zh (Zk (Zd (.n i) q'4_7 (Zd (.n i) q'4_7 ?_))))
   obtain ⟨c'9,hp⟩:=Zj hp
   refine Zg (ZgH (a:=i) (b:=1) rfl rfl c'9) ?_
   obtain ⟨c'10,hp⟩:=Zj hp
   refine Zg (ZdU (o:=0) (o':=(0 + (i - 1:Int).toNat * 1)) (z:=(i - 1)) q'4_5 rfl c'10 rfl) (Zg (Zac (cs:=(Zbf.c x)) (v:=.n (x.get (i - 1))) (hO'6.box 0 rfl) rfl (ZeK c'10)) (Zd (.n s) q'4_8 ?_))
   obtain ⟨c'11,hp⟩:=Zj hp
   refine Zg (z6 (a:=(x.get (i - 1))) (b:=s) rfl rfl c'11) ?_
   obtain ⟨c'12,hp⟩:=Zj hp
   refine Zg (ZdU (o:=0) (o':=(0 + i.toNat * 1)) (z:=i) q'4_5 rfl c'12 rfl) (zQ (hO'6.stb (ws:=[.n ((x.get (i - 1)) + s)]) (cs':=Zbf.c (x.set i ((x.get (i - 1)) + s))) (v:=.n ((x.get (i - 1)) + s)) 0 rfl rfl rfl rfl ⟨rfl,(by have:=c'12; exact (show 0 + i.toNat * 1 + 1≤10 by omega)),rfl⟩ (Zhm c'12)) ?_)
   rintro _ k'7 ⟨rfl,f'3,m'1,hW⟩
   have hO'7:=hW
   refine Zb (Za (Zk (Zd (.n i) q'4_7 (Zd (.n i) q'4_7 (Zg (ZgH (a:=i) (b:=1) rfl rfl c'9) (Zg (ZdU (o:=0) (o':=(0 + (i - 1:Int).toNat * 1)) (z:=(i - 1)) q'4_6 rfl c'10 rfl) (Zg (Zac (cs:=(Zbf.c y)) (v:=.n (y.get (i - 1))) (hO'7.box 1 rfl) rfl (ZeK c'10)) ?_)))))))
   refine Zd (.n t) q'4_9 ?_
   obtain ⟨c'13,hp⟩:=Zj hp
   refine Zg (z6 (a:=(y.get (i - 1))) (b:=t) rfl rfl c'13) (Zg (ZdU (o:=0) (o':=(0 + i.toNat * 1)) (z:=i) q'4_6 rfl c'12 rfl) (zQ (hO'7.stb (ws:=[.n ((y.get (i - 1)) + t)]) (cs':=Zbf.c (y.set i ((y.get (i - 1)) + t))) (v:=.n ((y.get (i - 1)) + t)) 1 rfl rfl rfl rfl ⟨rfl,(by have:=c'12; exact (show 0 + i.toNat * 1 + 1≤10 by omega)),rfl⟩ (Zhm c'12)) ?_))
   rintro _ k'8 ⟨rfl,f'4,m'2,hW⟩
   have hO'8:=hW
   refine Zb (Zan (Za (Zk (Zd (.n i) q'4_7 ?_))))
   obtain ⟨c'14,hp⟩:=Zj hp
   refine Zg (z6 (a:=i) (b:=1) rfl rfl c'14) (Zd (.n (i + 1)) rfl (Zb ?_))
   cases hp
   exact (Or.inl ⟨(x.set i ((x.get (i - 1)) + s),y.set i ((y.get (i - 1)) + t),i + 1),rfl,rfl,q'4_0,q'4_1,q'4_5,q'4_6,rfl,(hO'8.pick [0,1] rfl (by decide))⟩)
  ·refine z7 (t:=(decide (i < 10))) rfl b'1 ?_
   refine Zbv (zY ?_)
   cases hp
   refine (Or.inr ⟨(x,y),rfl,(fun h=>nomatch h),(fun he=>?_)⟩)
   subst he; exact ⟨rfl,q'2_0,q'2_5,q'2_6,(hO'4.pick [0,1] rfl (by decide))⟩
 intro e'1 q'1 k'3 hJ'1
 obtain ⟨x1,y1⟩:=o'1
 obtain ⟨rfl,q'1_0,q'1_5,q'1_6,hO'3⟩:=hJ'1
 refine ZaD (Za (Zh (Zk (Zd (.sn) rfl (Zb (Za (Zh ?_)))))))
 refine Zh (Zk (Zd (.n 0) rfl (Zb (Za (Zaq ?_)))))
 obtain ⟨o'5,ho'4,hp⟩:=Zq hp
 refine W.mono (Q:=fun e fr k=>match (generalizing:=false) o'5 with
   | out1=>e = (.exit 2)∧∃ (v'3:V),fr 10 = v'3∧Own B h k [eSl Zc v'3 out1]) ?_ ?_
 ·clear hp
  have hO'10:=hO'3.nil Zc
  refine zP (fun st fr k=>match st with | (out,i1)=>∃ (v'2:V),fr 0 = v_at_∧fr 5 = .p r'1 0∧fr 6 = .p r'2 0∧fr 10 = v'2∧fr 11 = .n i1∧Own B h k [ZbF r'1 (Zbf.c x1),ZbF r'2 (Zbf.c y1),eSl Zc v'2 out]) ho'4 (s:=(([]:List Zf),0)) ⟨V.sn,q'1_0,q'1_5,q'1_6,rfl,rfl,(hO'10.pick [0,1,2] rfl (by decide))⟩ ?_
  rintro ⟨out,i1⟩ q'6 k'10 ⟨v'2,q'6_0,q'6_5,q'6_6,q'6_10,q'6_11,hO'11⟩ o'6 hp
  dsimp only [zz.s1] at hp
  refine Zh (Zh (Zk (Zd (.n i1) q'6_11 (Zd v_at_ q'6_0 (Zg (Zau (hO'11.rd0 s_at_.rd) rfl) (Zg (zN (a:=i1) (b:=(at_.length:Int)) rfl rfl) (Zb ?_)))))))
  refine Za ?_
  rcases Zp hp with ⟨b'4,hp⟩ | ⟨b'4,hp⟩
  ·refine zA (t:=(decide (i1 < (at_.length:Int)))) rfl b'4 ?_
   refine zD (Za (Zh (Zaq (Zfi ?_))))
   have hW:=hO'11.bump 21
   have fr'1:=Fresh.start k'10 21
   have nb'1:∀ {i:Nat},h.n≤k'10.n + i:=Nat.le_trans hO'11.n (Nat.le_add_right _ _)
   have hO'12:=hW
   refine ZaS v'2 q'6_10 (ZaS v_at_ q'6_0 (ZaS (.n i1) q'6_11 ?_))
   obtain ⟨c'15,hp⟩:=Zj hp
   refine z9 (zf (E:=Zc) (z:=i1) (hO'12.rd0 s_at_.rd) rfl rfl c'15) (z9 (Za1 (off':=0) (off2:=0) (hO'12.rd0 s_at_.rd) (Zi c'15) rfl rfl) (z9 (zB (w:=.n ((gi at_ i1.toNat).X)) (hO'12.rd0 s_at_.rd) rfl (Zi c'15) rfl) (z9 (ZcU (a:=((gi at_ i1.toNat).X)) (b:=10) rfl rfl (by decide)) ?_)))
   obtain ⟨c'16,hp⟩:=Zj hp
   refine z9 (ZdU (o:=0) (o':=(0 + (((gi at_ i1.toNat).X).tmod 10:Int).toNat * 1)) (z:=(((gi at_ i1.toNat).X).tmod 10)) q'6_5 rfl c'16 rfl) (z9 (Zac (cs:=(Zbf.c x1)) (v:=.n (x1.get (((gi at_ i1.toNat).X).tmod 10))) (hO'12.box 0 rfl) rfl (ZeK c'16)) (ZaS v_at_ q'6_0 (ZaS (.n i1) q'6_11 (z9 (zf (E:=Zc) (z:=i1) (hO'12.rd0 s_at_.rd) rfl rfl c'15) (z9 (Za1 (off':=0) (off2:=1) (hO'12.rd0 s_at_.rd) (Zi c'15) rfl rfl) (z9 (zB (w:=.n ((gi at_ i1.toNat).Y)) (hO'12.rd0 s_at_.rd) rfl (Zi c'15) rfl) (z9 (ZcU (a:=((gi at_ i1.toNat).Y)) (b:=10) rfl rfl (by decide)) ?_)))))))
   obtain ⟨c'17,hp⟩:=Zj hp
   refine z9 (ZdU (o:=0) (o':=(0 + (((gi at_ i1.toNat).Y).tmod 10:Int).toNat * 1)) (z:=(((gi at_ i1.toNat).Y).tmod 10)) q'6_6 rfl c'17 rfl) (z9 (Zac (cs:=(Zbf.c y1)) (v:=.n (y1.get (((gi at_ i1.toNat).Y).tmod 10))) (hO'12.box 1 rfl) rfl (ZeK c'17)) (z9 (ZbB (cs:=Zc.c (⟨x1.get (((gi at_ i1.toNat).X).tmod 10),y1.get (((gi at_ i1.toNat).Y).tmod 10)⟩:Zf)) (by rw [(zt (v:=.n (x1.get (((gi at_ i1.toNat).X).tmod 10))) rfl (zt (v:=.n (y1.get (((gi at_ i1.toNat).Y).tmod 10))) rfl Za2))]; rfl)) (Ze5 (hO'12.bsl (E:=Zc) (l:=[(⟨x1.get (((gi at_ i1.toNat).X).tmod 10),y1.get (((gi at_ i1.toNat).Y).tmod 10)⟩:Zf)]) ⟨fr'1.m 18 (by decide) (by decide),nb'1⟩ (by rw [(zt (v:=.ag (Zc.c (⟨x1.get (((gi at_ i1.toNat).X).tmod 10),y1.get (((gi at_ i1.toNat).Y).tmod 10)⟩:Zf))) rfl Za2)]; rfl) rfl) ?_)))
   rintro v'4 k'12 z'1 ⟨r'3,f'5,hW⟩
   have fr'2:=fr'1.kept f'5 (by decide)
   have hO'13:=hW
   obtain ⟨c'18,hp⟩:=Zj hp
   refine Ze5 (hO'13.app (E:=Zc) (bytes:=16) 2 ⟨fr'2.m 19 (by decide) (by decide),nb'1⟩ rfl (hO'13.sl 3 rfl:Sl Zc k'12 v'4 [(⟨x1.get (((gi at_ i1.toNat).X).tmod 10),y1.get (((gi at_ i1.toNat).Y).tmod 10)⟩:Zf)]) rfl rfl (fun _=>rfl) c'18 (by decide)) ?_
   rintro v'5 k'13 z'2 ⟨f'6,hW⟩
   have fr'3:=fr'2.kept f'6 (by decide)
   have hO'14:=hW
   refine ZaS v'5 rfl (Zcu ?_)
   refine And.intro ?_ ?_
   ·intro q hq
    simp only [List.mem_cons,List.not_mem_nil,or_false] at hq
    rcases hq with rfl | rfl | rfl | rfl
    ·refine ZaF ?_ ?_
     ·exact (fun h=>nomatch h)
     ·exact (fun h=>nomatch h)
    ·refine ZaF ?_ ?_
     ·exact (fun h=>nomatch h)
     ·exact (fun h=>nomatch h)
    ·refine ZaF ?_ ?_
     ·exact (fun h=>nomatch h)
     ·exact (fun h=>nomatch h)
    ·refine ZaF ?_ ?_
     ·exact (fun h=>nomatch h)
     ·exact (fun h=>nomatch h)
   refine Zan (Za (Zk (Zd (.n i1) q'6_11 ?_)))
   obtain ⟨c'19,hp⟩:=Zj hp
   refine Zg (z6 (a:=i1) (b:=1) rfl rfl c'19) (Zd (.n (i1 + 1)) rfl (Zb ?_))
   cases hp
   exact (Or.inl ⟨(out++[(⟨x1.get (((gi at_ i1.toNat).X).tmod 10),y1.get (((gi at_ i1.toNat).Y).tmod 10)⟩:Zf)],i1 + 1),rfl,rfl,v'5,q'6_0,q'6_5,q'6_6,rfl,rfl,(hO'14.pick [0,1,2] rfl (by decide))⟩)
  ·refine z7 (t:=(decide (i1 < (at_.length:Int)))) rfl b'4 ?_
   refine Zbv (zY ?_)
   cases hp
   refine (Or.inr ⟨out,rfl,(fun h=>nomatch h),(fun he=>?_)⟩)
   subst he; exact ⟨rfl,v'2,q'6_10,(hO'11.pick [2] rfl (by decide))⟩
 intro e'4 q'5 k'9 hJ'4
 obtain ⟨out1,rfl⟩:∃ x,x = o'5:=⟨_,rfl⟩
 obtain ⟨rfl,v'3,q'5_10,hO'9⟩:=hJ'4
 refine ZaD (Za (Zh (Zk (Zd v'3 q'5_10 (Zd v'3 rfl (Zb (Za ?_)))))))
 refine Zad (zu (zG (n:=4) (v:=v'3) rfl ZN) ?_)
 cases hp
 exact ⟨v'3,rfl,(hO'9.pick [0] rfl (by decide))⟩

theorem Zbq.ok {h:Hp} {d:Int}   {r:Bool} (hp:Zbq d = some r) :
  ∃ u k',Is G 90 [.n d] h u k'∧V.b r = u∧Own (fun r=>r < h.n) h k' []:=by
 refine WC.is (ZaM Ze1 ?_)
 unfold Zbq at hp
 let B:Nat→Prop:=(fun r=>r < h.n)
 have hO:Own B h h []:=Own.start0 h
 refine Zh (Zk (Zd (.b false) rfl (Zb (Za (Zh (Zk (Zd (.n d) rfl ?_)))))))
 refine Zg (Zcs (a:=d) (b:=0) rfl rfl) (Zd (.b (decide (0≤d))) rfl ?_)
 refine Za0 3 (fun fr' k'=>h = k'∧fr' 8 = .b ((decide (0≤d)) && (decide (d≤3)))) ?_ ?_
 ·rcases bc (decide (0≤d)) with b'1 | b'1
  ·skip
   refine Z8 rfl b'1 (Zd (.n d) rfl (Z8 rfl b'1 (Zg (ZgG (a:=d) (b:=3) rfl rfl) (Zg (zr (t:=(decide (0≤d))) (v:=.b ((decide (0≤d)) && (decide (d≤3)))) rfl b'1 (Eq.trans (b:=V.b (decide (d≤3))) rfl (Zd7 b'1))) (Zb ?_)))))
   exact ⟨rfl,rfl⟩
  ·skip
   refine Zv rfl b'1 (Zv rfl b'1 (Zg (zm (t:=(decide (0≤d))) (v:=.b ((decide (0≤d)) && (decide (d≤3)))) rfl b'1 (Eq.trans (b:=V.b false) rfl (ZcN b'1))) (Zb ?_)))
   exact ⟨rfl,rfl⟩
 rintro frg'1 _ ⟨rfl,g'1_8⟩
 refine Zd (.b ((decide (0≤d)) && (decide (d≤3)))) g'1_8 (Zb (Za (Zad (zu (zG (n:=2) (v:=.b ((decide (0≤d)) && (decide (d≤3)))) rfl ZN) ?_))))
 cases hp
 exact ⟨rfl,(hO.pick [] rfl (by decide))⟩

theorem Zbr.ok {h:Hp} {d:Int} {times:Int}   {r:Int} (hp:Zbr d times = some r) :
  ∃ u k',Is G 77 [.n d,.n times] h u k'∧V.n r = u∧Own (fun r=>r < h.n) h k' []:=by
 refine WC.is (ZaM Ze2 ?_)
 unfold Zbr at hp
 let B:Nat→Prop:=(fun r=>r < h.n)
 have hO:Own B h h []:=Own.start0 h
 refine Zh (Zk (Zd (.n 0) rfl (Zb (Za (Zh (Zh (Zk ?_)))))))
 refine Zd (.n d) rfl ?_
 obtain ⟨x,hx'1,hp⟩:=Zq hp
 obtain ⟨u'1,k'1,ca'1,rfl,hW'1⟩:=Zbq.ok (h:=h)   hx'1
 refine Zbd (id:=90) (caps:=[]) rfl (Zu (v:=.n d) rfl zx) ca'1 ?_
 have hO'1:=hO.call hW'1 rfl
 refine Zg (Zc3 (t:=x) rfl) (Zb (Za ?_))
 rcases Zp hp with ⟨b'1,hp⟩ | ⟨b'1,hp⟩
 ·refine zA (t:=(!x)) rfl b'1 ?_
  refine Zh (Zk (Zd (.n 0) rfl (Zb (Za (Zad (zk (zu (zG (n:=4) (v:=.n 0) rfl ZN) ?_)))))))
  cases hp
  exact ⟨rfl,(hO'1.pick [] rfl (by decide))⟩
 ·refine z7 (t:=(!x)) rfl b'1 ?_
  refine zD (Za (Zh (Zk (Zd (.n d) rfl (Zd (.n times) rfl (Zg (ZcU (a:=times) (b:=4) rfl rfl (by decide)) ?_))))))
  obtain ⟨c'1,hp⟩:=Zj hp
  refine Zg (z6 (a:=d) (b:=(times.tmod 4)) rfl rfl c'1) ?_
  obtain ⟨c'2,hp⟩:=Zj hp
  refine Zg (z6 (a:=(d + (times.tmod 4))) (b:=4) rfl rfl c'2) (Zg (ZcU (a:=((d + (times.tmod 4)) + 4)) (b:=4) rfl rfl (by decide)) (Zd (.n (((d + (times.tmod 4)) + 4).tmod 4)) rfl (Zb (Za (Zad (zu (zG (n:=4) (v:=.n (((d + (times.tmod 4)) + 4).tmod 4)) rfl ZN) ?_))))))
  cases hp
  exact ⟨rfl,(hO'1.pick [] rfl (by decide))⟩

theorem ZcK.ok {h:Hp} {cells:List Ze} {v:Int} {d:Int} {v_cells:V} (s_cells:Sl Zn h v_cells cells) {r:Int} (hp:ZcK cells v d = some r) :
  ∃ u k',Is G 82 [v_cells,.n v,.n d] h u k'∧V.n r = u∧Own (fun r=>r < h.n) h k' []:=by
 refine WC.is (ZaM Zfz ?_)
 unfold ZcK at hp
 let B:Nat→Prop:=(fun r=>r < h.n)
 have hO:Own B h h []:=Own.start0 h
 refine Zh (Zk (Zd (.n 0) rfl (Zb (Za (Zh (ZgF ?_))))))
 have hW:=hO.bump 16
 have hO'1:=hW
 refine ZaE v_cells rfl (ZaE (.n v) rfl (ZaE (.n d) rfl ?_))
 obtain ⟨c'1,hp⟩:=Zj hp
 refine ze rfl (zf (E:=Zn) (z:=v) (hO'1.rd0 s_cells.rd) rfl rfl c'1) (ze rfl (Za1 (off':=0) (off2:=0) (hO'1.rd0 s_cells.rd) (Zi c'1) rfl rfl) ?_)
 obtain ⟨c'2,hp⟩:=Zj hp
 refine ze rfl (ZbC (off:=0) (off2:=(0 + d.toNat * 1)) (z:=d) (hO'1.rd0 s_cells.rd) (Zi c'1) rfl rfl c'2 rfl) (ze rfl (zB (w:=.n (((gi cells v.toNat).Next).get d)) (hO'1.rd0 s_cells.rd) rfl (Zi c'1) (zO c'2)) (ZaE v_cells rfl (ZaE (.n v) rfl (ZaE (.n d) rfl (ze rfl (zf (E:=Zn) (z:=v) (hO'1.rd0 s_cells.rd) rfl rfl c'1) (ze rfl (Za1 (off':=0) (off2:=4) (hO'1.rd0 s_cells.rd) (Zi c'1) rfl rfl) (ze rfl (ZbC (off:=4) (off2:=(4 + d.toNat * 1)) (z:=d) (hO'1.rd0 s_cells.rd) (Zi c'1) rfl rfl c'2 rfl) ?_)))))))
 refine ze rfl (zB (w:=.n (((gi cells v.toNat).Owner).get d)) (hO'1.rd0 s_cells.rd) rfl (Zi c'1) (Zce c'2)) (ZaE (.n (((gi cells v.toNat).Next).get d)) rfl (ZaE (.n (((gi cells v.toNat).Owner).get d)) rfl (Za9 (Za (Zh (Zh (Zk ?_)))))))
 refine Zd (.n (((gi cells v.toNat).Next).get d)) rfl (Zg (ZbQ (a:=(((gi cells v.toNat).Next).get d)) (b:=(-1)) rfl rfl) (Zb (Za ?_)))
 rcases Zp hp with ⟨b'1,hp⟩ | ⟨b'1,hp⟩
 ·refine zA (t:=(decide (((gi cells v.toNat).Next).get d = (-1)))) rfl b'1 ?_
  refine Zh (Zh (Zk (Zd (.n (((gi cells v.toNat).Owner).get d)) rfl (Zg (Zck (a:=(((gi cells v.toNat).Owner).get d)) (b:=0) rfl rfl) (Zb (Za ?_))))))
  rcases Zp hp with ⟨b'2,hp⟩ | ⟨b'2,hp⟩
  ·refine zA (t:=(!(decide (((gi cells v.toNat).Owner).get d = 0)))) rfl b'2 ?_
   refine Zh (Zk (Zd (.n 9) rfl (Zb (Za (Zad (zk (zk ?_)))))))
   refine zu (zG (n:=6) (v:=.n 9) rfl ZN) ?_
   cases hp
   exact ⟨rfl,(hO'1.pick [] rfl (by decide))⟩
  ·refine z7 (t:=(!(decide (((gi cells v.toNat).Owner).get d = 0)))) rfl b'2 ?_
   refine zD (Za (Zh (Zk (Zd (.n 0) rfl (Zb (Za (Zad ?_)))))))
   refine zk (zu (zG (n:=6) (v:=.n 0) rfl ZN) ?_)
   cases hp
   exact ⟨rfl,(hO'1.pick [] rfl (by decide))⟩
 ·refine z7 (t:=(decide (((gi cells v.toNat).Next).get d = (-1)))) rfl b'1 ?_
  refine zD (Za (Zh (Zh (Zk (Zd (.n (((gi cells v.toNat).Next).get d)) rfl (Zg (zN (a:=(((gi cells v.toNat).Next).get d)) (b:=0) rfl rfl) (Zd (.b (decide ((((gi cells v.toNat).Next).get d) < 0))) rfl ?_)))))))
  refine Za0 5 (fun fr' k'=>(h.bump 16) = k'∧fr' 35 = .b ((decide ((((gi cells v.toNat).Next).get d) < 0)) || (decide ((cells.length:Int)≤(((gi cells v.toNat).Next).get d))))∧fr' 0 = v_cells∧fr' 1 = .n v∧fr' 2 = .n d∧fr' 7 = .n (((gi cells v.toNat).Next).get d)∧fr' 8 = .n (((gi cells v.toNat).Owner).get d)) ?_ ?_
  ·rcases bc (decide ((((gi cells v.toNat).Next).get d) < 0)) with b'3 | b'3
   ·skip
    refine Zv rfl b'3 (Zv rfl b'3 (Zv rfl b'3 (Zv rfl b'3 (Zg (zr (t:=(decide ((((gi cells v.toNat).Next).get d) < 0))) (v:=.b ((decide ((((gi cells v.toNat).Next).get d) < 0)) || (decide ((cells.length:Int)≤(((gi cells v.toNat).Next).get d))))) rfl b'3 (Eq.trans (b:=V.b true) rfl (Zbx b'3))) (Zb ?_)))))
    exact ⟨rfl,rfl,rfl,rfl,rfl,rfl,rfl⟩
   ·skip
    refine Z8 rfl b'3 (Zd (.n (((gi cells v.toNat).Next).get d)) rfl (Z8 rfl b'3 (Zd v_cells rfl (Z8 rfl b'3 (Zg (Zau (hO'1.rd0 s_cells.rd) rfl) (Z8 rfl b'3 (Zg (Zcs (a:=(((gi cells v.toNat).Next).get d)) (b:=(cells.length:Int)) rfl rfl) ?_)))))))
    refine Zg (zm (t:=(decide ((((gi cells v.toNat).Next).get d) < 0))) (v:=.b ((decide ((((gi cells v.toNat).Next).get d) < 0)) || (decide ((cells.length:Int)≤(((gi cells v.toNat).Next).get d))))) rfl b'3 (Eq.trans (b:=V.b (decide ((cells.length:Int)≤(((gi cells v.toNat).Next).get d)))) rfl (Zca b'3))) (Zb ?_)
    exact ⟨rfl,rfl,rfl,rfl,rfl,rfl,rfl⟩
  rintro frg'1 _ ⟨rfl,g'1_35,g'1_0,g'1_1,g'1_2,g'1_7,g'1_8⟩
  refine Zd (.b ((decide ((((gi cells v.toNat).Next).get d) < 0)) || (decide ((cells.length:Int)≤(((gi cells v.toNat).Next).get d))))) g'1_35 ?_
  refine Za0 4 (fun fr' k'=>(h.bump 16) = k'∧fr' 40 = .b (((decide ((((gi cells v.toNat).Next).get d) < 0)) || (decide ((cells.length:Int)≤(((gi cells v.toNat).Next).get d)))) || (decide (((gi cells v.toNat).Next).get d = v)))∧fr' 0 = v_cells∧fr' 1 = .n v∧fr' 2 = .n d∧fr' 7 = .n (((gi cells v.toNat).Next).get d)∧fr' 8 = .n (((gi cells v.toNat).Owner).get d)) ?_ ?_
  ·rcases bc ((decide ((((gi cells v.toNat).Next).get d) < 0)) || (decide ((cells.length:Int)≤(((gi cells v.toNat).Next).get d)))) with b'4 | b'4
   ·skip
    refine Zv rfl b'4 (Zv rfl b'4 (Zv rfl b'4 (Zg (zr (t:=((decide ((((gi cells v.toNat).Next).get d) < 0)) || (decide ((cells.length:Int)≤(((gi cells v.toNat).Next).get d))))) (v:=.b (((decide ((((gi cells v.toNat).Next).get d) < 0)) || (decide ((cells.length:Int)≤(((gi cells v.toNat).Next).get d)))) || (decide (((gi cells v.toNat).Next).get d = v)))) rfl b'4 (Eq.trans (b:=V.b true) rfl (Zbx b'4))) (Zb ?_))))
    exact ⟨rfl,rfl,g'1_0,g'1_1,g'1_2,g'1_7,g'1_8⟩
   ·skip
    refine Z8 rfl b'4 (Zd (.n (((gi cells v.toNat).Next).get d)) g'1_7 (Z8 rfl b'4 (Zd (.n v) g'1_1 (Z8 rfl b'4 (Zg (ZbQ (a:=(((gi cells v.toNat).Next).get d)) (b:=v) rfl rfl) (Zg (zm (t:=((decide ((((gi cells v.toNat).Next).get d) < 0)) || (decide ((cells.length:Int)≤(((gi cells v.toNat).Next).get d))))) (v:=.b (((decide ((((gi cells v.toNat).Next).get d) < 0)) || (decide ((cells.length:Int)≤(((gi cells v.toNat).Next).get d)))) || (decide (((gi cells v.toNat).Next).get d = v)))) rfl b'4 (Eq.trans (b:=V.b (decide (((gi cells v.toNat).Next).get d = v))) rfl (Zca b'4))) (Zb ?_)))))))
    exact ⟨rfl,rfl,g'1_0,g'1_1,g'1_2,g'1_7,g'1_8⟩
  rintro frg'2 _ ⟨rfl,g'2_40,g'2_0,g'2_1,g'2_2,g'2_7,g'2_8⟩
  refine Zb (Za ?_)
  rcases Zp hp with ⟨b'5,hp⟩ | ⟨b'5,hp⟩
  ·refine zA (t:=(((decide ((((gi cells v.toNat).Next).get d) < 0)) || (decide ((cells.length:Int)≤(((gi cells v.toNat).Next).get d)))) || (decide (((gi cells v.toNat).Next).get d = v)))) g'2_40 b'5 ?_
   refine Zh (Zk (Zd (.n 3) rfl (Zb (Za (Zad (zk (zu (zG (n:=6) (v:=.n 3) rfl ZN) ?_)))))))
   cases hp
   exact ⟨rfl,(hO'1.pick [] rfl (by decide))⟩
  ·refine z7 (t:=(((decide ((((gi cells v.toNat).Next).get d) < 0)) || (decide ((cells.length:Int)≤(((gi cells v.toNat).Next).get d)))) || (decide (((gi cells v.toNat).Next).get d = v)))) g'2_40 b'5 ?_
   refine zD (Za (Zh (Zk (Zd (.n d) g'2_2 ?_))))
   obtain ⟨x,hx'1,hp⟩:=Zq hp
   obtain ⟨u'1,k'2,ca'1,rfl,hW'1⟩:=Zbr.ok (h:=(h.bump 16))   hx'1
   refine Zbd (id:=77) (caps:=[]) rfl (Zu (v:=.n d) rfl (Zu (v:=.n 2) rfl zx)) ca'1 ?_
   have hO'2:=hO'1.call hW'1 rfl
   refine Zd (.n x) rfl (Zb (Za (Zh (Zh (Zk (Zd v_cells g'2_0 (Zd (.n (((gi cells v.toNat).Next).get d)) g'2_7 ?_)))))))
   refine Zd (.n x) rfl ?_
   obtain ⟨c'3,hp⟩:=Zj hp
   refine Zg (zf (E:=Zn) (z:=(((gi cells v.toNat).Next).get d)) (hO'2.rd0 s_cells.rd) rfl rfl c'3) (Zg (Za1 (off':=0) (off2:=0) (hO'2.rd0 s_cells.rd) (Zi c'3) rfl rfl) ?_)
   obtain ⟨c'4,hp⟩:=Zj hp
   refine Zg (ZbC (off:=0) (off2:=(0 + x.toNat * 1)) (z:=x) (hO'2.rd0 s_cells.rd) (Zi c'3) rfl rfl c'4 rfl) (Zg (zB (w:=.n (((gi cells (((gi cells v.toNat).Next).get d:Int).toNat).Next).get x)) (hO'2.rd0 s_cells.rd) rfl (Zi c'3) (zO c'4)) (Zd (.n v) g'2_1 (Zg (Zck (a:=(((gi cells (((gi cells v.toNat).Next).get d:Int).toNat).Next).get x)) (b:=v) rfl rfl) (Zd (.b (!(decide (((gi cells (((gi cells v.toNat).Next).get d:Int).toNat).Next).get x = v)))) rfl ?_))))
   refine Za0 10 (fun fr' k'=>k'2 = k'∧fr' 62 = .b ((!(decide (((gi cells (((gi cells v.toNat).Next).get d:Int).toNat).Next).get x = v))) || (!(decide (((gi cells (((gi cells v.toNat).Next).get d:Int).toNat).Owner).get x = ((gi cells v.toNat).Owner).get d))))∧fr' 8 = .n (((gi cells v.toNat).Owner).get d)) ?_ ?_
   ·rcases bc (!(decide (((gi cells (((gi cells v.toNat).Next).get d:Int).toNat).Next).get x = v))) with b'6 | b'6
    ·skip
     refine Zv rfl b'6 (Zv rfl b'6 (Zv rfl b'6 (Zv rfl b'6 (Zv rfl b'6 (Zv rfl b'6 (Zv rfl b'6 (Zv rfl b'6 ?_)))))))
     refine Zv rfl b'6 (Zg (zr (t:=(!(decide (((gi cells (((gi cells v.toNat).Next).get d:Int).toNat).Next).get x = v)))) (v:=.b ((!(decide (((gi cells (((gi cells v.toNat).Next).get d:Int).toNat).Next).get x = v))) || (!(decide (((gi cells (((gi cells v.toNat).Next).get d:Int).toNat).Owner).get x = ((gi cells v.toNat).Owner).get d))))) rfl b'6 (Eq.trans (b:=V.b true) rfl (Zbx b'6))) (Zb ?_))
     exact ⟨rfl,rfl,g'2_8⟩
    ·skip
     refine Z8 rfl b'6 (Zd v_cells g'2_0 (Z8 rfl b'6 (Zd (.n (((gi cells v.toNat).Next).get d)) g'2_7 (Z8 rfl b'6 (Zd (.n x) rfl (Z8 rfl b'6 (Zg (zf (E:=Zn) (z:=(((gi cells v.toNat).Next).get d)) (hO'2.rd0 s_cells.rd) rfl rfl c'3) ?_)))))))
     refine Z8 rfl b'6 (Zg (Za1 (off':=0) (off2:=4) (hO'2.rd0 s_cells.rd) (Zi c'3) rfl rfl) (Z8 rfl b'6 (Zg (ZbC (off:=4) (off2:=(4 + x.toNat * 1)) (z:=x) (hO'2.rd0 s_cells.rd) (Zi c'3) rfl rfl c'4 rfl) (Z8 rfl b'6 (Zg (zB (w:=.n (((gi cells (((gi cells v.toNat).Next).get d:Int).toNat).Owner).get x)) (hO'2.rd0 s_cells.rd) rfl (Zi c'3) (Zce c'4)) (Z8 rfl b'6 (Zd (.n (((gi cells v.toNat).Owner).get d)) g'2_8 ?_)))))))
     refine Z8 rfl b'6 (Zg (Zck (a:=(((gi cells (((gi cells v.toNat).Next).get d:Int).toNat).Owner).get x)) (b:=(((gi cells v.toNat).Owner).get d)) rfl rfl) (Zg (zm (t:=(!(decide (((gi cells (((gi cells v.toNat).Next).get d:Int).toNat).Next).get x = v)))) (v:=.b ((!(decide (((gi cells (((gi cells v.toNat).Next).get d:Int).toNat).Next).get x = v))) || (!(decide (((gi cells (((gi cells v.toNat).Next).get d:Int).toNat).Owner).get x = ((gi cells v.toNat).Owner).get d))))) rfl b'6 (Eq.trans (b:=V.b (!(decide (((gi cells (((gi cells v.toNat).Next).get d:Int).toNat).Owner).get x = ((gi cells v.toNat).Owner).get d)))) rfl (Zca b'6))) (Zb ?_)))
     exact ⟨rfl,rfl,g'2_8⟩
   rintro frg'3 _ ⟨rfl,g'3_62,g'3_8⟩
   refine Zd (.b ((!(decide (((gi cells (((gi cells v.toNat).Next).get d:Int).toNat).Next).get x = v))) || (!(decide (((gi cells (((gi cells v.toNat).Next).get d:Int).toNat).Owner).get x = ((gi cells v.toNat).Owner).get d))))) g'3_62 ?_
   refine Za0 3 (fun fr' k'=>k'2 = k'∧fr' 66 = .b (((!(decide (((gi cells (((gi cells v.toNat).Next).get d:Int).toNat).Next).get x = v))) || (!(decide (((gi cells (((gi cells v.toNat).Next).get d:Int).toNat).Owner).get x = ((gi cells v.toNat).Owner).get d)))) || (decide ((((gi cells v.toNat).Owner).get d) < (-2))))) ?_ ?_
   ·rcases bc ((!(decide (((gi cells (((gi cells v.toNat).Next).get d:Int).toNat).Next).get x = v))) || (!(decide (((gi cells (((gi cells v.toNat).Next).get d:Int).toNat).Owner).get x = ((gi cells v.toNat).Owner).get d)))) with b'7 | b'7
    ·skip
     refine Zv rfl b'7 (Zv rfl b'7 (Zg (zr (t:=((!(decide (((gi cells (((gi cells v.toNat).Next).get d:Int).toNat).Next).get x = v))) || (!(decide (((gi cells (((gi cells v.toNat).Next).get d:Int).toNat).Owner).get x = ((gi cells v.toNat).Owner).get d))))) (v:=.b (((!(decide (((gi cells (((gi cells v.toNat).Next).get d:Int).toNat).Next).get x = v))) || (!(decide (((gi cells (((gi cells v.toNat).Next).get d:Int).toNat).Owner).get x = ((gi cells v.toNat).Owner).get d)))) || (decide ((((gi cells v.toNat).Owner).get d) < (-2))))) rfl b'7 (Eq.trans (b:=V.b true) rfl (Zbx b'7))) (Zb ?_)))
     exact ⟨rfl,rfl⟩
    ·skip
     refine Z8 rfl b'7 (Zd (.n (((gi cells v.toNat).Owner).get d)) g'3_8 (Z8 rfl b'7 (Zg (zN (a:=(((gi cells v.toNat).Owner).get d)) (b:=(-2)) rfl rfl) (Zg (zm (t:=((!(decide (((gi cells (((gi cells v.toNat).Next).get d:Int).toNat).Next).get x = v))) || (!(decide (((gi cells (((gi cells v.toNat).Next).get d:Int).toNat).Owner).get x = ((gi cells v.toNat).Owner).get d))))) (v:=.b (((!(decide (((gi cells (((gi cells v.toNat).Next).get d:Int).toNat).Next).get x = v))) || (!(decide (((gi cells (((gi cells v.toNat).Next).get d:Int).toNat).Owner).get x = ((gi cells v.toNat).Owner).get d)))) || (decide ((((gi cells v.toNat).Owner).get d) < (-2))))) rfl b'7 (Eq.trans (b:=V.b (decide ((((gi cells v.toNat).Owner).get d) < (-2)))) rfl (Zca b'7))) (Zb ?_)))))
     exact ⟨rfl,rfl⟩
   rintro frg'4 _ ⟨rfl,g'4_66⟩
   refine Zb (Za ?_)
   rcases Zp hp with ⟨b'8,hp⟩ | ⟨b'8,hp⟩
   ·refine zA (t:=(((!(decide (((gi cells (((gi cells v.toNat).Next).get d:Int).toNat).Next).get x = v))) || (!(decide (((gi cells (((gi cells v.toNat).Next).get d:Int).toNat).Owner).get x = ((gi cells v.toNat).Owner).get d)))) || (decide ((((gi cells v.toNat).Owner).get d) < (-2))))) g'4_66 b'8 ?_
    refine Zh (Zk (Zd (.n 9) rfl (Zb (Za (Zad (zk (zu (zG (n:=6) (v:=.n 9) rfl ZN) ?_)))))))
    cases hp
    exact ⟨rfl,(hO'2.pick [] rfl (by decide))⟩
   ·refine z7 (t:=(((!(decide (((gi cells (((gi cells v.toNat).Next).get d:Int).toNat).Next).get x = v))) || (!(decide (((gi cells (((gi cells v.toNat).Next).get d:Int).toNat).Owner).get x = ((gi cells v.toNat).Owner).get d)))) || (decide ((((gi cells v.toNat).Owner).get d) < (-2))))) g'4_66 b'8 ?_
    refine zD (Za (Zh (Zk (Zd (.n 0) rfl (Zb (Za (Zad ?_)))))))
    refine zu (zG (n:=6) (v:=.n 0) rfl ZN) ?_
    cases hp
    exact ⟨rfl,(hO'2.pick [] rfl (by decide))⟩

end Mu
