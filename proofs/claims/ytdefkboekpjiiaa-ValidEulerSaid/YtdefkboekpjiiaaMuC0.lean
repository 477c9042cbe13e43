/- The code comes to what was worked out. -/
import Derived.Test.YtdefkboekpjiiaaMuDf
import Derived.Test.YtdefkboekpjiiaaMuPa
set_option linter.unusedVariables false
set_option linter.unnecessarySimpa false
set_option linter.unusedSimpArgs false
set_option maxHeartbeats 2000000
set_option maxRecDepth 10000
namespace Mu
open Go (IntKind BinOp UnOp)
theorem Zal {x:Zc} {i:Int} (h:0≤i∧i < 4):(Zf.c x)[0 + i.toNat * 1]? = some (.n ((x.Next).get i)):=by
 rcases (show i = 0∨i = 1∨i = 2∨i = 3 by omega) with rfl | rfl | rfl | rfl <;> rfl
theorem ZbG {x:Zc} {i:Int} {w:Int} (h:0≤i∧i < 4):over (Zf.c x) (0 + i.toNat * 1) [.n w] = Zf.c ({ x with Next:=(x.Next).set i w }):=by
 rcases (show i = 0∨i = 1∨i = 2∨i = 3 by omega) with rfl | rfl | rfl | rfl <;> rfl
theorem Zc6 {x:Zc} {i:Int} (h:0≤i∧i < 4):(Zf.c x)[4 + i.toNat * 1]? = some (.n ((x.Owner).get i)):=by
 rcases (show i = 0∨i = 1∨i = 2∨i = 3 by omega) with rfl | rfl | rfl | rfl <;> rfl
theorem Zc7 {x:Zc} {i:Int} {w:Int} (h:0≤i∧i < 4):over (Zf.c x) (4 + i.toNat * 1) [.n w] = Zf.c ({ x with Owner:=(x.Owner).set i w }):=by
 rcases (show i = 0∨i = 1∨i = 2∨i = 3 by omega) with rfl | rfl | rfl | rfl <;> rfl
theorem ZkE {x:A2 Int} {i:Int} (h:0≤i∧i < 2):(zJ.c x)[0 + i.toNat * 1]? = some (.n ((x).get i)):=by
 rcases (show i = 0∨i = 1 by omega) with rfl | rfl <;> rfl
theorem ZkD {x:A2 Int} {i:Int} (h:0≤i∧i < 2):Zbv false (zJ.c x) (i.toNat * 1) 1 = some (.n ((x).get i)):=by
 rcases (show i = 0∨i = 1 by omega) with rfl | rfl <;> rfl
theorem ZfD {x:A2 Int} {i:Int} {w:Int} (h:0≤i∧i < 2):over (zJ.c x) (0 + i.toNat * 1) [.n w] = zJ.c ((x).set i w):=by
 rcases (show i = 0∨i = 1 by omega) with rfl | rfl <;> rfl
theorem ZkF {x:A4 Int} {i:Int} (h:0≤i∧i < 4):(Zbk.c x)[0 + i.toNat * 1]? = some (.n ((x).get i)):=by
 rcases (show i = 0∨i = 1∨i = 2∨i = 3 by omega) with rfl | rfl | rfl | rfl <;> rfl
theorem Zem {x:A4 Int} {i:Int} (h:0≤i∧i < 4):Zbv false (Zbk.c x) (i.toNat * 1) 1 = some (.n ((x).get i)):=by
 rcases (show i = 0∨i = 1∨i = 2∨i = 3 by omega) with rfl | rfl | rfl | rfl <;> rfl
theorem ZkG {x:A4 Int} {i:Int} {w:Int} (h:0≤i∧i < 4):over (Zbk.c x) (0 + i.toNat * 1) [.n w] = Zbk.c ((x).set i w):=by
 rcases (show i = 0∨i = 1∨i = 2∨i = 3 by omega) with rfl | rfl | rfl | rfl <;> rfl
theorem Zg9 (cs:List Go.Value) (h:OkL [some .u8] cs):∃ x:Int,Zd8.c x = cs.map toV∧ZdM x:=by
 obtain ⟨n0,cs0,rfl,w0,h0⟩:=h.inv_i
 obtain rfl:=h0.inv_n
 exact ⟨n0,rfl,w0⟩
theorem Zkg (cs:List Go.Value) (h:OkL [some .i8] cs):∃ x:Int,ZgA.c x = cs.map toV∧ZgW x:=by
 obtain ⟨n0,cs0,rfl,w0,h0⟩:=h.inv_i
 obtain rfl:=h0.inv_n
 exact ⟨n0,rfl,w0⟩
theorem Zin (cs:List Go.Value) (h:OkL [none] cs):∃ x:Bool,e_bool.c x = cs.map toV∧ZfG x:=by
 obtain ⟨n0,cs0,rfl,h0⟩:=h.inv_b
 obtain rfl:=h0.inv_n
 exact ⟨n0,rfl,trivial⟩
theorem Zh3 (cs:List Go.Value) (h:OkL [some .u8,some .u8,some .u8] cs):∃ x:A3 Int,Zc8.c x = cs.map toV∧ZdW x:=by
 obtain ⟨n0,cs0,rfl,w0,h0⟩:=h.inv_i
 obtain ⟨n1,cs1,rfl,w1,h1⟩:=h0.inv_i
 obtain ⟨n2,cs2,rfl,w2,h2⟩:=h1.inv_i
 obtain rfl:=h2.inv_n
 exact ⟨⟨n0,n1,n2⟩,rfl,⟨w0,w1,w2⟩⟩
theorem ZE.ok {h:Hp} {n:Int}   {r:(List Zc)} (hp:ZE n = some r) :
  ∃ u k',Is G 46 [.n n] h u k'∧∃ (v'1:V),v'1 = u∧Own (fun r=>r < h.n) h k' [eSl Zf v'1 r]:=by
 refine WC.is (ZaM Zc4 ?_)
 unfold ZE at hp
 let B:Nat→Prop:=(fun r=>r < h.n)
 have hO:Own B h h []:=Own.start0 h
 refine Zk (Zo (Zd (.sn) rfl (Zb (Za (Zk (Zo (Zd (.n n) rfl ?_)))))))
 obtain ⟨c'1,hp⟩:=Zj hp
 refine zy (hO.mks (E:=Zf) (y:=(⟨⟨0,0,0,0⟩,⟨0,0,0,0⟩⟩:Zc)) (bytes:=64) (z:=n) hO.fr rfl rfl rfl c'1 (by decide)) ?_
 rintro v'2 k'1 ⟨r'1,f'1,hW⟩
 have hO'1:=hW
 refine Zd v'2 rfl (Zb (Za (Zk (Zk (Zo (Zd (.n 0) rfl (Zb ?_)))))))
 refine Za (Zaa ?_)
 obtain ⟨o'1,ho'1,hp⟩:=Zt hp
 refine W.mono (Q:=fun e fr k=>match (generalizing:=false) o'1 with
   | l1=>e = (.exit 0)∧fr 3 = v'2∧Own B h k [eSl Zf v'2 l1]) ?_ ?_
 ·clear hp
  refine z9 (fun st fr k=>match st with | (l,v)=>fr 0 = .n n∧fr 3 = v'2∧fr 4 = .n v∧Own B h k [eSl Zf v'2 l]) ho'1 (s:=(List.replicate n.toNat (⟨⟨0,0,0,0⟩,⟨0,0,0,0⟩⟩:Zc),0)) ⟨rfl,rfl,rfl,(hO'1.pick [0] rfl (by decide))⟩ ?_
  rintro ⟨l,v⟩ q'2 k'3 ⟨q'2_0,q'2_3,q'2_4,hO'3⟩ o'2 hp
  dsimp only [ZE.s0] at hp
  refine Zk (Zk (Zo (Zd (.n v) q'2_4 (Zd (.n n) q'2_0 (Ze (zG (a:=v) (b:=n) rfl rfl) (Zb (Za ?_)))))))
  rcases Z2 hp with ⟨b'1,hp⟩ | ⟨b'1,hp⟩
  ·refine zO (t:=(decide (v < n))) rfl b'1 ?_
   refine zU (Za (Zk (Zaa (Zk (Zo (Zd (.n 0) rfl (Zb ?_)))))))
   refine Za (Zaa ?_)
   obtain ⟨o'3,ho'2,hp⟩:=Zt hp
   refine W.mono (Q:=fun e fr k=>match (generalizing:=false) o'3 with
     | l3=>e = (.exit 2)∧fr 0 = .n n∧fr 3 = v'2∧fr 4 = .n v∧Own B h k [eSl Zf v'2 l3]) ?_ ?_
   ·clear hp
    refine z9 (fun st fr k=>match st with | (l2,d)=>fr 0 = .n n∧fr 3 = v'2∧fr 4 = .n v∧fr 5 = .n d∧Own B h k [eSl Zf v'2 l2]) ho'2 (s:=(l,0)) ⟨q'2_0,q'2_3,q'2_4,rfl,(hO'3.pick [0] rfl (by decide))⟩ ?_
    rintro ⟨l2,d⟩ q'4 k'5 ⟨q'4_0,q'4_3,q'4_4,q'4_5,hO'5⟩ o'4 hp
    dsimp only [ZE.s1] at hp
    refine Zk (Zk (Zo (Zd (.n d) q'4_5 (Ze (zG (a:=d) (b:=4) rfl rfl) (Zb (Za ?_))))))
    rcases Z2 hp with ⟨b'2,hp⟩ | ⟨b'2,hp⟩
    ·refine zO (t:=(decide (d < 4))) rfl b'2 ?_
     refine zU (Za (Zk (Zaa (Zo (Zd v'2 q'4_3 (Zd (.n v) q'4_4 (Zd (.n d) q'4_5 ?_)))))))
     obtain ⟨c'2,hp⟩:=Zj hp
     refine Ze (zz (E:=Zf) (z:=v) (hO'5.sl 0 rfl) rfl rfl c'2) (Ze (ZaE (off':=0) (off2:=0) (hO'5.sl 0 rfl) (Zp c'2) rfl rfl) ?_)
     obtain ⟨c'3,hp⟩:=Zj hp
     refine Ze (ZaU (off:=0) (off2:=(0 + d.toNat * 1)) (z:=d) (hO'5.sl 0 rfl) (Zp c'2) rfl rfl c'3 rfl) (zy (hO'5.ste (E:=Zf) (y:=({ gi l2 v.toNat with Next:=((gi l2 v.toNat).Next).set d (-1) })) (ws:=[.n (-1)]) 0 rfl rfl (Zp c'2) rfl rfl ⟨rfl,(by have:=c'3; exact (show 0 + d.toNat * 1 + 1≤8 by omega)),rfl⟩ (ZbG c'3)) ?_)
     rintro _ k'6 ⟨rfl,f'2,m'1,hW⟩
     have hO'6:=hW
     refine Zb (Zac (Za (Zo (Zd (.n d) q'4_5 ?_))))
     obtain ⟨c'4,hp⟩:=Zj hp
     refine Ze (zp (a:=d) (b:=1) rfl rfl c'4) (Zd (.n (d + 1)) rfl (Zb ?_))
     cases hp
     exact (Or.inl ⟨(l2.set v.toNat ({ gi l2 v.toNat with Next:=((gi l2 v.toNat).Next).set d (-1) }),d + 1),rfl,rfl,q'4_0,q'4_3,q'4_4,rfl,(hO'6.pick [0] rfl (by decide))⟩)
    ·refine zN (t:=(decide (d < 4))) rfl b'2 ?_
     refine ZaT (zR ?_)
     cases hp
     refine (Or.inr ⟨l2,rfl,(fun h=>nomatch h),(fun he=>?_)⟩)
     subst he; exact ⟨rfl,q'4_0,q'4_3,q'4_4,(hO'5.pick [0] rfl (by decide))⟩
   intro e'2 q'3 k'4 hJ'2
   obtain ⟨l3,rfl⟩:∃ x,x = o'3:=⟨_,rfl⟩
   obtain ⟨rfl,q'3_0,q'3_3,q'3_4,hO'4⟩:=hJ'2
   refine Zaq (Zac (Za (Zo (Zd (.n v) q'3_4 ?_))))
   obtain ⟨c'5,hp⟩:=Zj hp
   refine Ze (zp (a:=v) (b:=1) rfl rfl c'5) (Zd (.n (v + 1)) rfl (Zb ?_))
   cases hp
   exact (Or.inl ⟨(l3,v + 1),rfl,rfl,q'3_0,q'3_3,rfl,(hO'4.pick [0] rfl (by decide))⟩)
  ·refine zN (t:=(decide (v < n))) rfl b'1 ?_
   refine ZaT (zR ?_)
   cases hp
   refine (Or.inr ⟨l,rfl,(fun h=>nomatch h),(fun he=>?_)⟩)
   subst he; exact ⟨rfl,q'2_3,(hO'3.pick [0] rfl (by decide))⟩
 intro e'1 q'1 k'2 hJ'1
 obtain ⟨l1,rfl⟩:∃ x,x = o'1:=⟨_,rfl⟩
 obtain ⟨rfl,q'1_3,hO'2⟩:=hJ'1
 refine Zaq (Za (Zk (Zo (Zd v'2 q'1_3 (Zd v'2 rfl (Zb (Za ?_)))))))
 refine Za2 (zW (Zax (n:=2) (v:=v'2) rfl zx) ?_)
 cases hp
 exact ⟨v'2,rfl,(hO'2.pick [0] rfl (by decide))⟩

theorem ZQ.ok {h:Hp} {at_:List Z5} {i:Int} {d:Int} {v_at_:V} (s_at_:Sl Zl h v_at_ at_) {r:Int} (hp:ZQ at_ i d = some r) :
  ∃ u k',Is G 63 [v_at_,.n i,.n d] h u k'∧V.n r = u∧Own (fun r=>r < h.n) h k' []:=by
 refine WC.is (ZaM ZbI ?_)
 unfold ZQ at hp
 let B:Nat→Prop:=(fun r=>r < h.n)
 have hO:Own B h h []:=Own.start0 h
 refine Zk (Zo (Zd (.n 0) rfl (Zb (Za (Zk (Zo (Zd (.n (-1)) rfl ?_)))))))
 refine Zb (Za (Zk (Zk (Zo (Zd (.n 0) rfl (Zb (Za ?_)))))))
 refine Zaa ?_
 obtain ⟨o'1,ho'1,hp⟩:=Zt hp
 refine W.mono (Q:=fun e fr k=>match (generalizing:=false) o'1 with
   | best1=>e = (.exit 0)∧fr 7 = .n best1∧Own B h k []) ?_ ?_
 ·clear hp
  refine z9 (fun st fr k=>match st with | (best,k_)=>fr 0 = v_at_∧fr 1 = .n i∧fr 2 = .n d∧fr 7 = .n best∧fr 8 = .n k_∧Own B h k []) ho'1 (s:=((-1),0)) ⟨rfl,rfl,rfl,rfl,rfl,(hO.pick [] rfl (by decide))⟩ ?_
  rintro ⟨best,k_⟩ q'2 k'2 ⟨q'2_0,q'2_1,q'2_2,q'2_7,q'2_8,hO'2⟩ o'2 hp
  dsimp only [ZQ.s0] at hp
  refine Zk (Zk (Zo (Zd (.n k_) q'2_8 (Zd v_at_ q'2_0 (Ze (Zah (hO'2.rd0 s_at_.rd) rfl) (Ze (zG (a:=k_) (b:=(at_.length:Int)) rfl rfl) (Zb ?_)))))))
  refine Za ?_
  rcases Z2 hp with ⟨b'1,hp⟩ | ⟨b'1,hp⟩
  ·refine zO (t:=(decide (k_ < (at_.length:Int)))) rfl b'1 ?_
   refine zU (Za (Zk (Zaa (Zk (Zk (ZfJ ?_))))))
   have hW:=hO'2.bump 45
   have hO'3:=hW
   refine Zao (.n d) q'2_2 (zb rfl (ZaW (a:=d) (b:=0) rfl rfl) (Zao (.b (decide (d = 0))) rfl ?_))
   obtain ⟨t,hv'1,hp⟩:=Zt hp
   refine Zbr 12 (fun fr' k'=>(k'2.bump 45) = k'∧fr' 29 = .b t∧fr' 0 = v_at_∧fr' 1 = .n i∧fr' 2 = .n d∧fr' 7 = .n best∧fr' 8 = .n k_) ?_ ?_
   ·clear hp; rcases Z2 hv'1 with ⟨b'2,hp⟩ | ⟨b'2,hp⟩
    ·skip
     refine ZH rfl b'2 (Zao v_at_ q'2_0 (ZH rfl b'2 (Zao (.n k_) q'2_8 (ZH rfl b'2 ?_))))
     obtain ⟨c'1,hp⟩:=Zj hp
     refine zb rfl (zz (E:=Zl) (z:=k_) (hO'3.rd0 s_at_.rd) rfl rfl c'1) (ZH rfl b'2 (zb rfl (ZaE (off':=0) (off2:=1) (hO'3.rd0 s_at_.rd) (Zp c'1) rfl rfl) (ZH rfl b'2 (zb rfl (zS (w:=.n ((gi at_ k_.toNat).Y)) (hO'3.rd0 s_at_.rd) rfl (Zp c'1) rfl) (ZH rfl b'2 (Zao v_at_ q'2_0 (ZH rfl b'2 ?_)))))))
     refine Zao (.n i) q'2_1 (ZH rfl b'2 ?_)
     obtain ⟨c'2,hp⟩:=Zj hp
     refine zb rfl (zz (E:=Zl) (z:=i) (hO'3.rd0 s_at_.rd) rfl rfl c'2) (ZH rfl b'2 (zb rfl (ZaE (off':=0) (off2:=1) (hO'3.rd0 s_at_.rd) (Zp c'2) rfl rfl) (ZH rfl b'2 (zb rfl (zS (w:=.n ((gi at_ i.toNat).Y)) (hO'3.rd0 s_at_.rd) rfl (Zp c'2) rfl) (ZH rfl b'2 (zb rfl (ZaW (a:=((gi at_ k_.toNat).Y)) (b:=((gi at_ i.toNat).Y)) rfl rfl) (zb rfl (zg (t:=(decide (d = 0))) (v:=.b t) rfl b'2 (Eq.trans (b:=V.b (decide ((gi at_ k_.toNat).Y = (gi at_ i.toNat).Y))) rfl (congrArg V.b (Option.some.inj hp)))) ?_)))))))
     refine Zak ?_
     exact ⟨rfl,rfl,q'2_0,q'2_1,q'2_2,q'2_7,q'2_8⟩
    ·skip
     refine Z6 rfl b'2 (Z6 rfl b'2 (Z6 rfl b'2 (Z6 rfl b'2 (Z6 rfl b'2 (Z6 rfl b'2 (Z6 rfl b'2 (Z6 rfl b'2 ?_)))))))
     refine Z6 rfl b'2 (Z6 rfl b'2 (Z6 rfl b'2 (zb rfl (zc (t:=(decide (d = 0))) (v:=.b t) rfl b'2 (Eq.trans (b:=V.b false) rfl (congrArg V.b (Option.some.inj hp)))) (Zak ?_))))
     exact ⟨rfl,rfl,q'2_0,q'2_1,q'2_2,q'2_7,q'2_8⟩
   rintro frg'1 _ ⟨rfl,g'1_29,g'1_0,g'1_1,g'1_2,g'1_7,g'1_8⟩
   refine Zao (.b t) g'1_29 ?_
   obtain ⟨t1,hv'2,hp⟩:=Zt hp
   refine Zbr 12 (fun fr' k'=>(k'2.bump 45) = k'∧fr' 42 = .b t1∧fr' 0 = v_at_∧fr' 1 = .n i∧fr' 2 = .n d∧fr' 7 = .n best∧fr' 8 = .n k_) ?_ ?_
   ·clear hp; rcases Z2 hv'2 with ⟨b'3,hp⟩ | ⟨b'3,hp⟩
    ·skip
     refine ZH rfl b'3 (Zao v_at_ g'1_0 (ZH rfl b'3 (Zao (.n k_) g'1_8 (ZH rfl b'3 ?_))))
     obtain ⟨c'3,hp⟩:=Zj hp
     refine zb rfl (zz (E:=Zl) (z:=k_) (hO'3.rd0 s_at_.rd) rfl rfl c'3) (ZH rfl b'3 (zb rfl (ZaE (off':=0) (off2:=0) (hO'3.rd0 s_at_.rd) (Zp c'3) rfl rfl) (ZH rfl b'3 (zb rfl (zS (w:=.n ((gi at_ k_.toNat).X)) (hO'3.rd0 s_at_.rd) rfl (Zp c'3) rfl) (ZH rfl b'3 (Zao v_at_ g'1_0 (ZH rfl b'3 ?_)))))))
     refine Zao (.n i) g'1_1 (ZH rfl b'3 ?_)
     obtain ⟨c'4,hp⟩:=Zj hp
     refine zb rfl (zz (E:=Zl) (z:=i) (hO'3.rd0 s_at_.rd) rfl rfl c'4) (ZH rfl b'3 (zb rfl (ZaE (off':=0) (off2:=0) (hO'3.rd0 s_at_.rd) (Zp c'4) rfl rfl) (ZH rfl b'3 (zb rfl (zS (w:=.n ((gi at_ i.toNat).X)) (hO'3.rd0 s_at_.rd) rfl (Zp c'4) rfl) (ZH rfl b'3 (zb rfl (ZcD (a:=((gi at_ k_.toNat).X)) (b:=((gi at_ i.toNat).X)) rfl rfl) (zb rfl (zg (t:=t) (v:=.b t1) rfl b'3 (Eq.trans (b:=V.b (decide (((gi at_ i.toNat).X) < ((gi at_ k_.toNat).X)))) rfl (congrArg V.b (Option.some.inj hp)))) ?_)))))))
     refine Zak ?_
     exact ⟨rfl,rfl,g'1_0,g'1_1,g'1_2,g'1_7,g'1_8⟩
    ·skip
     refine Z6 rfl b'3 (Z6 rfl b'3 (Z6 rfl b'3 (Z6 rfl b'3 (Z6 rfl b'3 (Z6 rfl b'3 (Z6 rfl b'3 (Z6 rfl b'3 ?_)))))))
     refine Z6 rfl b'3 (Z6 rfl b'3 (Z6 rfl b'3 (zb rfl (zc (t:=t) (v:=.b t1) rfl b'3 (Eq.trans (b:=V.b false) rfl (congrArg V.b (Option.some.inj hp)))) (Zak ?_))))
     exact ⟨rfl,rfl,g'1_0,g'1_1,g'1_2,g'1_7,g'1_8⟩
   rintro frg'2 _ ⟨rfl,g'2_42,g'2_0,g'2_1,g'2_2,g'2_7,g'2_8⟩
   refine Zao (.b t1) g'2_42 ?_
   obtain ⟨t2,hv'3,hp⟩:=Zt hp
   refine Zbr 16 (fun fr' k'=>(k'2.bump 45) = k'∧fr' 59 = .b t2∧fr' 0 = v_at_∧fr' 1 = .n i∧fr' 2 = .n d∧fr' 7 = .n best∧fr' 8 = .n k_) ?_ ?_
   ·clear hp; rcases Z2 hv'3 with ⟨b'4,hp⟩ | ⟨b'4,hp⟩
    ·skip
     refine ZH rfl b'4 (Zao (.n best) g'2_7 (ZH rfl b'4 (zb rfl (zG (a:=best) (b:=0) rfl rfl) (ZH rfl b'4 (Zao (.b (decide (best < 0))) rfl ?_)))))
     obtain ⟨t3,hv'4,hp⟩:=Zt hp
     refine Zbr 12 (fun fr' k'=>(k'2.bump 45) = k'∧fr' 58 = .b t3∧fr' 0 = v_at_∧fr' 1 = .n i∧fr' 2 = .n d∧fr' 43 = .b t1∧fr' 7 = .n best∧fr' 8 = .n k_) ?_ ?_
     ·clear hp; rcases Z2 hv'4 with ⟨b'5,hp⟩ | ⟨b'5,hp⟩
      ·skip
       refine Z6 rfl b'5 (Z6 rfl b'5 (Z6 rfl b'5 (Z6 rfl b'5 (Z6 rfl b'5 (Z6 rfl b'5 (Z6 rfl b'5 (Z6 rfl b'5 ?_)))))))
       refine Z6 rfl b'5 (Z6 rfl b'5 (Z6 rfl b'5 (ZH rfl b'4 (zb rfl (zg (t:=(decide (best < 0))) (v:=.b t3) rfl b'5 (Eq.trans (b:=V.b true) rfl (congrArg V.b (Option.some.inj hp)))) (Zak ?_)))))
       exact ⟨rfl,rfl,g'2_0,g'2_1,g'2_2,rfl,g'2_7,g'2_8⟩
      ·skip
       refine ZH rfl b'5 (Zao v_at_ g'2_0 (ZH rfl b'5 (Zao (.n k_) g'2_8 (ZH rfl b'5 ?_))))
       obtain ⟨c'5,hp⟩:=Zj hp
       refine zb rfl (zz (E:=Zl) (z:=k_) (hO'3.rd0 s_at_.rd) rfl rfl c'5) (ZH rfl b'5 (zb rfl (ZaE (off':=0) (off2:=0) (hO'3.rd0 s_at_.rd) (Zp c'5) rfl rfl) (ZH rfl b'5 (zb rfl (zS (w:=.n ((gi at_ k_.toNat).X)) (hO'3.rd0 s_at_.rd) rfl (Zp c'5) rfl) (ZH rfl b'5 (Zao v_at_ g'2_0 (ZH rfl b'5 ?_)))))))
       refine Zao (.n best) g'2_7 (ZH rfl b'5 ?_)
       obtain ⟨c'6,hp⟩:=Zj hp
       refine zb rfl (zz (E:=Zl) (z:=best) (hO'3.rd0 s_at_.rd) rfl rfl c'6) (ZH rfl b'5 (zb rfl (ZaE (off':=0) (off2:=0) (hO'3.rd0 s_at_.rd) (Zp c'6) rfl rfl) (ZH rfl b'5 (zb rfl (zS (w:=.n ((gi at_ best.toNat).X)) (hO'3.rd0 s_at_.rd) rfl (Zp c'6) rfl) (ZH rfl b'5 (zb rfl (zG (a:=((gi at_ k_.toNat).X)) (b:=((gi at_ best.toNat).X)) rfl rfl) (ZH rfl b'4 ?_)))))))
       refine zb rfl (zc (t:=(decide (best < 0))) (v:=.b t3) rfl b'5 (Eq.trans (b:=V.b (decide (((gi at_ k_.toNat).X) < ((gi at_ best.toNat).X)))) rfl (congrArg V.b (Option.some.inj hp)))) (Zak ?_)
       exact ⟨rfl,rfl,g'2_0,g'2_1,g'2_2,rfl,g'2_7,g'2_8⟩
     rintro frg'3 _ ⟨rfl,g'3_58,g'3_0,g'3_1,g'3_2,g'3_43,g'3_7,g'3_8⟩
     refine zb rfl (zg (t:=t1) (v:=.b t2) g'3_43 b'4 (Eq.trans (b:=V.b t3) g'3_58 (congrArg V.b (Option.some.inj hp)))) (Zak ?_)
     exact ⟨rfl,rfl,g'3_0,g'3_1,g'3_2,g'3_7,g'3_8⟩
    ·skip
     refine Z6 rfl b'4 (Z6 rfl b'4 (Z6 rfl b'4 (Zb6 rfl (Zb6 rfl (Zb6 rfl (Zb6 rfl (Zb6 rfl ?_)))))))
     refine Zb6 rfl (Zb6 rfl (Zb6 rfl (Zb6 rfl (Zb6 rfl (Zb6 rfl (Z6 rfl b'4 (zb rfl (zc (t:=t1) (v:=.b t2) rfl b'4 (Eq.trans (b:=V.b false) rfl (congrArg V.b (Option.some.inj hp)))) ?_)))))))
     refine Zak ?_
     exact ⟨rfl,rfl,g'2_0,g'2_1,g'2_2,g'2_7,g'2_8⟩
   rintro frg'4 _ ⟨rfl,g'4_59,g'4_0,g'4_1,g'4_2,g'4_7,g'4_8⟩
   refine Zak (Za ?_)
   obtain ⟨o'3,ho'2,hp⟩:=Zt hp
   refine W.mono (Q:=fun e fr k=>match (generalizing:=false) o'3 with
     | best2=>e = .normal∧fr 0 = v_at_∧fr 1 = .n i∧fr 2 = .n d∧fr 7 = .n best2∧fr 8 = .n k_∧Own B h k []) ?_ ?_
   ·clear hp; have hp:=ho'2; clear ho'2
    rcases Z2 hp with ⟨b'6,hp⟩ | ⟨b'6,hp⟩
    ·refine zO (t:=t2) g'4_59 b'6 ?_
     refine Zo (Zd (.n k_) g'4_8 (Zd (.n k_) rfl (Zb ?_)))
     cases hp
     exact ⟨rfl,g'4_0,g'4_1,g'4_2,rfl,g'4_8,(hO'3.pick [] rfl (by decide))⟩
    ·refine zN (t:=t2) g'4_59 b'6 ?_
     refine zU ?_
     cases hp
     exact ⟨rfl,g'4_0,g'4_1,g'4_2,g'4_7,g'4_8,(hO'3.pick [] rfl (by decide))⟩
   intro e'2 q'3 k'4 hJ'2
   obtain ⟨best2,rfl⟩:∃ x,x = o'3:=⟨_,rfl⟩
   obtain ⟨rfl,q'3_0,q'3_1,q'3_2,q'3_7,q'3_8,hO'4⟩:=hJ'2
   refine Za (Zk (ZfJ ?_))
   have hW:=hO'4.bump 45
   have hO'5:=hW
   refine Zao (.n d) q'3_2 (zb rfl (ZaW (a:=d) (b:=1) rfl rfl) (Zao (.b (decide (d = 1))) rfl ?_))
   obtain ⟨t4,hv'5,hp⟩:=Zt hp
   refine Zbr 12 (fun fr' k'=>(k'4.bump 45) = k'∧fr' 75 = .b t4∧fr' 0 = v_at_∧fr' 1 = .n i∧fr' 2 = .n d∧fr' 7 = .n best2∧fr' 8 = .n k_) ?_ ?_
   ·clear hp; rcases Z2 hv'5 with ⟨b'7,hp⟩ | ⟨b'7,hp⟩
    ·skip
     refine ZH rfl b'7 (Zao v_at_ q'3_0 (ZH rfl b'7 (Zao (.n k_) q'3_8 (ZH rfl b'7 ?_))))
     obtain ⟨c'7,hp⟩:=Zj hp
     refine zb rfl (zz (E:=Zl) (z:=k_) (hO'5.rd0 s_at_.rd) rfl rfl c'7) (ZH rfl b'7 (zb rfl (ZaE (off':=0) (off2:=0) (hO'5.rd0 s_at_.rd) (Zp c'7) rfl rfl) (ZH rfl b'7 (zb rfl (zS (w:=.n ((gi at_ k_.toNat).X)) (hO'5.rd0 s_at_.rd) rfl (Zp c'7) rfl) (ZH rfl b'7 (Zao v_at_ q'3_0 (ZH rfl b'7 ?_)))))))
     refine Zao (.n i) q'3_1 (ZH rfl b'7 ?_)
     obtain ⟨c'8,hp⟩:=Zj hp
     refine zb rfl (zz (E:=Zl) (z:=i) (hO'5.rd0 s_at_.rd) rfl rfl c'8) (ZH rfl b'7 (zb rfl (ZaE (off':=0) (off2:=0) (hO'5.rd0 s_at_.rd) (Zp c'8) rfl rfl) (ZH rfl b'7 (zb rfl (zS (w:=.n ((gi at_ i.toNat).X)) (hO'5.rd0 s_at_.rd) rfl (Zp c'8) rfl) (ZH rfl b'7 (zb rfl (ZaW (a:=((gi at_ k_.toNat).X)) (b:=((gi at_ i.toNat).X)) rfl rfl) (zb rfl (zg (t:=(decide (d = 1))) (v:=.b t4) rfl b'7 (Eq.trans (b:=V.b (decide ((gi at_ k_.toNat).X = (gi at_ i.toNat).X))) rfl (congrArg V.b (Option.some.inj hp)))) ?_)))))))
     refine Zak ?_
     exact ⟨rfl,rfl,q'3_0,q'3_1,q'3_2,q'3_7,q'3_8⟩
    ·skip
     refine Z6 rfl b'7 (Z6 rfl b'7 (Z6 rfl b'7 (Z6 rfl b'7 (Z6 rfl b'7 (Z6 rfl b'7 (Z6 rfl b'7 (Z6 rfl b'7 ?_)))))))
     refine Z6 rfl b'7 (Z6 rfl b'7 (Z6 rfl b'7 (zb rfl (zc (t:=(decide (d = 1))) (v:=.b t4) rfl b'7 (Eq.trans (b:=V.b false) rfl (congrArg V.b (Option.some.inj hp)))) (Zak ?_))))
     exact ⟨rfl,rfl,q'3_0,q'3_1,q'3_2,q'3_7,q'3_8⟩
   rintro frg'5 _ ⟨rfl,g'5_75,g'5_0,g'5_1,g'5_2,g'5_7,g'5_8⟩
   refine Zao (.b t4) g'5_75 ?_
   obtain ⟨t5,hv'6,hp⟩:=Zt hp
   refine Zbr 12 (fun fr' k'=>(k'4.bump 45) = k'∧fr' 88 = .b t5∧fr' 0 = v_at_∧fr' 1 = .n i∧fr' 2 = .n d∧fr' 7 = .n best2∧fr' 8 = .n k_) ?_ ?_
   ·clear hp; rcases Z2 hv'6 with ⟨b'8,hp⟩ | ⟨b'8,hp⟩
    ·skip
     refine ZH rfl b'8 (Zao v_at_ g'5_0 (ZH rfl b'8 (Zao (.n k_) g'5_8 (ZH rfl b'8 ?_))))
     obtain ⟨c'9,hp⟩:=Zj hp
     refine zb rfl (zz (E:=Zl) (z:=k_) (hO'5.rd0 s_at_.rd) rfl rfl c'9) (ZH rfl b'8 (zb rfl (ZaE (off':=0) (off2:=1) (hO'5.rd0 s_at_.rd) (Zp c'9) rfl rfl) (ZH rfl b'8 (zb rfl (zS (w:=.n ((gi at_ k_.toNat).Y)) (hO'5.rd0 s_at_.rd) rfl (Zp c'9) rfl) (ZH rfl b'8 (Zao v_at_ g'5_0 (ZH rfl b'8 ?_)))))))
     refine Zao (.n i) g'5_1 (ZH rfl b'8 ?_)
     obtain ⟨c'10,hp⟩:=Zj hp
     refine zb rfl (zz (E:=Zl) (z:=i) (hO'5.rd0 s_at_.rd) rfl rfl c'10) (ZH rfl b'8 (zb rfl (ZaE (off':=0) (off2:=1) (hO'5.rd0 s_at_.rd) (Zp c'10) rfl rfl) (ZH rfl b'8 (zb rfl (zS (w:=.n ((gi at_ i.toNat).Y)) (hO'5.rd0 s_at_.rd) rfl (Zp c'10) rfl) (ZH rfl b'8 (zb rfl (ZcD (a:=((gi at_ k_.toNat).Y)) (b:=((gi at_ i.toNat).Y)) rfl rfl) (zb rfl (zg (t:=t4) (v:=.b t5) rfl b'8 (Eq.trans (b:=V.b (decide (((gi at_ i.toNat).Y) < ((gi at_ k_.toNat).Y)))) rfl (congrArg V.b (Option.some.inj hp)))) ?_)))))))
     refine Zak ?_
     exact ⟨rfl,rfl,g'5_0,g'5_1,g'5_2,g'5_7,g'5_8⟩
    ·skip
     refine Z6 rfl b'8 (Z6 rfl b'8 (Z6 rfl b'8 (Z6 rfl b'8 (Z6 rfl b'8 (Z6 rfl b'8 (Z6 rfl b'8 (Z6 rfl b'8 ?_)))))))
     refine Z6 rfl b'8 (Z6 rfl b'8 (Z6 rfl b'8 (zb rfl (zc (t:=t4) (v:=.b t5) rfl b'8 (Eq.trans (b:=V.b false) rfl (congrArg V.b (Option.some.inj hp)))) (Zak ?_))))
     exact ⟨rfl,rfl,g'5_0,g'5_1,g'5_2,g'5_7,g'5_8⟩
   rintro frg'6 _ ⟨rfl,g'6_88,g'6_0,g'6_1,g'6_2,g'6_7,g'6_8⟩
   refine Zao (.b t5) g'6_88 ?_
   obtain ⟨t6,hv'7,hp⟩:=Zt hp
   refine Zbr 16 (fun fr' k'=>(k'4.bump 45) = k'∧fr' 105 = .b t6∧fr' 0 = v_at_∧fr' 1 = .n i∧fr' 2 = .n d∧fr' 7 = .n best2∧fr' 8 = .n k_) ?_ ?_
   ·clear hp; rcases Z2 hv'7 with ⟨b'9,hp⟩ | ⟨b'9,hp⟩
    ·skip
     refine ZH rfl b'9 (Zao (.n best2) g'6_7 (ZH rfl b'9 (zb rfl (zG (a:=best2) (b:=0) rfl rfl) (ZH rfl b'9 (Zao (.b (decide (best2 < 0))) rfl ?_)))))
     obtain ⟨t7,hv'8,hp⟩:=Zt hp
     refine Zbr 12 (fun fr' k'=>(k'4.bump 45) = k'∧fr' 104 = .b t7∧fr' 0 = v_at_∧fr' 1 = .n i∧fr' 2 = .n d∧fr' 7 = .n best2∧fr' 8 = .n k_∧fr' 89 = .b t5) ?_ ?_
     ·clear hp; rcases Z2 hv'8 with ⟨b'10,hp⟩ | ⟨b'10,hp⟩
      ·skip
       refine Z6 rfl b'10 (Z6 rfl b'10 (Z6 rfl b'10 (Z6 rfl b'10 (Z6 rfl b'10 (Z6 rfl b'10 (Z6 rfl b'10 (Z6 rfl b'10 ?_)))))))
       refine Z6 rfl b'10 (Z6 rfl b'10 (Z6 rfl b'10 (ZH rfl b'9 (zb rfl (zg (t:=(decide (best2 < 0))) (v:=.b t7) rfl b'10 (Eq.trans (b:=V.b true) rfl (congrArg V.b (Option.some.inj hp)))) (Zak ?_)))))
       exact ⟨rfl,rfl,g'6_0,g'6_1,g'6_2,g'6_7,g'6_8,rfl⟩
      ·skip
       refine ZH rfl b'10 (Zao v_at_ g'6_0 (ZH rfl b'10 (Zao (.n k_) g'6_8 (ZH rfl b'10 ?_))))
       obtain ⟨c'11,hp⟩:=Zj hp
       refine zb rfl (zz (E:=Zl) (z:=k_) (hO'5.rd0 s_at_.rd) rfl rfl c'11) (ZH rfl b'10 (zb rfl (ZaE (off':=0) (off2:=1) (hO'5.rd0 s_at_.rd) (Zp c'11) rfl rfl) (ZH rfl b'10 (zb rfl (zS (w:=.n ((gi at_ k_.toNat).Y)) (hO'5.rd0 s_at_.rd) rfl (Zp c'11) rfl) (ZH rfl b'10 (Zao v_at_ g'6_0 (ZH rfl b'10 ?_)))))))
       refine Zao (.n best2) g'6_7 (ZH rfl b'10 ?_)
       obtain ⟨c'12,hp⟩:=Zj hp
       refine zb rfl (zz (E:=Zl) (z:=best2) (hO'5.rd0 s_at_.rd) rfl rfl c'12) (ZH rfl b'10 (zb rfl (ZaE (off':=0) (off2:=1) (hO'5.rd0 s_at_.rd) (Zp c'12) rfl rfl) (ZH rfl b'10 (zb rfl (zS (w:=.n ((gi at_ best2.toNat).Y)) (hO'5.rd0 s_at_.rd) rfl (Zp c'12) rfl) (ZH rfl b'10 (zb rfl (zG (a:=((gi at_ k_.toNat).Y)) (b:=((gi at_ best2.toNat).Y)) rfl rfl) (ZH rfl b'9 ?_)))))))
       refine zb rfl (zc (t:=(decide (best2 < 0))) (v:=.b t7) rfl b'10 (Eq.trans (b:=V.b (decide (((gi at_ k_.toNat).Y) < ((gi at_ best2.toNat).Y)))) rfl (congrArg V.b (Option.some.inj hp)))) (Zak ?_)
       exact ⟨rfl,rfl,g'6_0,g'6_1,g'6_2,g'6_7,g'6_8,rfl⟩
     rintro frg'7 _ ⟨rfl,g'7_104,g'7_0,g'7_1,g'7_2,g'7_7,g'7_8,g'7_89⟩
     refine zb rfl (zg (t:=t5) (v:=.b t6) g'7_89 b'9 (Eq.trans (b:=V.b t7) g'7_104 (congrArg V.b (Option.some.inj hp)))) (Zak ?_)
     exact ⟨rfl,rfl,g'7_0,g'7_1,g'7_2,g'7_7,g'7_8⟩
    ·skip
     refine Z6 rfl b'9 (Z6 rfl b'9 (Z6 rfl b'9 (Zb6 rfl (Zb6 rfl (Zb6 rfl (Zb6 rfl (Zb6 rfl ?_)))))))
     refine Zb6 rfl (Zb6 rfl (Zb6 rfl (Zb6 rfl (Zb6 rfl (Zb6 rfl (Z6 rfl b'9 (zb rfl (zc (t:=t5) (v:=.b t6) rfl b'9 (Eq.trans (b:=V.b false) rfl (congrArg V.b (Option.some.inj hp)))) ?_)))))))
     refine Zak ?_
     exact ⟨rfl,rfl,g'6_0,g'6_1,g'6_2,g'6_7,g'6_8⟩
   rintro frg'8 _ ⟨rfl,g'8_105,g'8_0,g'8_1,g'8_2,g'8_7,g'8_8⟩
   refine Zak (Za ?_)
   rcases Z2 hp with ⟨b'11,hp⟩ | ⟨b'11,hp⟩
   ·refine zO (t:=t6) g'8_105 b'11 ?_
    refine Zo (Zd (.n k_) g'8_8 (Zd (.n k_) rfl (Zb (Zac (Za (Zo (Zd (.n k_) g'8_8 ?_)))))))
    obtain ⟨c'13,hp⟩:=Zj hp
    refine Ze (zp (a:=k_) (b:=1) rfl rfl c'13) (Zd (.n (k_ + 1)) rfl (Zb ?_))
    cases hp
    exact (Or.inl ⟨(k_,k_ + 1),rfl,rfl,g'8_0,g'8_1,g'8_2,rfl,rfl,(hO'5.pick [] rfl (by decide))⟩)
   ·refine zN (t:=t6) g'8_105 b'11 ?_
    refine zU (Zac (Za (Zo (Zd (.n k_) g'8_8 ?_))))
    obtain ⟨c'14,hp⟩:=Zj hp
    refine Ze (zp (a:=k_) (b:=1) rfl rfl c'14) (Zd (.n (k_ + 1)) rfl (Zb ?_))
    cases hp
    exact (Or.inl ⟨(best2,k_ + 1),rfl,rfl,g'8_0,g'8_1,g'8_2,g'8_7,rfl,(hO'5.pick [] rfl (by decide))⟩)
  ·refine zN (t:=(decide (k_ < (at_.length:Int)))) rfl b'1 ?_
   refine ZaT (zR ?_)
   cases hp
   refine (Or.inr ⟨best,rfl,(fun h=>nomatch h),(fun he=>?_)⟩)
   subst he; exact ⟨rfl,q'2_7,(hO'2.pick [] rfl (by decide))⟩
 intro e'1 q'1 k'1 hJ'1
 obtain ⟨best1,rfl⟩:∃ x,x = o'1:=⟨_,rfl⟩
 obtain ⟨rfl,q'1_7,hO'1⟩:=hJ'1
 refine Zaq (Za (Zk (Zo (Zd (.n best1) q'1_7 (Zd (.n best1) rfl (Zb (Za ?_)))))))
 refine Za2 (zW (Zax (n:=6) (v:=.n best1) rfl zx) ?_)
 cases hp
 exact ⟨rfl,(hO'1.pick [] rfl (by decide))⟩

theorem ZP.ok {h:Hp} {at_:List Z5} {l:List Zc} {i:Int} {w:Int} {v_at_:V} {v_l:V} (s_at_:Sl Zl h v_at_ at_) (s_l:Sl Zf h v_l l) {r:Bool} (hp:ZP at_ l i w = some r) :
  ∃ u k',Is G 64 [v_at_,v_l,.n i,.n w] h u k'∧V.b r = u∧Own (fun r=>r < h.n) h k' []:=by
 refine WC.is (ZaM ZbH ?_)
 unfold ZP at hp
 let B:Nat→Prop:=(fun r=>r < h.n)
 have hO:Own B h h []:=Own.start0 h
 refine Zk (Zo (Zd (.b false) rfl (Zb (Za (Zk (Zk (Zo ?_)))))))
 refine Zd (.n 0) rfl (Zb (Za (Zaa ?_)))
 obtain ⟨o'1,ho'1,hp⟩:=Zt hp
 refine W.mono (Q:=fun e fr k=>match (generalizing:=false) o'1 with
   | .inl _=>e = (.exit 0)∧Own B h k []
   | .inr _=>e = .ret∧fr 8 = .b true∧Own B h k []) ?_ ?_
 ·clear hp
  refine z9 (fun st fr k=>match st with | a=>fr 0 = v_at_∧fr 1 = v_l∧fr 2 = .n i∧fr 3 = .n w∧fr 9 = .n a∧Own B h k []) ho'1 (s:=0) ⟨rfl,rfl,rfl,rfl,rfl,(hO.pick [] rfl (by decide))⟩ ?_
  rintro a q'2 k'2 ⟨q'2_0,q'2_1,q'2_2,q'2_3,q'2_9,hO'2⟩ o'2 hp
  dsimp only [ZP.s0] at hp
  refine Zk (Zk (Zo (Zd (.n a) q'2_9 (Zd v_l q'2_1 (Ze (Zah (hO'2.rd0 s_l.rd) rfl) (Ze (zG (a:=a) (b:=(l.length:Int)) rfl rfl) (Zb ?_)))))))
  refine Za ?_
  rcases Z2 hp with ⟨b'1,hp⟩ | ⟨b'1,hp⟩
  ·refine zO (t:=(decide (a < (l.length:Int)))) rfl b'1 ?_
   refine zU (Za (Zk (Zaa (Zk (Zo (Zd (.n 0) rfl (Zb ?_)))))))
   refine Za (Zaa ?_)
   obtain ⟨o'3,ho'2,hp⟩:=Zt hp
   refine W.mono (Q:=fun e fr k=>match (generalizing:=false) o'3 with
     | .inl _=>e = (.exit 2)∧fr 0 = v_at_∧fr 1 = v_l∧fr 2 = .n i∧fr 3 = .n w∧fr 9 = .n a∧Own B h k []
     | .inr _=>e = .ret∧fr 8 = .b true∧Own B h k []) ?_ ?_
   ·clear hp
    refine z9 (fun st fr k=>match st with | d=>fr 0 = v_at_∧fr 1 = v_l∧fr 2 = .n i∧fr 3 = .n w∧fr 9 = .n a∧fr 10 = .n d∧Own B h k []) ho'2 (s:=0) ⟨q'2_0,q'2_1,q'2_2,q'2_3,q'2_9,rfl,(hO'2.pick [] rfl (by decide))⟩ ?_
    rintro d q'4 k'4 ⟨q'4_0,q'4_1,q'4_2,q'4_3,q'4_9,q'4_10,hO'4⟩ o'4 hp
    dsimp only [ZP.s1] at hp
    refine Zk (Zk (Zo (Zd (.n d) q'4_10 (Ze (zG (a:=d) (b:=2) rfl rfl) (Zb (Za ?_))))))
    rcases Z2 hp with ⟨b'2,hp⟩ | ⟨b'2,hp⟩
    ·refine zO (t:=(decide (d < 2))) rfl b'2 ?_
     refine zU (Za (Zk (Zaa (Zk (Zo (Zd v_l q'4_1 (Zd (.n a) q'4_9 ?_)))))))
     refine Zd (.n d) q'4_10 ?_
     obtain ⟨c'1,hp⟩:=Zj hp
     refine Ze (zz (E:=Zf) (z:=a) (hO'4.rd0 s_l.rd) rfl rfl c'1) (Ze (ZaE (off':=0) (off2:=0) (hO'4.rd0 s_l.rd) (Zp c'1) rfl rfl) ?_)
     obtain ⟨c'2,hp⟩:=Zj hp
     refine Ze (ZaU (off:=0) (off2:=(0 + d.toNat * 1)) (z:=d) (hO'4.rd0 s_l.rd) (Zp c'1) rfl rfl c'2 rfl) (Ze (zS (w:=.n (((gi l a.toNat).Next).get d)) (hO'4.rd0 s_l.rd) rfl (Zp c'1) (Zal c'2)) (Zd (.n (((gi l a.toNat).Next).get d)) rfl (Zb (Za (Zk (Zk (Zo ?_)))))))
     refine Zd (.n (((gi l a.toNat).Next).get d)) rfl (Ze (zG (a:=(((gi l a.toNat).Next).get d)) (b:=0) rfl rfl) (Zb (Za ?_)))
     rcases Z2 hp with ⟨b'3,hp⟩ | ⟨b'3,hp⟩
     ·refine zO (t:=(decide ((((gi l a.toNat).Next).get d) < 0))) rfl b'3 ?_
      refine ZaT (zR (Zaq (Za (Zo (Zd (.n d) q'4_10 ?_)))))
      obtain ⟨c'3,hp⟩:=Zj hp
      refine Ze (zp (a:=d) (b:=1) rfl rfl c'3) (Zd (.n (d + 1)) rfl (Zb ?_))
      cases hp
      exact (Or.inl ⟨d + 1,rfl,rfl,q'4_0,q'4_1,q'4_2,q'4_3,q'4_9,rfl,(hO'4.pick [] rfl (by decide))⟩)
     ·refine zN (t:=(decide ((((gi l a.toNat).Next).get d) < 0))) rfl b'3 ?_
      refine zU (Za (Zk (Zo (Zd v_at_ q'4_0 (Zd (.n a) q'4_9 ?_)))))
      obtain ⟨c'4,hp⟩:=Zj hp
      refine Ze (zz (E:=Zl) (z:=a) (hO'4.rd0 s_at_.rd) rfl rfl c'4) (Ze (ZdX (E:=Zl) (hO'4.rd0 s_at_.rd) rfl (Zp c'4)) (zy (hO'4.alloc (cs:=Zl.c (⟨0,0⟩:Z5)) hO'4.fr) ?_))
      rintro _ k'5 ⟨r'1,rfl,n'1,f'1,hW⟩
      have hO'5:=hW
      refine zy (hO'5.stb (ws:=Zl.c (gi at_ a.toNat)) (cs':=Zl.c (gi at_ a.toNat)) (v:=.ag (Zl.c (gi at_ a.toNat))) 0 rfl rfl rfl rfl ⟨rfl,Nat.le_of_ble_eq_true rfl,rfl⟩ rfl) ?_
      rintro _ k'6 ⟨rfl,f'2,m'1,hW⟩
      have hO'6:=hW
      refine Zb (Za (Zk (Zo (Zd v_at_ q'4_0 (Zd (.n (((gi l a.toNat).Next).get d)) rfl ?_)))))
      obtain ⟨c'5,hp⟩:=Zj hp
      refine Ze (zz (E:=Zl) (z:=(((gi l a.toNat).Next).get d)) (hO'6.rd0 s_at_.rd) rfl rfl c'5) (Ze (ZdX (E:=Zl) (hO'6.rd0 s_at_.rd) rfl (Zp c'5)) (zy (hO'6.alloc (cs:=Zl.c (⟨0,0⟩:Z5)) hO'6.fr) ?_))
      rintro _ k'7 ⟨r'2,rfl,n'2,f'3,hW⟩
      have hO'7:=hW
      refine zy (hO'7.stb (ws:=Zl.c (gi at_ (((gi l a.toNat).Next).get d:Int).toNat)) (cs':=Zl.c (gi at_ (((gi l a.toNat).Next).get d:Int).toNat)) (v:=.ag (Zl.c (gi at_ (((gi l a.toNat).Next).get d:Int).toNat))) 1 rfl rfl rfl rfl ⟨rfl,Nat.le_of_ble_eq_true rfl,rfl⟩ rfl) ?_
      rintro _ k'8 ⟨rfl,f'4,m'2,hW⟩
      have hO'8:=hW
      refine Zb (Za (Zk (Zk (ZfJ ?_))))
      have hW:=hO'8.bump 58
      have hO'9:=hW
      refine zb rfl (z6 (r:=r'1) (o:=0) (o':=1) rfl rfl) (zb rfl (zi (cs:=(Zl.c (gi at_ a.toNat))) (v:=.n ((gi at_ a.toNat).Y)) (hO'9.box 0 rfl) rfl rfl) (zb rfl (z6 (r:=r'2) (o:=0) (o':=1) rfl rfl) (zb rfl (zi (cs:=(Zl.c (gi at_ (((gi l a.toNat).Next).get d:Int).toNat))) (v:=.n ((gi at_ (((gi l a.toNat).Next).get d:Int).toNat).Y)) (hO'9.box 1 rfl) rfl rfl) (zb rfl (ZaW (a:=((gi at_ a.toNat).Y)) (b:=((gi at_ (((gi l a.toNat).Next).get d:Int).toNat).Y)) rfl rfl) (Zao (.b (decide ((gi at_ a.toNat).Y = (gi at_ (((gi l a.toNat).Next).get d:Int).toNat).Y))) rfl ?_)))))
      obtain ⟨t,hv'1,hp⟩:=Zt hp
      refine Zbr 12 (fun fr' k'=>(k'8.bump 58) = k'∧fr' 58 = .b t∧fr' 0 = v_at_∧fr' 1 = v_l∧fr' 10 = .n d∧fr' 12 = .p r'1 0∧fr' 13 = .p r'2 0∧fr' 2 = .n i∧fr' 3 = .n w∧fr' 9 = .n a) ?_ ?_
      ·clear hp; rcases Z2 hv'1 with ⟨b'4,hp⟩ | ⟨b'4,hp⟩
       ·skip
        refine ZH rfl b'4 (Zao v_at_ q'4_0 (ZH rfl b'4 (Zao (.n i) q'4_2 (ZH rfl b'4 ?_))))
        obtain ⟨c'6,hp⟩:=Zj hp
        refine zb rfl (zz (E:=Zl) (z:=i) (hO'9.rd0 s_at_.rd) rfl rfl c'6) (ZH rfl b'4 (zb rfl (ZaE (off':=0) (off2:=0) (hO'9.rd0 s_at_.rd) (Zp c'6) rfl rfl) (ZH rfl b'4 (zb rfl (zS (w:=.n ((gi at_ i.toNat).X)) (hO'9.rd0 s_at_.rd) rfl (Zp c'6) rfl) (ZH rfl b'4 (Zao v_at_ q'4_0 (ZH rfl b'4 ?_)))))))
        refine Zao (.n w) q'4_3 (ZH rfl b'4 ?_)
        obtain ⟨c'7,hp⟩:=Zj hp
        refine zb rfl (zz (E:=Zl) (z:=w) (hO'9.rd0 s_at_.rd) rfl rfl c'7) (ZH rfl b'4 (zb rfl (ZaE (off':=0) (off2:=0) (hO'9.rd0 s_at_.rd) (Zp c'7) rfl rfl) (ZH rfl b'4 (zb rfl (zS (w:=.n ((gi at_ w.toNat).X)) (hO'9.rd0 s_at_.rd) rfl (Zp c'7) rfl) (ZH rfl b'4 (zb rfl (ZaW (a:=((gi at_ i.toNat).X)) (b:=((gi at_ w.toNat).X)) rfl rfl) (zb rfl (zg (t:=(decide ((gi at_ a.toNat).Y = (gi at_ (((gi l a.toNat).Next).get d:Int).toNat).Y))) (v:=.b t) rfl b'4 (Eq.trans (b:=V.b (decide ((gi at_ i.toNat).X = (gi at_ w.toNat).X))) rfl (congrArg V.b (Option.some.inj hp)))) ?_)))))))
        refine Zak ?_
        exact ⟨rfl,rfl,q'4_0,q'4_1,q'4_10,rfl,rfl,q'4_2,q'4_3,q'4_9⟩
       ·skip
        refine Z6 rfl b'4 (Z6 rfl b'4 (Z6 rfl b'4 (Z6 rfl b'4 (Z6 rfl b'4 (Z6 rfl b'4 (Z6 rfl b'4 (Z6 rfl b'4 ?_)))))))
        refine Z6 rfl b'4 (Z6 rfl b'4 (Z6 rfl b'4 (zb rfl (zc (t:=(decide ((gi at_ a.toNat).Y = (gi at_ (((gi l a.toNat).Next).get d:Int).toNat).Y))) (v:=.b t) rfl b'4 (Eq.trans (b:=V.b false) rfl (congrArg V.b (Option.some.inj hp)))) (Zak ?_))))
        exact ⟨rfl,rfl,q'4_0,q'4_1,q'4_10,rfl,rfl,q'4_2,q'4_3,q'4_9⟩
      rintro frg'1 _ ⟨rfl,g'1_58,g'1_0,g'1_1,g'1_10,g'1_12,g'1_13,g'1_2,g'1_3,g'1_9⟩
      refine Zao (.b t) g'1_58 ?_
      obtain ⟨t1,hv'2,hp⟩:=Zt hp
      refine Zbr 9 (fun fr' k'=>(k'8.bump 58) = k'∧fr' 68 = .b t1∧fr' 0 = v_at_∧fr' 1 = v_l∧fr' 10 = .n d∧fr' 12 = .p r'1 0∧fr' 13 = .p r'2 0∧fr' 2 = .n i∧fr' 3 = .n w∧fr' 9 = .n a) ?_ ?_
      ·clear hp; rcases Z2 hv'2 with ⟨b'5,hp⟩ | ⟨b'5,hp⟩
       ·skip
        refine ZH rfl b'5 (zb rfl (z6 (r:=r'1) (o:=0) (o':=0) g'1_12 rfl) (ZH rfl b'5 (zb rfl (zi (cs:=(Zl.c (gi at_ a.toNat))) (v:=.n ((gi at_ a.toNat).X)) (hO'9.box 0 rfl) rfl rfl) (ZH rfl b'5 (Zao v_at_ g'1_0 (ZH rfl b'5 (Zao (.n i) g'1_2 ?_)))))))
        refine ZH rfl b'5 ?_
        obtain ⟨c'8,hp⟩:=Zj hp
        refine zb rfl (zz (E:=Zl) (z:=i) (hO'9.rd0 s_at_.rd) rfl rfl c'8) (ZH rfl b'5 (zb rfl (ZaE (off':=0) (off2:=0) (hO'9.rd0 s_at_.rd) (Zp c'8) rfl rfl) (ZH rfl b'5 (zb rfl (zS (w:=.n ((gi at_ i.toNat).X)) (hO'9.rd0 s_at_.rd) rfl (Zp c'8) rfl) (ZH rfl b'5 (zb rfl (zG (a:=((gi at_ a.toNat).X)) (b:=((gi at_ i.toNat).X)) rfl rfl) (zb rfl (zg (t:=t) (v:=.b t1) rfl b'5 (Eq.trans (b:=V.b (decide (((gi at_ a.toNat).X) < ((gi at_ i.toNat).X)))) rfl (congrArg V.b (Option.some.inj hp)))) ?_)))))))
        refine Zak ?_
        exact ⟨rfl,rfl,g'1_0,g'1_1,g'1_10,g'1_12,g'1_13,g'1_2,g'1_3,g'1_9⟩
       ·skip
        refine Z6 rfl b'5 (Z6 rfl b'5 (Z6 rfl b'5 (Z6 rfl b'5 (Z6 rfl b'5 (Z6 rfl b'5 (Z6 rfl b'5 (Z6 rfl b'5 ?_)))))))
        refine zb rfl (zc (t:=t) (v:=.b t1) rfl b'5 (Eq.trans (b:=V.b false) rfl (congrArg V.b (Option.some.inj hp)))) (Zak ?_)
        exact ⟨rfl,rfl,g'1_0,g'1_1,g'1_10,g'1_12,g'1_13,g'1_2,g'1_3,g'1_9⟩
      rintro frg'2 _ ⟨rfl,g'2_68,g'2_0,g'2_1,g'2_10,g'2_12,g'2_13,g'2_2,g'2_3,g'2_9⟩
      refine Zao (.b t1) g'2_68 ?_
      obtain ⟨t2,hv'3,hp⟩:=Zt hp
      refine Zbr 9 (fun fr' k'=>(k'8.bump 58) = k'∧fr' 78 = .b t2∧fr' 0 = v_at_∧fr' 1 = v_l∧fr' 10 = .n d∧fr' 12 = .p r'1 0∧fr' 13 = .p r'2 0∧fr' 2 = .n i∧fr' 3 = .n w∧fr' 9 = .n a) ?_ ?_
      ·clear hp; rcases Z2 hv'3 with ⟨b'6,hp⟩ | ⟨b'6,hp⟩
       ·skip
        refine ZH rfl b'6 (Zao v_at_ g'2_0 (ZH rfl b'6 (Zao (.n i) g'2_2 (ZH rfl b'6 ?_))))
        obtain ⟨c'9,hp⟩:=Zj hp
        refine zb rfl (zz (E:=Zl) (z:=i) (hO'9.rd0 s_at_.rd) rfl rfl c'9) (ZH rfl b'6 (zb rfl (ZaE (off':=0) (off2:=0) (hO'9.rd0 s_at_.rd) (Zp c'9) rfl rfl) (ZH rfl b'6 (zb rfl (zS (w:=.n ((gi at_ i.toNat).X)) (hO'9.rd0 s_at_.rd) rfl (Zp c'9) rfl) (ZH rfl b'6 (zb rfl (z6 (r:=r'2) (o:=0) (o':=0) g'2_13 rfl) (ZH rfl b'6 ?_)))))))
        refine zb rfl (zi (cs:=(Zl.c (gi at_ (((gi l a.toNat).Next).get d:Int).toNat))) (v:=.n ((gi at_ (((gi l a.toNat).Next).get d:Int).toNat).X)) (hO'9.box 1 rfl) rfl rfl) (ZH rfl b'6 (zb rfl (zG (a:=((gi at_ i.toNat).X)) (b:=((gi at_ (((gi l a.toNat).Next).get d:Int).toNat).X)) rfl rfl) (zb rfl (zg (t:=t1) (v:=.b t2) rfl b'6 (Eq.trans (b:=V.b (decide (((gi at_ i.toNat).X) < ((gi at_ (((gi l a.toNat).Next).get d:Int).toNat).X)))) rfl (congrArg V.b (Option.some.inj hp)))) (Zak ?_))))
        exact ⟨rfl,rfl,g'2_0,g'2_1,g'2_10,g'2_12,g'2_13,g'2_2,g'2_3,g'2_9⟩
       ·skip
        refine Z6 rfl b'6 (Z6 rfl b'6 (Z6 rfl b'6 (Z6 rfl b'6 (Z6 rfl b'6 (Z6 rfl b'6 (Z6 rfl b'6 (Z6 rfl b'6 ?_)))))))
        refine zb rfl (zc (t:=t1) (v:=.b t2) rfl b'6 (Eq.trans (b:=V.b false) rfl (congrArg V.b (Option.some.inj hp)))) (Zak ?_)
        exact ⟨rfl,rfl,g'2_0,g'2_1,g'2_10,g'2_12,g'2_13,g'2_2,g'2_3,g'2_9⟩
      rintro frg'3 _ ⟨rfl,g'3_78,g'3_0,g'3_1,g'3_10,g'3_12,g'3_13,g'3_2,g'3_3,g'3_9⟩
      refine Zao (.b t2) g'3_78 ?_
      obtain ⟨t3,hv'4,hp⟩:=Zt hp
      refine Zbr 9 (fun fr' k'=>(k'8.bump 58) = k'∧fr' 88 = .b t3∧fr' 0 = v_at_∧fr' 1 = v_l∧fr' 10 = .n d∧fr' 12 = .p r'1 0∧fr' 13 = .p r'2 0∧fr' 2 = .n i∧fr' 3 = .n w∧fr' 9 = .n a) ?_ ?_
      ·clear hp; rcases Z2 hv'4 with ⟨b'7,hp⟩ | ⟨b'7,hp⟩
       ·skip
        refine ZH rfl b'7 (Zao v_at_ g'3_0 (ZH rfl b'7 (Zao (.n i) g'3_2 (ZH rfl b'7 ?_))))
        obtain ⟨c'10,hp⟩:=Zj hp
        refine zb rfl (zz (E:=Zl) (z:=i) (hO'9.rd0 s_at_.rd) rfl rfl c'10) (ZH rfl b'7 (zb rfl (ZaE (off':=0) (off2:=1) (hO'9.rd0 s_at_.rd) (Zp c'10) rfl rfl) (ZH rfl b'7 (zb rfl (zS (w:=.n ((gi at_ i.toNat).Y)) (hO'9.rd0 s_at_.rd) rfl (Zp c'10) rfl) (ZH rfl b'7 (zb rfl (z6 (r:=r'1) (o:=0) (o':=1) g'3_12 rfl) (ZH rfl b'7 ?_)))))))
        refine zb rfl (zi (cs:=(Zl.c (gi at_ a.toNat))) (v:=.n ((gi at_ a.toNat).Y)) (hO'9.box 0 rfl) rfl rfl) (ZH rfl b'7 (zb rfl (zG (a:=((gi at_ i.toNat).Y)) (b:=((gi at_ a.toNat).Y)) rfl rfl) (zb rfl (zg (t:=t2) (v:=.b t3) rfl b'7 (Eq.trans (b:=V.b (decide (((gi at_ i.toNat).Y) < ((gi at_ a.toNat).Y)))) rfl (congrArg V.b (Option.some.inj hp)))) (Zak ?_))))
        exact ⟨rfl,rfl,g'3_0,g'3_1,g'3_10,g'3_12,g'3_13,g'3_2,g'3_3,g'3_9⟩
       ·skip
        refine Z6 rfl b'7 (Z6 rfl b'7 (Z6 rfl b'7 (Z6 rfl b'7 (Z6 rfl b'7 (Z6 rfl b'7 (Z6 rfl b'7 (Z6 rfl b'7 ?_)))))))
        refine zb rfl (zc (t:=t2) (v:=.b t3) rfl b'7 (Eq.trans (b:=V.b false) rfl (congrArg V.b (Option.some.inj hp)))) (Zak ?_)
        exact ⟨rfl,rfl,g'3_0,g'3_1,g'3_10,g'3_12,g'3_13,g'3_2,g'3_3,g'3_9⟩
      rintro frg'4 _ ⟨rfl,g'4_88,g'4_0,g'4_1,g'4_10,g'4_12,g'4_13,g'4_2,g'4_3,g'4_9⟩
      refine Zao (.b t3) g'4_88 ?_
      obtain ⟨t4,hv'5,hp⟩:=Zt hp
      refine Zbr 9 (fun fr' k'=>(k'8.bump 58) = k'∧fr' 98 = .b t4∧fr' 0 = v_at_∧fr' 1 = v_l∧fr' 10 = .n d∧fr' 12 = .p r'1 0∧fr' 13 = .p r'2 0∧fr' 2 = .n i∧fr' 3 = .n w∧fr' 9 = .n a) ?_ ?_
      ·clear hp; rcases Z2 hv'5 with ⟨b'8,hp⟩ | ⟨b'8,hp⟩
       ·skip
        refine ZH rfl b'8 (zb rfl (z6 (r:=r'1) (o:=0) (o':=1) g'4_12 rfl) (ZH rfl b'8 (zb rfl (zi (cs:=(Zl.c (gi at_ a.toNat))) (v:=.n ((gi at_ a.toNat).Y)) (hO'9.box 0 rfl) rfl rfl) (ZH rfl b'8 (Zao v_at_ g'4_0 (ZH rfl b'8 (Zao (.n w) g'4_3 ?_)))))))
        refine ZH rfl b'8 ?_
        obtain ⟨c'11,hp⟩:=Zj hp
        refine zb rfl (zz (E:=Zl) (z:=w) (hO'9.rd0 s_at_.rd) rfl rfl c'11) (ZH rfl b'8 (zb rfl (ZaE (off':=0) (off2:=1) (hO'9.rd0 s_at_.rd) (Zp c'11) rfl rfl) (ZH rfl b'8 (zb rfl (zS (w:=.n ((gi at_ w.toNat).Y)) (hO'9.rd0 s_at_.rd) rfl (Zp c'11) rfl) (ZH rfl b'8 (zb rfl (zG (a:=((gi at_ a.toNat).Y)) (b:=((gi at_ w.toNat).Y)) rfl rfl) (zb rfl (zg (t:=t3) (v:=.b t4) rfl b'8 (Eq.trans (b:=V.b (decide (((gi at_ a.toNat).Y) < ((gi at_ w.toNat).Y)))) rfl (congrArg V.b (Option.some.inj hp)))) ?_)))))))
        refine Zak ?_
        exact ⟨rfl,rfl,g'4_0,g'4_1,g'4_10,g'4_12,g'4_13,g'4_2,g'4_3,g'4_9⟩
       ·skip
        refine Z6 rfl b'8 (Z6 rfl b'8 (Z6 rfl b'8 (Z6 rfl b'8 (Z6 rfl b'8 (Z6 rfl b'8 (Z6 rfl b'8 (Z6 rfl b'8 ?_)))))))
        refine zb rfl (zc (t:=t3) (v:=.b t4) rfl b'8 (Eq.trans (b:=V.b false) rfl (congrArg V.b (Option.some.inj hp)))) (Zak ?_)
        exact ⟨rfl,rfl,g'4_0,g'4_1,g'4_10,g'4_12,g'4_13,g'4_2,g'4_3,g'4_9⟩
      rintro frg'5 _ ⟨rfl,g'5_98,g'5_0,g'5_1,g'5_10,g'5_12,g'5_13,g'5_2,g'5_3,g'5_9⟩
      refine Zak (Za ?_)
      rcases Z2 hp with ⟨b'9,hp⟩ | ⟨b'9,hp⟩
      ·refine zO (t:=t4) g'5_98 b'9 ?_
       refine Zk (Zo (Zd (.b true) rfl (Zb (Za (Za2 (Zaf (Zbh ?_)))))))
       refine Zaf ?_
       cases hp
       refine (Or.inr ⟨.inr (),rfl,(fun h=>nomatch h),(fun he=>?_)⟩)
       subst he; exact ⟨rfl,rfl,(hO'9.pick [] rfl (by decide))⟩
      ·refine zN (t:=t4) g'5_98 b'9 ?_
       refine zU (Za (Zk (ZfJ ?_)))
       have hW:=hO'9.bump 58
       have hO'10:=hW
       refine zb rfl (z6 (r:=r'1) (o:=0) (o':=0) g'5_12 rfl) (zb rfl (zi (cs:=(Zl.c (gi at_ a.toNat))) (v:=.n ((gi at_ a.toNat).X)) (hO'10.box 0 rfl) rfl rfl) (zb rfl (z6 (r:=r'2) (o:=0) (o':=0) g'5_13 rfl) (zb rfl (zi (cs:=(Zl.c (gi at_ (((gi l a.toNat).Next).get d:Int).toNat))) (v:=.n ((gi at_ (((gi l a.toNat).Next).get d:Int).toNat).X)) (hO'10.box 1 rfl) rfl rfl) (zb rfl (ZaW (a:=((gi at_ a.toNat).X)) (b:=((gi at_ (((gi l a.toNat).Next).get d:Int).toNat).X)) rfl rfl) (Zao (.b (decide ((gi at_ a.toNat).X = (gi at_ (((gi l a.toNat).Next).get d:Int).toNat).X))) rfl ?_)))))
       obtain ⟨t5,hv'6,hp⟩:=Zt hp
       refine Zbr 12 (fun fr' k'=>((k'8.bump 58).bump 58) = k'∧fr' 116 = .b t5∧fr' 0 = v_at_∧fr' 1 = v_l∧fr' 10 = .n d∧fr' 12 = .p r'1 0∧fr' 13 = .p r'2 0∧fr' 2 = .n i∧fr' 3 = .n w∧fr' 9 = .n a) ?_ ?_
       ·clear hp; rcases Z2 hv'6 with ⟨b'10,hp⟩ | ⟨b'10,hp⟩
        ·skip
         refine ZH rfl b'10 (Zao v_at_ g'5_0 (ZH rfl b'10 (Zao (.n i) g'5_2 (ZH rfl b'10 ?_))))
         obtain ⟨c'12,hp⟩:=Zj hp
         refine zb rfl (zz (E:=Zl) (z:=i) (hO'10.rd0 s_at_.rd:Sl Zl ((k'8.bump 58).bump 58) v_at_ at_) rfl rfl c'12) (ZH rfl b'10 (zb rfl (ZaE (off':=0) (off2:=1) (hO'10.rd0 s_at_.rd:Sl Zl ((k'8.bump 58).bump 58) v_at_ at_) (Zp c'12) rfl rfl) (ZH rfl b'10 (zb rfl (zS (w:=.n ((gi at_ i.toNat).Y)) (hO'10.rd0 s_at_.rd:Sl Zl ((k'8.bump 58).bump 58) v_at_ at_) rfl (Zp c'12) rfl) (ZH rfl b'10 (Zao v_at_ g'5_0 (ZH rfl b'10 ?_)))))))
         refine Zao (.n w) g'5_3 (ZH rfl b'10 ?_)
         obtain ⟨c'13,hp⟩:=Zj hp
         refine zb rfl (zz (E:=Zl) (z:=w) (hO'10.rd0 s_at_.rd:Sl Zl ((k'8.bump 58).bump 58) v_at_ at_) rfl rfl c'13) (ZH rfl b'10 (zb rfl (ZaE (off':=0) (off2:=1) (hO'10.rd0 s_at_.rd:Sl Zl ((k'8.bump 58).bump 58) v_at_ at_) (Zp c'13) rfl rfl) (ZH rfl b'10 (zb rfl (zS (w:=.n ((gi at_ w.toNat).Y)) (hO'10.rd0 s_at_.rd:Sl Zl ((k'8.bump 58).bump 58) v_at_ at_) rfl (Zp c'13) rfl) (ZH rfl b'10 (zb rfl (ZaW (a:=((gi at_ i.toNat).Y)) (b:=((gi at_ w.toNat).Y)) rfl rfl) (zb rfl (zg (t:=(decide ((gi at_ a.toNat).X = (gi at_ (((gi l a.toNat).Next).get d:Int).toNat).X))) (v:=.b t5) rfl b'10 (Eq.trans (b:=V.b (decide ((gi at_ i.toNat).Y = (gi at_ w.toNat).Y))) rfl (congrArg V.b (Option.some.inj hp)))) ?_)))))))
         refine Zak ?_
         exact ⟨rfl,rfl,g'5_0,g'5_1,g'5_10,g'5_12,g'5_13,g'5_2,g'5_3,g'5_9⟩
        ·skip
         refine Z6 rfl b'10 (Z6 rfl b'10 (Z6 rfl b'10 (Z6 rfl b'10 (Z6 rfl b'10 (Z6 rfl b'10 (Z6 rfl b'10 (Z6 rfl b'10 ?_)))))))
         refine Z6 rfl b'10 (Z6 rfl b'10 (Z6 rfl b'10 (zb rfl (zc (t:=(decide ((gi at_ a.toNat).X = (gi at_ (((gi l a.toNat).Next).get d:Int).toNat).X))) (v:=.b t5) rfl b'10 (Eq.trans (b:=V.b false) rfl (congrArg V.b (Option.some.inj hp)))) (Zak ?_))))
         exact ⟨rfl,rfl,g'5_0,g'5_1,g'5_10,g'5_12,g'5_13,g'5_2,g'5_3,g'5_9⟩
       rintro frg'6 _ ⟨rfl,g'6_116,g'6_0,g'6_1,g'6_10,g'6_12,g'6_13,g'6_2,g'6_3,g'6_9⟩
       refine Zao (.b t5) g'6_116 ?_
       obtain ⟨t6,hv'7,hp⟩:=Zt hp
       refine Zbr 9 (fun fr' k'=>((k'8.bump 58).bump 58) = k'∧fr' 126 = .b t6∧fr' 0 = v_at_∧fr' 1 = v_l∧fr' 10 = .n d∧fr' 12 = .p r'1 0∧fr' 13 = .p r'2 0∧fr' 2 = .n i∧fr' 3 = .n w∧fr' 9 = .n a) ?_ ?_
       ·clear hp; rcases Z2 hv'7 with ⟨b'11,hp⟩ | ⟨b'11,hp⟩
        ·skip
         refine ZH rfl b'11 (Zao v_at_ g'6_0 (ZH rfl b'11 (Zao (.n i) g'6_2 (ZH rfl b'11 ?_))))
         obtain ⟨c'14,hp⟩:=Zj hp
         refine zb rfl (zz (E:=Zl) (z:=i) (hO'10.rd0 s_at_.rd:Sl Zl ((k'8.bump 58).bump 58) v_at_ at_) rfl rfl c'14) (ZH rfl b'11 (zb rfl (ZaE (off':=0) (off2:=0) (hO'10.rd0 s_at_.rd:Sl Zl ((k'8.bump 58).bump 58) v_at_ at_) (Zp c'14) rfl rfl) (ZH rfl b'11 (zb rfl (zS (w:=.n ((gi at_ i.toNat).X)) (hO'10.rd0 s_at_.rd:Sl Zl ((k'8.bump 58).bump 58) v_at_ at_) rfl (Zp c'14) rfl) (ZH rfl b'11 (zb rfl (z6 (r:=r'1) (o:=0) (o':=0) g'6_12 rfl) (ZH rfl b'11 ?_)))))))
         refine zb rfl (zi (cs:=(Zl.c (gi at_ a.toNat))) (v:=.n ((gi at_ a.toNat).X)) (hO'10.box 0 rfl) rfl rfl) (ZH rfl b'11 (zb rfl (zG (a:=((gi at_ i.toNat).X)) (b:=((gi at_ a.toNat).X)) rfl rfl) (zb rfl (zg (t:=t5) (v:=.b t6) rfl b'11 (Eq.trans (b:=V.b (decide (((gi at_ i.toNat).X) < ((gi at_ a.toNat).X)))) rfl (congrArg V.b (Option.some.inj hp)))) (Zak ?_))))
         exact ⟨rfl,rfl,g'6_0,g'6_1,g'6_10,g'6_12,g'6_13,g'6_2,g'6_3,g'6_9⟩
        ·skip
         refine Z6 rfl b'11 (Z6 rfl b'11 (Z6 rfl b'11 (Z6 rfl b'11 (Z6 rfl b'11 (Z6 rfl b'11 (Z6 rfl b'11 (Z6 rfl b'11 ?_)))))))
         refine zb rfl (zc (t:=t5) (v:=.b t6) rfl b'11 (Eq.trans (b:=V.b false) rfl (congrArg V.b (Option.some.inj hp)))) (Zak ?_)
         exact ⟨rfl,rfl,g'6_0,g'6_1,g'6_10,g'6_12,g'6_13,g'6_2,g'6_3,g'6_9⟩
       rintro frg'7 _ ⟨rfl,g'7_126,g'7_0,g'7_1,g'7_10,g'7_12,g'7_13,g'7_2,g'7_3,g'7_9⟩
       refine Zao (.b t6) g'7_126 ?_
       obtain ⟨t7,hv'8,hp⟩:=Zt hp
       refine Zbr 9 (fun fr' k'=>((k'8.bump 58).bump 58) = k'∧fr' 136 = .b t7∧fr' 0 = v_at_∧fr' 1 = v_l∧fr' 10 = .n d∧fr' 12 = .p r'1 0∧fr' 13 = .p r'2 0∧fr' 2 = .n i∧fr' 3 = .n w∧fr' 9 = .n a) ?_ ?_
       ·clear hp; rcases Z2 hv'8 with ⟨b'12,hp⟩ | ⟨b'12,hp⟩
        ·skip
         refine ZH rfl b'12 (zb rfl (z6 (r:=r'1) (o:=0) (o':=0) g'7_12 rfl) (ZH rfl b'12 (zb rfl (zi (cs:=(Zl.c (gi at_ a.toNat))) (v:=.n ((gi at_ a.toNat).X)) (hO'10.box 0 rfl) rfl rfl) (ZH rfl b'12 (Zao v_at_ g'7_0 (ZH rfl b'12 (Zao (.n w) g'7_3 ?_)))))))
         refine ZH rfl b'12 ?_
         obtain ⟨c'15,hp⟩:=Zj hp
         refine zb rfl (zz (E:=Zl) (z:=w) (hO'10.rd0 s_at_.rd:Sl Zl ((k'8.bump 58).bump 58) v_at_ at_) rfl rfl c'15) (ZH rfl b'12 (zb rfl (ZaE (off':=0) (off2:=0) (hO'10.rd0 s_at_.rd:Sl Zl ((k'8.bump 58).bump 58) v_at_ at_) (Zp c'15) rfl rfl) (ZH rfl b'12 (zb rfl (zS (w:=.n ((gi at_ w.toNat).X)) (hO'10.rd0 s_at_.rd:Sl Zl ((k'8.bump 58).bump 58) v_at_ at_) rfl (Zp c'15) rfl) (ZH rfl b'12 (zb rfl (zG (a:=((gi at_ a.toNat).X)) (b:=((gi at_ w.toNat).X)) rfl rfl) (zb rfl (zg (t:=t6) (v:=.b t7) rfl b'12 (Eq.trans (b:=V.b (decide (((gi at_ a.toNat).X) < ((gi at_ w.toNat).X)))) rfl (congrArg V.b (Option.some.inj hp)))) ?_)))))))
         refine Zak ?_
         exact ⟨rfl,rfl,g'7_0,g'7_1,g'7_10,g'7_12,g'7_13,g'7_2,g'7_3,g'7_9⟩
        ·skip
         refine Z6 rfl b'12 (Z6 rfl b'12 (Z6 rfl b'12 (Z6 rfl b'12 (Z6 rfl b'12 (Z6 rfl b'12 (Z6 rfl b'12 (Z6 rfl b'12 ?_)))))))
         refine zb rfl (zc (t:=t6) (v:=.b t7) rfl b'12 (Eq.trans (b:=V.b false) rfl (congrArg V.b (Option.some.inj hp)))) (Zak ?_)
         exact ⟨rfl,rfl,g'7_0,g'7_1,g'7_10,g'7_12,g'7_13,g'7_2,g'7_3,g'7_9⟩
       rintro frg'8 _ ⟨rfl,g'8_136,g'8_0,g'8_1,g'8_10,g'8_12,g'8_13,g'8_2,g'8_3,g'8_9⟩
       refine Zao (.b t7) g'8_136 ?_
       obtain ⟨t8,hv'9,hp⟩:=Zt hp
       refine Zbr 9 (fun fr' k'=>((k'8.bump 58).bump 58) = k'∧fr' 146 = .b t8∧fr' 0 = v_at_∧fr' 1 = v_l∧fr' 10 = .n d∧fr' 13 = .p r'2 0∧fr' 2 = .n i∧fr' 3 = .n w∧fr' 9 = .n a) ?_ ?_
       ·clear hp; rcases Z2 hv'9 with ⟨b'13,hp⟩ | ⟨b'13,hp⟩
        ·skip
         refine ZH rfl b'13 (zb rfl (z6 (r:=r'1) (o:=0) (o':=1) g'8_12 rfl) (ZH rfl b'13 (zb rfl (zi (cs:=(Zl.c (gi at_ a.toNat))) (v:=.n ((gi at_ a.toNat).Y)) (hO'10.box 0 rfl) rfl rfl) (ZH rfl b'13 (Zao v_at_ g'8_0 (ZH rfl b'13 (Zao (.n i) g'8_2 ?_)))))))
         refine ZH rfl b'13 ?_
         obtain ⟨c'16,hp⟩:=Zj hp
         refine zb rfl (zz (E:=Zl) (z:=i) (hO'10.rd0 s_at_.rd:Sl Zl ((k'8.bump 58).bump 58) v_at_ at_) rfl rfl c'16) (ZH rfl b'13 (zb rfl (ZaE (off':=0) (off2:=1) (hO'10.rd0 s_at_.rd:Sl Zl ((k'8.bump 58).bump 58) v_at_ at_) (Zp c'16) rfl rfl) (ZH rfl b'13 (zb rfl (zS (w:=.n ((gi at_ i.toNat).Y)) (hO'10.rd0 s_at_.rd:Sl Zl ((k'8.bump 58).bump 58) v_at_ at_) rfl (Zp c'16) rfl) (ZH rfl b'13 (zb rfl (zG (a:=((gi at_ a.toNat).Y)) (b:=((gi at_ i.toNat).Y)) rfl rfl) (zb rfl (zg (t:=t7) (v:=.b t8) rfl b'13 (Eq.trans (b:=V.b (decide (((gi at_ a.toNat).Y) < ((gi at_ i.toNat).Y)))) rfl (congrArg V.b (Option.some.inj hp)))) ?_)))))))
         refine Zak ?_
         exact ⟨rfl,rfl,g'8_0,g'8_1,g'8_10,g'8_13,g'8_2,g'8_3,g'8_9⟩
        ·skip
         refine Z6 rfl b'13 (Z6 rfl b'13 (Z6 rfl b'13 (Z6 rfl b'13 (Z6 rfl b'13 (Z6 rfl b'13 (Z6 rfl b'13 (Z6 rfl b'13 ?_)))))))
         refine zb rfl (zc (t:=t7) (v:=.b t8) rfl b'13 (Eq.trans (b:=V.b false) rfl (congrArg V.b (Option.some.inj hp)))) (Zak ?_)
         exact ⟨rfl,rfl,g'8_0,g'8_1,g'8_10,g'8_13,g'8_2,g'8_3,g'8_9⟩
       rintro frg'9 _ ⟨rfl,g'9_146,g'9_0,g'9_1,g'9_10,g'9_13,g'9_2,g'9_3,g'9_9⟩
       refine Zao (.b t8) g'9_146 ?_
       obtain ⟨t9,hv'10,hp⟩:=Zt hp
       refine Zbr 9 (fun fr' k'=>((k'8.bump 58).bump 58) = k'∧fr' 156 = .b t9∧fr' 0 = v_at_∧fr' 1 = v_l∧fr' 10 = .n d∧fr' 2 = .n i∧fr' 3 = .n w∧fr' 9 = .n a) ?_ ?_
       ·clear hp; rcases Z2 hv'10 with ⟨b'14,hp⟩ | ⟨b'14,hp⟩
        ·skip
         refine ZH rfl b'14 (Zao v_at_ g'9_0 (ZH rfl b'14 (Zao (.n i) g'9_2 (ZH rfl b'14 ?_))))
         obtain ⟨c'17,hp⟩:=Zj hp
         refine zb rfl (zz (E:=Zl) (z:=i) (hO'10.rd0 s_at_.rd:Sl Zl ((k'8.bump 58).bump 58) v_at_ at_) rfl rfl c'17) (ZH rfl b'14 (zb rfl (ZaE (off':=0) (off2:=1) (hO'10.rd0 s_at_.rd:Sl Zl ((k'8.bump 58).bump 58) v_at_ at_) (Zp c'17) rfl rfl) (ZH rfl b'14 (zb rfl (zS (w:=.n ((gi at_ i.toNat).Y)) (hO'10.rd0 s_at_.rd:Sl Zl ((k'8.bump 58).bump 58) v_at_ at_) rfl (Zp c'17) rfl) (ZH rfl b'14 (zb rfl (z6 (r:=r'2) (o:=0) (o':=1) g'9_13 rfl) (ZH rfl b'14 ?_)))))))
         refine zb rfl (zi (cs:=(Zl.c (gi at_ (((gi l a.toNat).Next).get d:Int).toNat))) (v:=.n ((gi at_ (((gi l a.toNat).Next).get d:Int).toNat).Y)) (hO'10.box 1 rfl) rfl rfl) (ZH rfl b'14 (zb rfl (zG (a:=((gi at_ i.toNat).Y)) (b:=((gi at_ (((gi l a.toNat).Next).get d:Int).toNat).Y)) rfl rfl) (zb rfl (zg (t:=t8) (v:=.b t9) rfl b'14 (Eq.trans (b:=V.b (decide (((gi at_ i.toNat).Y) < ((gi at_ (((gi l a.toNat).Next).get d:Int).toNat).Y)))) rfl (congrArg V.b (Option.some.inj hp)))) (Zak ?_))))
         exact ⟨rfl,rfl,g'9_0,g'9_1,g'9_10,g'9_2,g'9_3,g'9_9⟩
        ·skip
         refine Z6 rfl b'14 (Z6 rfl b'14 (Z6 rfl b'14 (Z6 rfl b'14 (Z6 rfl b'14 (Z6 rfl b'14 (Z6 rfl b'14 (Z6 rfl b'14 ?_)))))))
         refine zb rfl (zc (t:=t8) (v:=.b t9) rfl b'14 (Eq.trans (b:=V.b false) rfl (congrArg V.b (Option.some.inj hp)))) (Zak ?_)
         exact ⟨rfl,rfl,g'9_0,g'9_1,g'9_10,g'9_2,g'9_3,g'9_9⟩
       rintro frg'10 _ ⟨rfl,g'10_156,g'10_0,g'10_1,g'10_10,g'10_2,g'10_3,g'10_9⟩
       refine Zak (Za ?_)
       rcases Z2 hp with ⟨b'15,hp⟩ | ⟨b'15,hp⟩
       ·refine zO (t:=t9) g'10_156 b'15 ?_
        refine Zk (Zo (Zd (.b true) rfl (Zb (Za (Za2 (Zbh (Zaf ?_)))))))
        cases hp
        refine (Or.inr ⟨.inr (),rfl,(fun h=>nomatch h),(fun he=>?_)⟩)
        subst he; exact ⟨rfl,rfl,(hO'10.pick [] rfl (by decide))⟩
       ·refine zN (t:=t9) g'10_156 b'15 ?_
        refine zU (Zac (Za (Zo (Zd (.n d) g'10_10 ?_))))
        obtain ⟨c'18,hp⟩:=Zj hp
        refine Ze (zp (a:=d) (b:=1) rfl rfl c'18) (Zd (.n (d + 1)) rfl (Zb ?_))
        cases hp
        exact (Or.inl ⟨d + 1,rfl,rfl,g'10_0,g'10_1,g'10_2,g'10_3,g'10_9,rfl,(hO'10.pick [] rfl (by decide))⟩)
    ·refine zN (t:=(decide (d < 2))) rfl b'2 ?_
     refine ZaT (zR ?_)
     cases hp
     refine (Or.inr ⟨.inl (),rfl,(fun h=>nomatch h),(fun he=>?_)⟩)
     subst he; exact ⟨rfl,q'4_0,q'4_1,q'4_2,q'4_3,q'4_9,(hO'4.pick [] rfl (by decide))⟩
   intro e'2 q'3 k'3 hJ'2
   rcases o'3 with _ | _
   ·obtain ⟨rfl,q'3_0,q'3_1,q'3_2,q'3_3,q'3_9,hO'3⟩:=hJ'2
    refine Zaq (Zac (Za (Zo (Zd (.n a) q'3_9 ?_))))
    obtain ⟨c'19,hp⟩:=Zj hp
    refine Ze (zp (a:=a) (b:=1) rfl rfl c'19) (Zd (.n (a + 1)) rfl (Zb ?_))
    cases hp
    exact (Or.inl ⟨a + 1,rfl,rfl,q'3_0,q'3_1,q'3_2,q'3_3,rfl,(hO'3.pick [] rfl (by decide))⟩)
   ·obtain ⟨rfl,q'3_8,hO'3⟩:=hJ'2
    refine Zbh (Zbh (Zaf ?_))
    cases hp
    refine (Or.inr ⟨.inr (),rfl,(fun h=>nomatch h),(fun he=>?_)⟩)
    subst he; exact ⟨rfl,q'3_8,(hO'3.pick [] rfl (by decide))⟩
  ·refine zN (t:=(decide (a < (l.length:Int)))) rfl b'1 ?_
   refine ZaT (zR ?_)
   cases hp
   refine (Or.inr ⟨.inl (),rfl,(fun h=>nomatch h),(fun he=>?_)⟩)
   subst he; exact ⟨rfl,(hO'2.pick [] rfl (by decide))⟩
 intro e'1 q'1 k'1 hJ'1
 rcases o'1 with _ | _
 ·obtain ⟨rfl,hO'1⟩:=hJ'1
  refine Zaq (Za (Zk (Zo (Zd (.b false) rfl (Zb (Za (Za2 ?_)))))))
  refine zW (Zax (n:=8) (v:=.b false) rfl zx) ?_
  cases hp
  exact ⟨rfl,(hO'1.pick [] rfl (by decide))⟩
 ·obtain ⟨rfl,q'1_8,hO'1⟩:=hJ'1
  refine Zbh (Zaf (zW (Zax (n:=8) (v:=.b true) q'1_8 zx) ?_))
  cases hp
  exact ⟨rfl,(hO'1.pick [] rfl (by decide))⟩

theorem zK.ok {h:Hp} {l:List Zc} {v:Int} {d:Int} {w:Int} {o:Int} {v_l:V} (s_l:Sl Zf h v_l l) {r:(List Zc)} (hp:zK l v d w o = some r) :
  ∃ u k',Is G 65 [v_l,.n v,.n d,.n w,.n o] h u k'∧∃ (v'1:V),v'1 = u∧Own (fun r=>r < h.n) h k' [eSl Zf v'1 r]:=by
 refine WC.is (ZaM Zcs ?_)
 unfold zK at hp
 let B:Nat→Prop:=(fun r=>r < h.n)
 have hO:Own B h h []:=Own.start0 h
 refine Zk (Zo (Zd (.sn) rfl (Zb (Za (Zk (Zo (Zd (.sn) rfl ?_)))))))
 refine Zb (Za (Zk (Zk (Zo (Zd (.n 0) rfl (Zb (Za ?_)))))))
 refine Zaa ?_
 obtain ⟨o'1,ho'1,hp⟩:=Zt hp
 refine W.mono (Q:=fun e fr k=>match (generalizing:=false) o'1 with
   | out1=>e = (.exit 0)∧∃ (v'3:V),fr 11 = v'3∧Own B h k [eSl Zf v'3 out1]) ?_ ?_
 ·clear hp
  have hO'2:=hO.nil Zf
  refine z9 (fun st fr k=>match st with | (out,i)=>∃ (v'2:V),fr 0 = v_l∧fr 1 = .n v∧fr 2 = .n d∧fr 3 = .n w∧fr 4 = .n o∧fr 11 = v'2∧fr 12 = .n i∧Own B h k [eSl Zf v'2 out]) ho'1 (s:=(([]:List Zc),0)) ⟨V.sn,rfl,rfl,rfl,rfl,rfl,rfl,rfl,(hO'2.pick [0] rfl (by decide))⟩ ?_
  rintro ⟨out,i⟩ q'2 k'2 ⟨v'2,q'2_0,q'2_1,q'2_2,q'2_3,q'2_4,q'2_11,q'2_12,hO'3⟩ o'2 hp
  dsimp only [zK.s0] at hp
  refine Zk (Zk (Zo (Zd (.n i) q'2_12 (Zd v_l q'2_0 (Ze (Zah (hO'3.rd0 s_l.rd) rfl) (Ze (zG (a:=i) (b:=(l.length:Int)) rfl rfl) (Zb ?_)))))))
  refine Za ?_
  rcases Z2 hp with ⟨b'1,hp⟩ | ⟨b'1,hp⟩
  ·refine zO (t:=(decide (i < (l.length:Int)))) rfl b'1 ?_
   refine zU (Za (Zk (Zaa (Zk (Zo (Zd v_l q'2_0 (Zd (.n i) q'2_12 ?_)))))))
   obtain ⟨c'1,hp⟩:=Zj hp
   refine Ze (zz (E:=Zf) (z:=i) (hO'3.rd0 s_l.rd) rfl rfl c'1) (Ze (ZdX (E:=Zf) (hO'3.rd0 s_l.rd) rfl (Zp c'1)) (zy (hO'3.alloc (cs:=Zf.c (⟨⟨0,0,0,0⟩,⟨0,0,0,0⟩⟩:Zc)) hO'3.fr) ?_))
   rintro _ k'3 ⟨r'1,rfl,n'1,f'1,hW⟩
   have hO'4:=hW
   refine zy (hO'4.stb (ws:=Zf.c (gi l i.toNat)) (cs':=Zf.c (gi l i.toNat)) (v:=.ag (Zf.c (gi l i.toNat))) 1 rfl rfl rfl rfl ⟨rfl,Nat.le_of_ble_eq_true rfl,rfl⟩ rfl) ?_
   rintro _ k'4 ⟨rfl,f'2,m'1,hW⟩
   have hO'5:=hW
   refine Zb (Za (Zk (Zk (Zo (Zd (.n i) q'2_12 (Zd (.n v) q'2_1 (Ze (ZaW (a:=i) (b:=v) rfl rfl) ?_)))))))
   refine Zb (Za ?_)
   obtain ⟨o'3,ho'2,hp⟩:=Zt hp
   refine W.mono (Q:=fun e fr k=>match (generalizing:=false) o'3 with
     | c=>e = .normal∧fr 0 = v_l∧fr 1 = .n v∧fr 2 = .n d∧fr 3 = .n w∧fr 4 = .n o∧fr 11 = v'2∧fr 12 = .n i∧fr 13 = .p r'1 0∧Own B h k [eSl Zf v'2 out,zQ r'1 (Zf.c c)]) ?_ ?_
   ·clear hp; have hp:=ho'2; clear ho'2
    rcases Z2 hp with ⟨b'2,hp⟩ | ⟨b'2,hp⟩
    ·refine zO (t:=(decide (i = v))) rfl b'2 ?_
     refine Zk (Zo (Zd (.n d) q'2_2 (Zd (.n w) q'2_3 (Ze (z6 (r:=r'1) (o:=0) (o':=0) rfl rfl) ?_))))
     obtain ⟨c'2,hp⟩:=Zj hp
     refine Ze (ZfK (o:=0) (o':=(0 + d.toNat * 1)) (z:=d) rfl rfl c'2 rfl) (zy (hO'5.stb (ws:=[.n w]) (cs':=Zf.c ({ gi l i.toNat with Next:=((gi l i.toNat).Next).set d w })) (v:=.n w) 1 rfl rfl rfl rfl ⟨rfl,(by have:=c'2; exact (show 0 + d.toNat * 1 + 1≤8 by omega)),rfl⟩ (ZbG c'2)) ?_)
     rintro _ k'6 ⟨rfl,f'3,m'2,hW⟩
     have hO'7:=hW
     refine Zb (Za (Zo (Zd (.n d) q'2_2 (Zd (.n o) q'2_4 (Ze (z6 (r:=r'1) (o:=0) (o':=4) rfl rfl) (Ze (ZfK (o:=4) (o':=(4 + d.toNat * 1)) (z:=d) rfl rfl c'2 rfl) (zy (hO'7.stb (ws:=[.n o]) (cs':=Zf.c ({ { gi l i.toNat with Next:=((gi l i.toNat).Next).set d w } with Owner:=(({ gi l i.toNat with Next:=((gi l i.toNat).Next).set d w }).Owner).set d o })) (v:=.n o) 1 rfl rfl rfl rfl ⟨rfl,(by have:=c'2; exact (show 4 + d.toNat * 1 + 1≤8 by omega)),rfl⟩ (Zc7 c'2)) ?_)))))))
     rintro _ k'7 ⟨rfl,f'4,m'3,hW⟩
     have hO'8:=hW
     refine Zb ?_
     cases hp
     exact ⟨rfl,q'2_0,q'2_1,q'2_2,q'2_3,q'2_4,q'2_11,q'2_12,rfl,(hO'8.pick [0,1] rfl (by decide))⟩
    ·refine zN (t:=(decide (i = v))) rfl b'2 ?_
     refine zU ?_
     cases hp
     exact ⟨rfl,q'2_0,q'2_1,q'2_2,q'2_3,q'2_4,q'2_11,q'2_12,rfl,(hO'5.pick [0,1] rfl (by decide))⟩
   intro e'2 q'3 k'5 hJ'2
   obtain ⟨c,rfl⟩:∃ x,x = o'3:=⟨_,rfl⟩
   obtain ⟨rfl,q'3_0,q'3_1,q'3_2,q'3_3,q'3_4,q'3_11,q'3_12,q'3_13,hO'6⟩:=hJ'2
   refine Za (Zk (Zk (Zo (Zd (.n i) q'3_12 (Zd (.n w) q'3_3 (Ze (ZaW (a:=i) (b:=w) rfl rfl) (Zb ?_)))))))
   refine Za ?_
   rcases Z2 hp with ⟨b'3,hp⟩ | ⟨b'3,hp⟩
   ·refine zO (t:=(decide (i = w))) rfl b'3 ?_
    refine Zk (Zo (Zd (.n d) q'3_2 ?_))
    obtain ⟨c'3,hp⟩:=Zj hp
    refine Ze (zp (a:=d) (b:=2) rfl rfl c'3) (Ze (ZbJ (a:=(d + 2)) (b:=4) rfl rfl (by decide)) (Zd (.n v) q'3_1 (Ze (z6 (r:=r'1) (o:=0) (o':=0) q'3_13 rfl) ?_)))
    obtain ⟨c'4,hp⟩:=Zj hp
    refine Ze (ZfK (o:=0) (o':=(0 + ((d + 2).tmod 4:Int).toNat * 1)) (z:=((d + 2).tmod 4)) rfl rfl c'4 rfl) (zy (hO'6.stb (ws:=[.n v]) (cs':=Zf.c ({ c with Next:=c.Next.set ((d + 2).tmod 4) v })) (v:=.n v) 1 rfl rfl rfl rfl ⟨rfl,(by have:=c'4; exact (show 0 + ((d + 2).tmod 4:Int).toNat * 1 + 1≤8 by omega)),rfl⟩ (ZbG c'4)) ?_)
    rintro _ k'8 ⟨rfl,f'5,m'4,hW⟩
    have hO'9:=hW
    refine Zb (Za (Zo (Zd (.n d) q'3_2 (Ze (zp (a:=d) (b:=2) rfl rfl c'3) (Ze (ZbJ (a:=(d + 2)) (b:=4) rfl rfl (by decide)) (Zd (.n o) q'3_4 (Ze (z6 (r:=r'1) (o:=0) (o':=4) q'3_13 rfl) ?_)))))))
    refine Ze (ZfK (o:=4) (o':=(4 + ((d + 2).tmod 4:Int).toNat * 1)) (z:=((d + 2).tmod 4)) rfl rfl c'4 rfl) (zy (hO'9.stb (ws:=[.n o]) (cs':=Zf.c ({ { c with Next:=c.Next.set ((d + 2).tmod 4) v } with Owner:=(({ c with Next:=c.Next.set ((d + 2).tmod 4) v }).Owner).set ((d + 2).tmod 4) o })) (v:=.n o) 1 rfl rfl rfl rfl ⟨rfl,(by have:=c'4; exact (show 4 + ((d + 2).tmod 4:Int).toNat * 1 + 1≤8 by omega)),rfl⟩ (Zc7 c'4)) ?_)
    rintro _ k'9 ⟨rfl,f'6,m'5,hW⟩
    have hO'10:=hW
    refine Zb (Za (Zo (Zd v'2 q'3_11 (Ze (Zaz (cs:=(Zf.c ({ { c with Next:=c.Next.set ((d + 2).tmod 4) v } with Owner:=(({ c with Next:=c.Next.set ((d + 2).tmod 4) v }).Owner).set ((d + 2).tmod 4) o }))) (ws:=Zf.c ({ { c with Next:=c.Next.set ((d + 2).tmod 4) v } with Owner:=(({ c with Next:=c.Next.set ((d + 2).tmod 4) v }).Owner).set ((d + 2).tmod 4) o })) (hO'10.box 1 rfl) q'3_13 rfl) (zy (hO'10.bsl (E:=Zf) (l:=[{ { c with Next:=c.Next.set ((d + 2).tmod 4) v } with Owner:=(({ c with Next:=c.Next.set ((d + 2).tmod 4) v }).Owner).set ((d + 2).tmod 4) o }]) hO'10.fr (by rw [(zq (v:=.ag (Zf.c ({ { c with Next:=c.Next.set ((d + 2).tmod 4) v } with Owner:=(({ c with Next:=c.Next.set ((d + 2).tmod 4) v }).Owner).set ((d + 2).tmod 4) o }))) rfl Za5)]; rfl) rfl) ?_)))))
    rintro v'4 k'10 ⟨r'2,f'7,hW⟩
    have hO'11:=hW
    obtain ⟨c'5,hp⟩:=Zj hp
    refine zy (hO'11.app (E:=Zf) (bytes:=64) 0 hO'11.fr rfl (hO'11.sl 2 rfl:Sl Zf k'10 v'4 [{ { c with Next:=c.Next.set ((d + 2).tmod 4) v } with Owner:=(({ c with Next:=c.Next.set ((d + 2).tmod 4) v }).Owner).set ((d + 2).tmod 4) o }]) rfl rfl (fun _=>rfl) c'5 (by decide)) ?_
    rintro v'5 k'11 ⟨f'8,hW⟩
    have hO'12:=hW
    refine Zd v'5 rfl (Zb (Zac (Za (Zo (Zd (.n i) q'3_12 ?_)))))
    obtain ⟨c'6,hp⟩:=Zj hp
    refine Ze (zp (a:=i) (b:=1) rfl rfl c'6) (Zd (.n (i + 1)) rfl (Zb ?_))
    cases hp
    exact (Or.inl ⟨(out++[{ { c with Next:=c.Next.set ((d + 2).tmod 4) v } with Owner:=(({ c with Next:=c.Next.set ((d + 2).tmod 4) v }).Owner).set ((d + 2).tmod 4) o }],i + 1),rfl,rfl,v'5,q'3_0,q'3_1,q'3_2,q'3_3,q'3_4,rfl,rfl,(hO'12.pick [0] rfl (by decide))⟩)
   ·refine zN (t:=(decide (i = w))) rfl b'3 ?_
    refine zU (Za (Zo (Zd v'2 q'3_11 (Ze (Zaz (cs:=(Zf.c c)) (ws:=Zf.c c) (hO'6.box 1 rfl) q'3_13 rfl) (zy (hO'6.bsl (E:=Zf) (l:=[c]) hO'6.fr (by rw [(zq (v:=.ag (Zf.c c)) rfl Za5)]; rfl) rfl) ?_)))))
    rintro v'6 k'12 ⟨r'3,f'9,hW⟩
    have hO'13:=hW
    obtain ⟨c'7,hp⟩:=Zj hp
    refine zy (hO'13.app (E:=Zf) (bytes:=64) 0 hO'13.fr rfl (hO'13.sl 2 rfl) rfl rfl (fun _=>rfl) c'7 (by decide)) ?_
    rintro v'7 k'13 ⟨f'10,hW⟩
    have hO'14:=hW
    refine Zd v'7 rfl (Zb (Zac (Za (Zo (Zd (.n i) q'3_12 ?_)))))
    obtain ⟨c'8,hp⟩:=Zj hp
    refine Ze (zp (a:=i) (b:=1) rfl rfl c'8) (Zd (.n (i + 1)) rfl (Zb ?_))
    cases hp
    exact (Or.inl ⟨(out++[c],i + 1),rfl,rfl,v'7,q'3_0,q'3_1,q'3_2,q'3_3,q'3_4,rfl,rfl,(hO'14.pick [0] rfl (by decide))⟩)
  ·refine zN (t:=(decide (i < (l.length:Int)))) rfl b'1 ?_
   refine ZaT (zR ?_)
   cases hp
   refine (Or.inr ⟨out,rfl,(fun h=>nomatch h),(fun he=>?_)⟩)
   subst he; exact ⟨rfl,v'2,q'2_11,(hO'3.pick [0] rfl (by decide))⟩
 intro e'1 q'1 k'1 hJ'1
 obtain ⟨out1,rfl⟩:∃ x,x = o'1:=⟨_,rfl⟩
 obtain ⟨rfl,v'3,q'1_11,hO'1⟩:=hJ'1
 refine Zaq (Za (Zk (Zo (Zd v'3 q'1_11 (Zd v'3 rfl (Zb (Za ?_)))))))
 refine Za2 (zW (Zax (n:=10) (v:=v'3) rfl zx) ?_)
 cases hp
 exact ⟨v'3,rfl,(hO'1.pick [0] rfl (by decide))⟩

theorem ZF.ok {h:Hp} {z:zo} {most:Int} {v_z_At:V} {v_z_Bits:V} {v_z_Own:V} (s_z_At:Sl Zd8 h v_z_At z.At) (s_z_Bits:Sl Zd8 h v_z_Bits z.Bits) (s_z_Own:Sl ZgA h v_z_Own z.Own) {r:(List Zc) × (List Z5)} (hp:ZF z most = some r) :
  ∃ u k',Is G 28 [.ag [v_z_At,v_z_Bits,v_z_Own],.n most] h u k'∧∃ (v'1:V),∃ (v'2:V),V.tu [v'1,v'2] = u∧Own (fun r=>r < h.n) h k' [eSl Zf v'1 r.1,eSl Zl v'2 r.2]:=by
 refine WC.is (ZaM Zcr ?_)
 unfold ZF at hp
 let B:Nat→Prop:=(fun r=>r < h.n)
 have hO:Own B h h []:=Own.start0 h
 refine Zk (Zo (zy (hO.boxd (v:=.ag [v_z_At,v_z_Bits,v_z_Own]) (cs:=[v_z_At,v_z_Bits,v_z_Own]) hO.fr rfl rfl) ?_))
 rintro _ k'1 ⟨r'1,rfl,n'1,f'1,hW⟩
 have hO'1:=hW
 refine Zd (.sn) rfl (Zd (.sn) rfl (Zb (Za (Zk (Zo (Zd (.sn) rfl (Zb ?_)))))))
 refine Za (Zk (Zk (Zo (Zd (.n 0) rfl (Zb (Za (Zaa ?_)))))))
 obtain ⟨o'1,ho'1,hp⟩:=Zt hp
 refine W.mono (Q:=fun e fr k=>match (generalizing:=false) o'1 with
   | at_1=>e = (.exit 0)∧∃ (v'4:V),fr 2 = .p r'1 0∧fr 6 = v'4∧Own B h k [zQ r'1 [v_z_At,v_z_Bits,v_z_Own],eSl Zl v'4 at_1]) ?_ ?_
 ·clear hp
  have hO'3:=hO'1.nil Zl
  refine z9 (fun st fr k=>match st with | (at_,i)=>∃ (v'3:V),fr 1 = .n most∧fr 2 = .p r'1 0∧fr 6 = v'3∧fr 7 = .n i∧Own B h k [zQ r'1 [v_z_At,v_z_Bits,v_z_Own],eSl Zl v'3 at_]) ho'1 (s:=(([]:List Z5),0)) ⟨V.sn,rfl,rfl,rfl,rfl,(hO'3.pick [0,1] rfl (by decide))⟩ ?_
  rintro ⟨at_,i⟩ q'2 k'3 ⟨v'3,q'2_1,q'2_2,q'2_6,q'2_7,hO'4⟩ o'2 hp
  dsimp only [ZF.s0] at hp
  refine Zk (Zk (Zo (Zd (.n i) q'2_7 (Ze (z6 (r:=r'1) (o:=0) (o':=0) q'2_2 rfl) (Ze (zi (cs:=[v_z_At,v_z_Bits,v_z_Own]) (v:=v_z_At) (hO'4.box 0 rfl) rfl rfl) (Ze (Zah (hO'4.rd0 s_z_At.rd) rfl) (Ze (zG (a:=i) (b:=(z.At.length:Int)) rfl rfl) ?_)))))))
  refine Zd (.b (decide (i < (z.At.length:Int)))) rfl ?_
  refine Zad 5 (fun fr' k'=>k'3 = k'∧fr' 28 = .b ((decide (i < (z.At.length:Int))) && (decide ((at_.length:Int) < most)))∧fr' 1 = .n most∧fr' 2 = .p r'1 0∧fr' 6 = v'3∧fr' 7 = .n i) ?_ ?_
  ·rcases bc (decide (i < (z.At.length:Int))) with b'1 | b'1
   ·skip
    refine ZB rfl b'1 (Zd v'3 q'2_6 (ZB rfl b'1 (Ze (Zah (hO'4.sl 1 rfl) rfl) (ZB rfl b'1 (Zd (.n most) q'2_1 (ZB rfl b'1 (Ze (zG (a:=(at_.length:Int)) (b:=most) rfl rfl) ?_)))))))
    refine Ze (zg (t:=(decide (i < (z.At.length:Int)))) (v:=.b ((decide (i < (z.At.length:Int))) && (decide ((at_.length:Int) < most)))) rfl b'1 (Eq.trans (b:=V.b (decide ((at_.length:Int) < most))) rfl (ZbS b'1))) (Zb ?_)
    exact ⟨rfl,rfl,q'2_1,q'2_2,q'2_6,q'2_7⟩
   ·skip
    refine Z4 rfl b'1 (Z4 rfl b'1 (Z4 rfl b'1 (Z4 rfl b'1 (Ze (zc (t:=(decide (i < (z.At.length:Int)))) (v:=.b ((decide (i < (z.At.length:Int))) && (decide ((at_.length:Int) < most)))) rfl b'1 (Eq.trans (b:=V.b false) rfl (Zbw b'1))) (Zb ?_)))))
    exact ⟨rfl,rfl,q'2_1,q'2_2,q'2_6,q'2_7⟩
  rintro frg'1 _ ⟨rfl,g'1_28,g'1_1,g'1_2,g'1_6,g'1_7⟩
  refine Zb (Za ?_)
  rcases Z2 hp with ⟨b'2,hp⟩ | ⟨b'2,hp⟩
  ·refine zO (t:=((decide (i < (z.At.length:Int))) && (decide ((at_.length:Int) < most)))) g'1_28 b'2 ?_
   refine zU (Za (Zk (Zaa (Zk (ZfI ?_)))))
   have hW:=hO'4.bump 18
   have fr'1:=Fresh.start k'3 18
   have nb'1:∀ {i:Nat},h.n≤k'3.n + i:=Nat.le_trans hO'4.n (Nat.le_add_right _ _)
   have hO'5:=hW
   refine zP (z6 (r:=r'1) (o:=0) (o':=0) g'1_2 rfl) (zP (zi (cs:=[v_z_At,v_z_Bits,v_z_Own]) (v:=v_z_At) (hO'5.box 0 rfl) rfl rfl) (Zbn (.n i) g'1_7 ?_))
   obtain ⟨c'1,hp⟩:=Zj hp
   refine zP (zz (E:=Zd8) (z:=i) (hO'5.rd0 s_z_At.rd) rfl rfl c'1) (zP (zS (w:=.i .u8 (gi z.At i.toNat)) (hO'5.rd0 s_z_At.rd) rfl (Zp c'1) rfl) ?_)
   obtain ⟨c'2,hp⟩:=Zj hp
   refine zP (ZcU (a:=(gi z.At i.toNat)) rfl c'2) (zP (ZbJ (a:=(gi z.At i.toNat)) (b:=8) rfl rfl (by decide)) (zP (z6 (r:=r'1) (o:=0) (o':=0) g'1_2 rfl) (zP (zi (cs:=[v_z_At,v_z_Bits,v_z_Own]) (v:=v_z_At) (hO'5.box 0 rfl) rfl rfl) (Zbn (.n i) g'1_7 (zP (zz (E:=Zd8) (z:=i) (hO'5.rd0 s_z_At.rd) rfl rfl c'1) (zP (zS (w:=.i .u8 (gi z.At i.toNat)) (hO'5.rd0 s_z_At.rd) rfl (Zp c'1) rfl) (zP (ZcU (a:=(gi z.At i.toNat)) rfl c'2) ?_)))))))
   obtain ⟨c'3,hp⟩:=Zj hp
   refine zP (Zhe (a:=(gi z.At i.toNat)) (b:=8) rfl rfl c'3) (zP (ZbJ (a:=((gi z.At i.toNat).tdiv 8)) (b:=8) rfl rfl (by decide)) (zP (Zcl (cs:=Zl.c (⟨(gi z.At i.toNat).tmod 8,((gi z.At i.toNat).tdiv 8).tmod 8⟩:Z5)) (by rw [(zq (v:=.n ((gi z.At i.toNat).tmod 8)) rfl (zq (v:=.n (((gi z.At i.toNat).tdiv 8).tmod 8)) rfl Za5))]; rfl)) (Ze6 (hO'5.alloc (cs:=Zl.c (⟨0,0⟩:Z5)) ⟨fr'1.m 16 (by decide) (by decide),nb'1⟩) ?_)))
   rintro _ k'5 z'1 ⟨r'2,rfl,n'2,f'2,hW⟩
   have fr'2:=fr'1.kept f'2 (by decide)
   have hO'6:=hW
   refine Ze6 (hO'6.stb (ws:=Zl.c (⟨(gi z.At i.toNat).tmod 8,((gi z.At i.toNat).tdiv 8).tmod 8⟩:Z5)) (cs':=Zl.c (⟨(gi z.At i.toNat).tmod 8,((gi z.At i.toNat).tdiv 8).tmod 8⟩:Z5)) (v:=.ag (Zl.c (⟨(gi z.At i.toNat).tmod 8,((gi z.At i.toNat).tdiv 8).tmod 8⟩:Z5))) 2 rfl rfl rfl rfl ⟨rfl,Nat.le_of_ble_eq_true rfl,rfl⟩ rfl) ?_
   rintro _ k'6 z'2 ⟨rfl,f'3,m'1,hW⟩
   have fr'3:=fr'2.kept f'3 (by decide)
   have hO'7:=hW
   refine Zc1 ?_
   refine And.intro ?_ ?_
   ·intro q hq
    simp only [List.mem_cons,List.not_mem_nil,or_false] at hq
    rcases hq with rfl | rfl | rfl | rfl | rfl | rfl | rfl | rfl
    ·refine Zay ?_ ?_
     ·exact (fun h=>nomatch h)
     ·exact (fun h=>nomatch h)
    ·refine Zay ?_ ?_
     ·exact (fun h=>nomatch h)
     ·exact (fun h=>nomatch h)
    ·refine Zay ?_ ?_
     ·exact (fun h=>nomatch h)
     ·exact (fun h=>nomatch h)
    ·refine Zay ?_ ?_
     ·exact (fun h=>nomatch h)
     ·exact (fun h=>nomatch h)
    ·refine Zay ?_ ?_
     ·exact (fun h=>nomatch h)
     ·exact (fun _ hm=>Nat.lt_irrefl _ (Nat.lt_of_lt_of_le (hO'4.ltAt 0 rfl _ (tch (v:=V.p r'1 0) (ZcR hm) rfl)) (Nat.le_add_right _ _)))
    ·refine Zay ?_ ?_
     ·exact (fun h=>nomatch h)
     ·exact (fun _ hm=>Nat.lt_irrefl _ (Nat.lt_of_lt_of_le (Nat.lt_of_lt_of_le (hO'4.lo _ (Rd.B s_z_At.rd hO'4.lo (Zp c'1) _ (ZdE (tch (v:=V.elt v_z_At i.toNat 0) (ZcR hm) rfl)))) hO'4.n) (Nat.le_add_right _ _)))
    ·refine Zay ?_ ?_
     ·exact (fun h=>nomatch h)
     ·exact (fun _ hm=>Nat.lt_irrefl _ (Nat.lt_of_lt_of_le (hO'4.ltAt 0 rfl _ (tch (v:=V.p r'1 0) (ZcR hm) rfl)) (Nat.le_add_right _ _)))
    ·refine Zay ?_ ?_
     ·exact (fun h=>nomatch h)
     ·exact (fun _ hm=>Nat.lt_irrefl _ (Nat.lt_of_lt_of_le (Nat.lt_of_lt_of_le (hO'4.lo _ (Rd.B s_z_At.rd hO'4.lo (Zp c'1) _ (ZdE (tch (v:=V.elt v_z_At i.toNat 0) (ZcR hm) rfl)))) hO'4.n) (Nat.le_add_right _ _)))
   refine Za (Zk (Zo (Zd (.b false) rfl (Zb (Za (Zk (Zk ?_)))))))
   refine Zo (Zd (.n 0) rfl (Zb (Za (Zaa ?_))))
   obtain ⟨o'3,ho'2,hp⟩:=Zt hp
   refine W.mono (Q:=fun e fr k=>match (generalizing:=false) o'3 with
     | (at_2,met1)=>e = (.exit 2)∧fr 1 = .n most∧fr 2 = .p r'1 0∧fr 6 = v'3∧fr 7 = .n i∧fr 8 = .p r'2 0∧fr 9 = .b met1∧Own B h k [zQ r'1 [v_z_At,v_z_Bits,v_z_Own],eSl Zl v'3 at_2,zQ r'2 (Zl.c (⟨(gi z.At i.toNat).tmod 8,((gi z.At i.toNat).tdiv 8).tmod 8⟩:Z5))]) ?_ ?_
   ·clear hp
    refine z9 (fun st fr k=>match st with | (met,k_)=>fr 1 = .n most∧fr 2 = .p r'1 0∧fr 6 = v'3∧fr 7 = .n i∧fr 8 = .p r'2 0∧fr 9 = .b met∧fr 10 = .n k_∧Own B h k [zQ r'1 [v_z_At,v_z_Bits,v_z_Own],eSl Zl v'3 at_,zQ r'2 (Zl.c (⟨(gi z.At i.toNat).tmod 8,((gi z.At i.toNat).tdiv 8).tmod 8⟩:Z5))]) ho'2 (s:=(false,0)) ⟨g'1_1,g'1_2,g'1_6,g'1_7,rfl,rfl,rfl,(hO'7.pick [0,1,2] rfl (by decide))⟩ ?_
    rintro ⟨met,k_⟩ q'4 k'8 ⟨q'4_1,q'4_2,q'4_6,q'4_7,q'4_8,q'4_9,q'4_10,hO'9⟩ o'4 hp
    dsimp only [ZF.s1] at hp
    refine Zk (Zk (Zo (Zd (.n k_) q'4_10 (Zd v'3 q'4_6 (Ze (Zah (hO'9.sl 1 rfl) rfl) (Ze (zG (a:=k_) (b:=(at_.length:Int)) rfl rfl) (Zb ?_)))))))
    refine Za ?_
    rcases Z2 hp with ⟨b'3,hp⟩ | ⟨b'3,hp⟩
    ·refine zO (t:=(decide (k_ < (at_.length:Int)))) rfl b'3 ?_
     refine zU (Za (Zk (Zaa (ZfJ ?_))))
     have hW:=hO'9.bump 10
     have hO'10:=hW
     refine Zao (.b met) q'4_9 (Zao (.b met) rfl ?_)
     obtain ⟨t,hv'1,hp⟩:=Zt hp
     refine Zbr 7 (fun fr' k'=>(k'8.bump 10) = k'∧fr' 61 = .b t∧fr' 1 = .n most∧fr' 10 = .n k_∧fr' 2 = .p r'1 0∧fr' 6 = v'3∧fr' 7 = .n i∧fr' 8 = .p r'2 0) ?_ ?_
     ·clear hp; rcases Z2 hv'1 with ⟨b'4,hp⟩ | ⟨b'4,hp⟩
      ·skip
       refine Z6 rfl b'4 (Z6 rfl b'4 (Z6 rfl b'4 (Z6 rfl b'4 (Z6 rfl b'4 (Z6 rfl b'4 (zb rfl (zg (t:=met) (v:=.b t) rfl b'4 (Eq.trans (b:=V.b true) rfl (congrArg V.b (Option.some.inj hp)))) (Zak ?_)))))))
       exact ⟨rfl,rfl,q'4_1,q'4_10,q'4_2,q'4_6,q'4_7,q'4_8⟩
      ·skip
       refine ZH rfl b'4 (Zao v'3 q'4_6 (ZH rfl b'4 (Zao (.n k_) q'4_10 (ZH rfl b'4 ?_))))
       obtain ⟨c'4,hp⟩:=Zj hp
       refine zb rfl (zz (E:=Zl) (z:=k_) (hO'10.sl 1 rfl) rfl rfl c'4) (ZH rfl b'4 (zb rfl (ZdX (E:=Zl) (hO'10.sl 1 rfl) rfl (Zp c'4)) (ZH rfl b'4 (zb rfl (Zaz (cs:=(Zl.c (⟨(gi z.At i.toNat).tmod 8,((gi z.At i.toNat).tdiv 8).tmod 8⟩:Z5))) (ws:=Zl.c (⟨(gi z.At i.toNat).tmod 8,((gi z.At i.toNat).tdiv 8).tmod 8⟩:Z5)) (hO'10.box 2 rfl) q'4_8 rfl) (ZH rfl b'4 (zb rfl (ZkT (as:=Zl.c (gi at_ k_.toNat)) (bs:=Zl.c (⟨(gi z.At i.toNat).tmod 8,((gi z.At i.toNat).tdiv 8).tmod 8⟩:Z5)) rfl rfl (Mu.Zl.same _ _)) (zb rfl (zc (t:=met) (v:=.b t) rfl b'4 (Eq.trans (b:=V.b (decide (gi at_ k_.toNat = (⟨(gi z.At i.toNat).tmod 8,((gi z.At i.toNat).tdiv 8).tmod 8⟩:Z5)))) rfl (congrArg V.b (Option.some.inj hp)))) ?_)))))))
       refine Zak ?_
       exact ⟨rfl,rfl,q'4_1,q'4_10,q'4_2,q'4_6,q'4_7,q'4_8⟩
     rintro frg'2 _ ⟨rfl,g'2_61,g'2_1,g'2_10,g'2_2,g'2_6,g'2_7,g'2_8⟩
     refine Zao (.b t) g'2_61 (Zak (Zac (Za (Zo (Zd (.n k_) g'2_10 ?_)))))
     obtain ⟨c'5,hp⟩:=Zj hp
     refine Ze (zp (a:=k_) (b:=1) rfl rfl c'5) (Zd (.n (k_ + 1)) rfl (Zb ?_))
     cases hp
     exact (Or.inl ⟨(t,k_ + 1),rfl,rfl,g'2_1,g'2_2,g'2_6,g'2_7,g'2_8,rfl,rfl,(hO'10.pick [0,1,2] rfl (by decide))⟩)
    ·refine zN (t:=(decide (k_ < (at_.length:Int)))) rfl b'3 ?_
     refine ZaT (zR ?_)
     cases hp
     refine (Or.inr ⟨(at_,met),rfl,(fun h=>nomatch h),(fun he=>?_)⟩)
     subst he; exact ⟨rfl,q'4_1,q'4_2,q'4_6,q'4_7,q'4_8,q'4_9,(hO'9.pick [0,1,2] rfl (by decide))⟩
   intro e'2 q'3 k'7 hJ'2
   obtain ⟨at_2,met1⟩:=o'3
   obtain ⟨rfl,q'3_1,q'3_2,q'3_6,q'3_7,q'3_8,q'3_9,hO'8⟩:=hJ'2
   refine Zaq (Za (Zk (Zo (Zd (.b met1) q'3_9 (Ze (ZcF (t:=met1) rfl) (Zb (Za ?_)))))))
   rcases Z2 hp with ⟨b'5,hp⟩ | ⟨b'5,hp⟩
   ·refine zO (t:=(!met1)) rfl b'5 ?_
    refine Zo (Zd v'3 q'3_6 (Ze (Zaz (cs:=(Zl.c (⟨(gi z.At i.toNat).tmod 8,((gi z.At i.toNat).tdiv 8).tmod 8⟩:Z5))) (ws:=Zl.c (⟨(gi z.At i.toNat).tmod 8,((gi z.At i.toNat).tdiv 8).tmod 8⟩:Z5)) (hO'8.box 2 rfl) q'3_8 rfl) (zy (hO'8.bsl (E:=Zl) (l:=[(⟨(gi z.At i.toNat).tmod 8,((gi z.At i.toNat).tdiv 8).tmod 8⟩:Z5)]) hO'8.fr (by rw [(zq (v:=.ag (Zl.c (⟨(gi z.At i.toNat).tmod 8,((gi z.At i.toNat).tdiv 8).tmod 8⟩:Z5))) rfl Za5)]; rfl) rfl) ?_)))
    rintro v'5 k'10 ⟨r'3,f'4,hW⟩
    have hO'11:=hW
    obtain ⟨c'6,hp⟩:=Zj hp
    refine zy (hO'11.app (E:=Zl) (bytes:=16) 1 hO'11.fr rfl (hO'11.sl 3 rfl:Sl Zl k'10 v'5 [(⟨(gi z.At i.toNat).tmod 8,((gi z.At i.toNat).tdiv 8).tmod 8⟩:Z5)]) rfl rfl (fun _=>rfl) c'6 (by decide)) ?_
    rintro v'6 k'11 ⟨f'5,hW⟩
    have hO'12:=hW
    refine Zd v'6 rfl (Zb (Zac (Za (Zo (Zd (.n i) q'3_7 ?_)))))
    obtain ⟨c'7,hp⟩:=Zj hp
    refine Ze (zp (a:=i) (b:=1) rfl rfl c'7) (Zd (.n (i + 1)) rfl (Zb ?_))
    cases hp
    exact (Or.inl ⟨(at_2++[(⟨(gi z.At i.toNat).tmod 8,((gi z.At i.toNat).tdiv 8).tmod 8⟩:Z5)],i + 1),rfl,rfl,v'6,q'3_1,q'3_2,rfl,rfl,(hO'12.pick [0,1] rfl (by decide))⟩)
   ·refine zN (t:=(!met1)) rfl b'5 ?_
    refine zU (Zac (Za (Zo (Zd (.n i) q'3_7 ?_))))
    obtain ⟨c'8,hp⟩:=Zj hp
    refine Ze (zp (a:=i) (b:=1) rfl rfl c'8) (Zd (.n (i + 1)) rfl (Zb ?_))
    cases hp
    exact (Or.inl ⟨(at_2,i + 1),rfl,rfl,v'3,q'3_1,q'3_2,q'3_6,rfl,(hO'8.pick [0,1] rfl (by decide))⟩)
  ·refine zN (t:=((decide (i < (z.At.length:Int))) && (decide ((at_.length:Int) < most)))) g'1_28 b'2 ?_
   refine ZaT (zR ?_)
   cases hp
   refine (Or.inr ⟨at_,rfl,(fun h=>nomatch h),(fun he=>?_)⟩)
   subst he; exact ⟨rfl,v'3,g'1_2,g'1_6,(hO'4.pick [0,1] rfl (by decide))⟩
 intro e'1 q'1 k'2 hJ'1
 obtain ⟨at_1,rfl⟩:∃ x,x = o'1:=⟨_,rfl⟩
 obtain ⟨rfl,v'4,q'1_2,q'1_6,hO'2⟩:=hJ'1
 refine Zaq (Za (Zk (Zo (Zd v'4 q'1_6 (Ze (Zah (hO'2.sl 1 rfl) rfl) ?_)))))
 obtain ⟨x,hx'1,hp⟩:=Zt hp
 obtain ⟨u'1,k'12,ca'1,v'7,rfl,hW'1⟩:=ZE.ok (h:=k'2)   hx'1
 refine Za3 (id:=46) (caps:=[]) rfl (Z3 (v:=.n (at_1.length:Int)) rfl zn) ca'1 ?_
 have hO'13:=hO'2.call hW'1 rfl
 refine Zd v'7 rfl (Zb (Za (Zk (Zk (Zo (Zd (.n 0) rfl (Zb ?_)))))))
 refine Za (Zaa ?_)
 obtain ⟨o'5,ho'3,hp⟩:=Zt hp
 refine W.mono (Q:=fun e fr k=>match (generalizing:=false) o'5 with
   | (at_4,l1)=>e = (.exit 4)∧∃ (v'9:V),fr 6 = v'4∧fr 11 = v'9∧Own B h k [eSl Zl v'4 at_4,eSl Zf v'9 l1]) ?_ ?_
 ·clear hp
  refine z9 (fun st fr k=>match st with | (at_3,l,i1)=>∃ (v'8:V),fr 2 = .p r'1 0∧fr 6 = v'4∧fr 11 = v'8∧fr 12 = .n i1∧Own B h k [zQ r'1 [v_z_At,v_z_Bits,v_z_Own],eSl Zl v'4 at_3,eSl Zf v'8 l]) ho'3 (s:=(at_1,x,0)) ⟨v'7,q'1_2,q'1_6,rfl,rfl,(hO'13.pick [0,1,2] rfl (by decide))⟩ ?_
  rintro ⟨at_3,l,i1⟩ q'6 k'14 ⟨v'8,q'6_2,q'6_6,q'6_11,q'6_12,hO'15⟩ o'6 hp
  dsimp only [ZF.s2] at hp
  refine Zk (Zk (Zo (Zd (.n i1) q'6_12 (Zd v'4 q'6_6 (Ze (Zah (hO'15.sl 1 rfl) rfl) (Ze (zG (a:=i1) (b:=(at_3.length:Int)) rfl rfl) (Zb ?_)))))))
  refine Za ?_
  rcases Z2 hp with ⟨b'6,hp⟩ | ⟨b'6,hp⟩
  ·refine zO (t:=(decide (i1 < (at_3.length:Int)))) rfl b'6 ?_
   refine zU (Za (Zk (Zaa (Zk (Zo (Zd (.i .u8 3) rfl (Zb ?_)))))))
   refine Za (Zk (Zk (Zo (Zd (.n i1) q'6_12 (Ze (z6 (r:=r'1) (o:=0) (o':=1) q'6_2 rfl) (Ze (zi (cs:=[v_z_At,v_z_Bits,v_z_Own]) (v:=v_z_Bits) (hO'15.box 0 rfl) rfl rfl) (Ze (Zah (hO'15.rd0 s_z_Bits.rd) rfl) ?_)))))))
   refine Ze (zG (a:=i1) (b:=(z.Bits.length:Int)) rfl rfl) (Zb (Za ?_))
   obtain ⟨o'7,ho'4,hp⟩:=Zt hp
   refine W.mono (Q:=fun e fr k=>match (generalizing:=false) o'7 with
     | (at_5,l2,bits)=>e = .normal∧fr 2 = .p r'1 0∧fr 6 = v'4∧fr 11 = v'8∧fr 12 = .n i1∧fr 13 = .i .u8 bits∧Own B h k [zQ r'1 [v_z_At,v_z_Bits,v_z_Own],eSl Zl v'4 at_5,eSl Zf v'8 l2]) ?_ ?_
   ·clear hp; have hp:=ho'4; clear ho'4
    rcases Z2 hp with ⟨b'7,hp⟩ | ⟨b'7,hp⟩
    ·refine zO (t:=(decide (i1 < (z.Bits.length:Int)))) rfl b'7 ?_
     refine Zo (Ze (z6 (r:=r'1) (o:=0) (o':=1) q'6_2 rfl) (Ze (zi (cs:=[v_z_At,v_z_Bits,v_z_Own]) (v:=v_z_Bits) (hO'15.box 0 rfl) rfl rfl) (Zd (.n i1) q'6_12 ?_)))
     obtain ⟨c'9,hp⟩:=Zj hp
     refine Ze (zz (E:=Zd8) (z:=i1) (hO'15.rd0 s_z_Bits.rd) rfl rfl c'9) (Ze (zS (w:=.i .u8 (gi z.Bits i1.toNat)) (hO'15.rd0 s_z_Bits.rd) rfl (Zp c'9) rfl) (Zd (.i .u8 (gi z.Bits i1.toNat)) rfl (Zb ?_)))
     cases hp
     exact ⟨rfl,q'6_2,q'6_6,q'6_11,q'6_12,rfl,(hO'15.pick [0,1,2] rfl (by decide))⟩
    ·refine zN (t:=(decide (i1 < (z.Bits.length:Int)))) rfl b'7 ?_
     refine zU ?_
     cases hp
     exact ⟨rfl,q'6_2,q'6_6,q'6_11,q'6_12,rfl,(hO'15.pick [0,1,2] rfl (by decide))⟩
   intro e'4 q'7 k'15 hJ'4
   obtain ⟨at_5,l2,bits⟩:=o'7
   obtain ⟨rfl,q'7_2,q'7_6,q'7_11,q'7_12,q'7_13,hO'16⟩:=hJ'4
   refine Za (Zk (Zo (Zd (.n i1) q'7_12 (Zd (.n i1) rfl (Zb (Za (Zk ?_)))))))
   refine Zk (Zo (Zd (.n i1) q'7_12 (Ze (z6 (r:=r'1) (o:=0) (o':=2) q'7_2 rfl) (Ze (zi (cs:=[v_z_At,v_z_Bits,v_z_Own]) (v:=v_z_Own) (hO'16.box 0 rfl) rfl rfl) (Ze (Zah (hO'16.rd0 s_z_Own.rd) rfl) (Ze (zG (a:=i1) (b:=(z.Own.length:Int)) rfl rfl) (Zb ?_)))))))
   refine Za ?_
   obtain ⟨o'8,ho'5,hp⟩:=Zt hp
   refine W.mono (Q:=fun e fr k=>match (generalizing:=false) o'8 with
     | (at_6,l3,own)=>e = .normal∧fr 2 = .p r'1 0∧fr 6 = v'4∧fr 11 = v'8∧fr 12 = .n i1∧fr 13 = .i .u8 bits∧fr 14 = .n own∧Own B h k [zQ r'1 [v_z_At,v_z_Bits,v_z_Own],eSl Zl v'4 at_6,eSl Zf v'8 l3]) ?_ ?_
   ·clear hp; have hp:=ho'5; clear ho'5
    rcases Z2 hp with ⟨b'8,hp⟩ | ⟨b'8,hp⟩
    ·refine zO (t:=(decide (i1 < (z.Own.length:Int)))) rfl b'8 ?_
     refine Zk (Zo (Ze (z6 (r:=r'1) (o:=0) (o':=2) q'7_2 rfl) (Ze (zi (cs:=[v_z_At,v_z_Bits,v_z_Own]) (v:=v_z_Own) (hO'16.box 0 rfl) rfl rfl) (Zd (.n i1) q'7_12 ?_))))
     obtain ⟨c'10,hp⟩:=Zj hp
     refine Ze (zz (E:=ZgA) (z:=i1) (hO'16.rd0 s_z_Own.rd) rfl rfl c'10) (Ze (zS (w:=.i .i8 (gi z.Own i1.toNat)) (hO'16.rd0 s_z_Own.rd) rfl (Zp c'10) rfl) ?_)
     obtain ⟨c'11,hp⟩:=Zj hp
     refine Ze (ZcU (a:=(gi z.Own i1.toNat)) rfl c'11) (Zd (.n (gi z.Own i1.toNat)) rfl (Zb (Za (Zk (Zo (Zd (.n (gi z.Own i1.toNat)) rfl (Ze (zG (a:=(gi z.Own i1.toNat)) (b:=(-2)) rfl rfl) ?_)))))))
     refine Zb (Za ?_)
     rcases Z2 hp with ⟨b'9,hp⟩ | ⟨b'9,hp⟩
     ·refine zO (t:=(decide ((gi z.Own i1.toNat) < (-2)))) rfl b'9 ?_
      refine Zo (Zd (.n (gi z.Own i1.toNat)) rfl ?_)
      obtain ⟨c'12,hp⟩:=Zj hp
      refine Ze (ZkV (a:=(gi z.Own i1.toNat)) rfl c'12) (Zd (.n (-(gi z.Own i1.toNat))) rfl (Zb ?_))
      cases hp
      exact ⟨rfl,q'7_2,q'7_6,q'7_11,q'7_12,q'7_13,rfl,(hO'16.pick [0,1,2] rfl (by decide))⟩
     ·refine zN (t:=(decide ((gi z.Own i1.toNat) < (-2)))) rfl b'9 ?_
      refine zU ?_
      cases hp
      exact ⟨rfl,q'7_2,q'7_6,q'7_11,q'7_12,q'7_13,rfl,(hO'16.pick [0,1,2] rfl (by decide))⟩
    ·refine zN (t:=(decide (i1 < (z.Own.length:Int)))) rfl b'8 ?_
     refine zU ?_
     cases hp
     exact ⟨rfl,q'7_2,q'7_6,q'7_11,q'7_12,q'7_13,rfl,(hO'16.pick [0,1,2] rfl (by decide))⟩
   intro e'5 q'8 k'16 hJ'5
   obtain ⟨at_6,l3,own⟩:=o'8
   obtain ⟨rfl,q'8_2,q'8_6,q'8_11,q'8_12,q'8_13,q'8_14,hO'17⟩:=hJ'5
   refine Za (Zk (Zo (Zd (.n 0) rfl (Zb (Za (Zaa ?_))))))
   obtain ⟨o'9,ho'6,hp⟩:=Zt hp
   refine W.mono (Q:=fun e fr k=>match (generalizing:=false) o'9 with
     | l5=>e = (.exit 6)∧∃ (v'11:V),fr 2 = .p r'1 0∧fr 6 = v'4∧fr 11 = v'11∧fr 12 = .n i1∧Own B h k [zQ r'1 [v_z_At,v_z_Bits,v_z_Own],eSl Zl v'4 at_6,eSl Zf v'11 l5]) ?_ ?_
   ·clear hp
    refine z9 (fun st fr k=>match st with | (l4,d)=>∃ (v'10:V),fr 2 = .p r'1 0∧fr 6 = v'4∧fr 11 = v'10∧fr 12 = .n i1∧fr 13 = .i .u8 bits∧fr 14 = .n own∧fr 15 = .n d∧Own B h k [zQ r'1 [v_z_At,v_z_Bits,v_z_Own],eSl Zl v'4 at_6,eSl Zf v'10 l4]) ho'6 (s:=(l3,0)) ⟨v'8,q'8_2,q'8_6,q'8_11,q'8_12,q'8_13,q'8_14,rfl,(hO'17.pick [0,1,2] rfl (by decide))⟩ ?_
    rintro ⟨l4,d⟩ q'10 k'18 ⟨v'10,q'10_2,q'10_6,q'10_11,q'10_12,q'10_13,q'10_14,q'10_15,hO'19⟩ o'10 hp
    dsimp only [ZF.s3] at hp
    refine Zk (Zk (Zo (Zd (.n d) q'10_15 (Ze (zG (a:=d) (b:=2) rfl rfl) (Zb (Za ?_))))))
    rcases Z2 hp with ⟨b'10,hp⟩ | ⟨b'10,hp⟩
    ·refine zO (t:=(decide (d < 2))) rfl b'10 ?_
     refine zU (Za (Zk (Zaa (Zk (Zo (Zd v'4 q'10_6 (Zd (.n i1) q'10_12 ?_)))))))
     refine Zd (.n d) q'10_15 ?_
     obtain ⟨x1,hx'2,hp⟩:=Zt hp
     obtain ⟨u'2,k'19,ca'2,rfl,hW'2⟩:=ZQ.ok (h:=k'18)  (hO'19.sl 1 rfl) hx'2
     refine Za3 (id:=63) (caps:=[]) rfl (Z3 (v:=v'4) rfl (Z3 (v:=.n i1) rfl (Z3 (v:=.n d) rfl zn))) ca'2 ?_
     have hO'20:=hO'19.call hW'2 rfl
     refine Zd (.n x1) rfl (Zb (Za (Zk (Zk (Zo (Zd (.i .u8 bits) q'10_13 (Zd (.n d) q'10_15 ?_)))))))
     obtain ⟨c'13,hp⟩:=Zj hp
     refine Ze (Zdj (a:=bits) (b:=d) (v:=.i .u8 (Z9 .u8 bits d)) rfl rfl (by decide) (Zck c'13)) (Ze (ZcP (a:=(Z9 .u8 bits d)) (b:=1) (v:=.i .u8 (Zx .u8 (Z9 .u8 bits d) 1)) rfl rfl (by decide) rfl) (Ze (ZaW (a:=(Zx .u8 (Z9 .u8 bits d) 1)) (b:=0) rfl rfl) (Zd (.b (decide (Zx .u8 (Z9 .u8 bits d) 1 = 0))) rfl ?_)))
     refine Zad 3 (fun fr' k'=>k'19 = k'∧fr' 119 = .b ((decide (Zx .u8 (Z9 .u8 bits d) 1 = 0)) || (decide (x1 < 0)))∧fr' 11 = v'10∧fr' 12 = .n i1∧fr' 13 = .i .u8 bits∧fr' 14 = .n own∧fr' 15 = .n d∧fr' 16 = .n x1∧fr' 2 = .p r'1 0∧fr' 6 = v'4) ?_ ?_
     ·rcases bc (decide (Zx .u8 (Z9 .u8 bits d) 1 = 0)) with b'11 | b'11
      ·skip
       refine Z4 rfl b'11 (Z4 rfl b'11 (Ze (zg (t:=(decide (Zx .u8 (Z9 .u8 bits d) 1 = 0))) (v:=.b ((decide (Zx .u8 (Z9 .u8 bits d) 1 = 0)) || (decide (x1 < 0)))) rfl b'11 (Eq.trans (b:=V.b true) rfl (Zbg b'11))) (Zb ?_)))
       exact ⟨rfl,rfl,q'10_11,q'10_12,q'10_13,q'10_14,q'10_15,rfl,q'10_2,q'10_6⟩
      ·skip
       refine ZB rfl b'11 (Zd (.n x1) rfl (ZB rfl b'11 (Ze (zG (a:=x1) (b:=0) rfl rfl) (Ze (zc (t:=(decide (Zx .u8 (Z9 .u8 bits d) 1 = 0))) (v:=.b ((decide (Zx .u8 (Z9 .u8 bits d) 1 = 0)) || (decide (x1 < 0)))) rfl b'11 (Eq.trans (b:=V.b (decide (x1 < 0))) rfl (Zb7 b'11))) (Zb ?_)))))
       exact ⟨rfl,rfl,q'10_11,q'10_12,q'10_13,q'10_14,q'10_15,rfl,q'10_2,q'10_6⟩
     rintro frg'3 _ ⟨rfl,g'3_119,g'3_11,g'3_12,g'3_13,g'3_14,g'3_15,g'3_16,g'3_2,g'3_6⟩
     refine Zb (Za ?_)
     rcases Z2 hp with ⟨b'12,hp⟩ | ⟨b'12,hp⟩
     ·refine zO (t:=((decide (Zx .u8 (Z9 .u8 bits d) 1 = 0)) || (decide (x1 < 0)))) g'3_119 b'12 ?_
      refine ZaT (zR (Zaq (Za (Zo (Zd (.n d) g'3_15 ?_)))))
      obtain ⟨c'14,hp⟩:=Zj hp
      refine Ze (zp (a:=d) (b:=1) rfl rfl c'14) (Zd (.n (d + 1)) rfl (Zb ?_))
      cases hp
      exact (Or.inl ⟨(l4,d + 1),rfl,rfl,v'10,g'3_2,g'3_6,g'3_11,g'3_12,g'3_13,g'3_14,rfl,(hO'20.pick [0,1,2] rfl (by decide))⟩)
     ·refine zN (t:=((decide (Zx .u8 (Z9 .u8 bits d) 1 = 0)) || (decide (x1 < 0)))) g'3_119 b'12 ?_
      refine zU (Za (Zk (Zo (Zd v'4 g'3_6 (Zd v'10 g'3_11 (Zd (.n i1) g'3_12 (Zd (.n x1) g'3_16 ?_)))))))
      obtain ⟨x2,hx'3,hp⟩:=Zt hp
      obtain ⟨u'3,k'20,ca'3,rfl,hW'3⟩:=ZP.ok (h:=k'19)  (hO'20.sl 1 rfl) (hO'20.sl 2 rfl) hx'3
      refine Za3 (id:=64) (caps:=[]) rfl (Z3 (v:=v'4) rfl (Z3 (v:=v'10) rfl (Z3 (v:=.n i1) rfl (Z3 (v:=.n x1) rfl zn)))) ca'3 ?_
      have hO'21:=hO'20.call hW'3 rfl
      refine Zd (.b x2) rfl (Zb (Za (Zk (Zo (Zd (.b x2) rfl (Ze (ZcF (t:=x2) rfl) (Zb ?_)))))))
      refine Za ?_
      rcases Z2 hp with ⟨b'13,hp⟩ | ⟨b'13,hp⟩
      ·refine zO (t:=(!x2)) rfl b'13 ?_
       refine Zo (Zd v'10 g'3_11 (Zd (.n i1) g'3_12 (Zd (.n d) g'3_15 (Zd (.n x1) g'3_16 (Zd (.n own) g'3_14 ?_)))))
       obtain ⟨x3,hx'4,hp⟩:=Zt hp
       obtain ⟨u'4,k'21,ca'4,v'12,rfl,hW'4⟩:=zK.ok (h:=k'20)  (hO'21.sl 2 rfl) hx'4
       refine Za3 (id:=65) (caps:=[]) rfl (Z3 (v:=v'10) rfl (Z3 (v:=.n i1) rfl (Z3 (v:=.n d) rfl (Z3 (v:=.n x1) rfl (Z3 (v:=.n own) rfl zn))))) ca'4 ?_
       have hO'22:=hO'21.call hW'4 rfl
       refine Zd v'12 rfl (Zb (Zac (Za (Zo (Zd (.n d) g'3_15 ?_)))))
       obtain ⟨c'15,hp⟩:=Zj hp
       refine Ze (zp (a:=d) (b:=1) rfl rfl c'15) (Zd (.n (d + 1)) rfl (Zb ?_))
       cases hp
       exact (Or.inl ⟨(x3,d + 1),rfl,rfl,v'12,g'3_2,g'3_6,rfl,g'3_12,g'3_13,g'3_14,rfl,(hO'22.pick [0,1,3] rfl (by decide))⟩)
      ·refine zN (t:=(!x2)) rfl b'13 ?_
       refine zU (Zac (Za (Zo (Zd (.n d) g'3_15 ?_))))
       obtain ⟨c'16,hp⟩:=Zj hp
       refine Ze (zp (a:=d) (b:=1) rfl rfl c'16) (Zd (.n (d + 1)) rfl (Zb ?_))
       cases hp
       exact (Or.inl ⟨(l4,d + 1),rfl,rfl,v'10,g'3_2,g'3_6,g'3_11,g'3_12,g'3_13,g'3_14,rfl,(hO'21.pick [0,1,2] rfl (by decide))⟩)
    ·refine zN (t:=(decide (d < 2))) rfl b'10 ?_
     refine ZaT (zR ?_)
     cases hp
     refine (Or.inr ⟨l4,rfl,(fun h=>nomatch h),(fun he=>?_)⟩)
     subst he; exact ⟨rfl,v'10,q'10_2,q'10_6,q'10_11,q'10_12,(hO'19.pick [0,1,2] rfl (by decide))⟩
   intro e'6 q'9 k'17 hJ'6
   obtain ⟨l5,rfl⟩:∃ x,x = o'9:=⟨_,rfl⟩
   obtain ⟨rfl,v'11,q'9_2,q'9_6,q'9_11,q'9_12,hO'18⟩:=hJ'6
   refine Zaq (Zac (Za (Zo (Zd (.n i1) q'9_12 ?_))))
   obtain ⟨c'17,hp⟩:=Zj hp
   refine Ze (zp (a:=i1) (b:=1) rfl rfl c'17) (Zd (.n (i1 + 1)) rfl (Zb ?_))
   cases hp
   exact (Or.inl ⟨(at_6,l5,i1 + 1),rfl,rfl,v'11,q'9_2,q'9_6,q'9_11,rfl,(hO'18.pick [0,1,2] rfl (by decide))⟩)
  ·refine zN (t:=(decide (i1 < (at_3.length:Int)))) rfl b'6 ?_
   refine ZaT (zR ?_)
   cases hp
   refine (Or.inr ⟨(at_3,l),rfl,(fun h=>nomatch h),(fun he=>?_)⟩)
   subst he; exact ⟨rfl,v'8,q'6_6,q'6_11,(hO'15.pick [1,2] rfl (by decide))⟩
 intro e'3 q'5 k'13 hJ'3
 obtain ⟨at_4,l1⟩:=o'5
 obtain ⟨rfl,v'9,q'5_6,q'5_11,hO'14⟩:=hJ'3
 refine Zaq (Za (Zk (Zo (Zd v'9 q'5_11 (Zd v'4 q'5_6 (Zd v'9 rfl (Zd v'4 rfl ?_)))))))
 refine Zb (Za (Za2 (zW (Zax (n:=4) (v:=v'9) rfl (Zax (n:=5) (v:=v'4) rfl zx)) ?_)))
 cases hp
 exact ⟨v'9,v'4,rfl,(hO'14.pick [1,0] rfl (by decide))⟩

theorem ze.ok {h:Hp} {z:Zag} {most:Int} {v_z_Boxes:V} {v_z_Edges:V} {v_z_Bends:V} (s_z_Boxes:Sl e_bool h v_z_Boxes z.Boxes) (s_z_Edges:Sl Zc8 h v_z_Edges z.Edges) (s_z_Bends:Sl Zd8 h v_z_Bends z.Bends) {r:zk} (hp:ze z most = some r) :
  ∃ u k',Is G 171 [.ag [v_z_Boxes,v_z_Edges,v_z_Bends],.n most] h u k'∧∃ (v'1:V),∃ (v'2:V),V.ag [v'1,v'2] = u∧Own (fun r=>r < h.n) h k' [eSl e_bool v'1 r.Boxes,eSl Zr v'2 r.Edges]:=by
 refine WC.is (ZaM Zco ?_)
 unfold ze at hp
 let B:Nat→Prop:=(fun r=>r < h.n)
 have hO:Own B h h []:=Own.start0 h
 refine Zk (Zo (zy (hO.boxd (v:=.ag [v_z_Boxes,v_z_Edges,v_z_Bends]) (cs:=[v_z_Boxes,v_z_Edges,v_z_Bends]) hO.fr rfl rfl) ?_))
 rintro _ k'1 ⟨r'1,rfl,n'1,f'1,hW⟩
 have hO'1:=hW
 refine zy (hO'1.alloc (cs:=[.sn,.sn]) hO'1.fr) ?_
 rintro _ k'2 ⟨r'2,rfl,n'2,f'2,hW⟩
 have hO'2:=hW
 refine Zb (Za (Zk (Zo (Ze (Zcl (cs:=[.sn,.sn]) (by rw [Za5]; simp [fill,over,Zhl,Zhj,Zhk,Zhn,Zhi,Zhm,(Sl.nil:Sl e_bool k'2 .sn ([]:List Bool)).cells,(Sl.nil:Sl Zr k'2 .sn ([]:List z8)).cells])) (zy (hO'2.alloc (cs:=[.sn,.sn]) hO'2.fr) ?_)))))
 rintro _ k'3 ⟨r'3,rfl,n'3,f'3,hW⟩
 have hO'3:=hW
 refine zy (hO'3.stb (ws:=[.sn,.sn]) (cs':=[.sn,.sn]) (v:=.ag [.sn,.sn]) 2 rfl rfl rfl rfl ⟨rfl,Nat.le_of_ble_eq_true rfl,(all_cons (Sl.nil:Sl e_bool k'3 .sn ([]:List Bool)).oneV (all_cons (Sl.nil:Sl Zr k'3 .sn ([]:List z8)).oneV all_nil))⟩ rfl) ?_
 rintro _ k'4 ⟨rfl,f'4,m'1,hW⟩
 have hO'4:=hW
 refine Zb (Za (Zk (Zk (Zo (Zd (.n 0) rfl (Zb (Za ?_)))))))
 refine Zaa ?_
 obtain ⟨o'1,ho'1,hp⟩:=Zt hp
 refine W.mono (Q:=fun e fr k=>match (generalizing:=false) o'1 with
   | s1=>e = (.exit 0)∧∃ (v'4:V),fr 1 = .n most∧fr 2 = .p r'1 0∧fr 4 = .p r'2 0∧fr 5 = .p r'3 0∧Own B h k [zQ r'1 [v_z_Boxes,v_z_Edges,v_z_Bends],zQ r'2 [.sn,.sn],zQ r'3 [v'4,.sn],eSl e_bool v'4 s1]) ?_ ?_
 ·clear hp
  have hO'6:=hO'4.nil e_bool
  refine z9 (fun st fr k=>match st with | (s,i)=>∃ (v'3:V),fr 1 = .n most∧fr 2 = .p r'1 0∧fr 4 = .p r'2 0∧fr 5 = .p r'3 0∧fr 6 = .n i∧Own B h k [zQ r'1 [v_z_Boxes,v_z_Edges,v_z_Bends],zQ r'2 [.sn,.sn],zQ r'3 [v'3,.sn],eSl e_bool v'3 s]) ho'1 (s:=(([]:List Bool),0)) ⟨V.sn,rfl,rfl,rfl,rfl,rfl,(hO'6.pick [0,1,2,3] rfl (by decide))⟩ ?_
  rintro ⟨s,i⟩ q'2 k'6 ⟨v'3,q'2_1,q'2_2,q'2_4,q'2_5,q'2_6,hO'7⟩ o'2 hp
  dsimp only [ze.s0] at hp
  refine Zk (Zk (Zo (Zd (.n i) q'2_6 (Ze (z6 (r:=r'1) (o:=0) (o':=0) q'2_2 rfl) (Ze (zi (cs:=[v_z_Boxes,v_z_Edges,v_z_Bends]) (v:=v_z_Boxes) (hO'7.box 0 rfl) rfl rfl) (Ze (Zah (hO'7.rd0 s_z_Boxes.rd) rfl) (Ze (zG (a:=i) (b:=(z.Boxes.length:Int)) rfl rfl) ?_)))))))
  refine Zd (.b (decide (i < (z.Boxes.length:Int)))) rfl ?_
  refine Zad 4 (fun fr' k'=>k'6 = k'∧fr' 20 = .b ((decide (i < (z.Boxes.length:Int))) && (decide (i < most)))∧fr' 1 = .n most∧fr' 2 = .p r'1 0∧fr' 4 = .p r'2 0∧fr' 5 = .p r'3 0∧fr' 6 = .n i) ?_ ?_
  ·rcases bc (decide (i < (z.Boxes.length:Int))) with b'1 | b'1
   ·skip
    refine ZB rfl b'1 (Zd (.n i) q'2_6 (ZB rfl b'1 (Zd (.n most) q'2_1 (ZB rfl b'1 (Ze (zG (a:=i) (b:=most) rfl rfl) (Ze (zg (t:=(decide (i < (z.Boxes.length:Int)))) (v:=.b ((decide (i < (z.Boxes.length:Int))) && (decide (i < most)))) rfl b'1 (Eq.trans (b:=V.b (decide (i < most))) rfl (ZbS b'1))) (Zb ?_)))))))
    exact ⟨rfl,rfl,q'2_1,q'2_2,q'2_4,q'2_5,q'2_6⟩
   ·skip
    refine Z4 rfl b'1 (Z4 rfl b'1 (Z4 rfl b'1 (Ze (zc (t:=(decide (i < (z.Boxes.length:Int)))) (v:=.b ((decide (i < (z.Boxes.length:Int))) && (decide (i < most)))) rfl b'1 (Eq.trans (b:=V.b false) rfl (Zbw b'1))) (Zb ?_))))
    exact ⟨rfl,rfl,q'2_1,q'2_2,q'2_4,q'2_5,q'2_6⟩
  rintro frg'1 _ ⟨rfl,g'1_20,g'1_1,g'1_2,g'1_4,g'1_5,g'1_6⟩
  refine Zb (Za ?_)
  rcases Z2 hp with ⟨b'2,hp⟩ | ⟨b'2,hp⟩
  ·refine zO (t:=((decide (i < (z.Boxes.length:Int))) && (decide (i < most)))) g'1_20 b'2 ?_
   refine zU (Za (Zk (Zaa (ZfI ?_))))
   have hW:=hO'7.bump 11
   have fr'1:=Fresh.start k'6 11
   have nb'1:∀ {i:Nat},h.n≤k'6.n + i:=Nat.le_trans hO'7.n (Nat.le_add_right _ _)
   have hO'8:=hW
   refine zP (z6 (r:=r'3) (o:=0) (o':=0) g'1_5 rfl) (zP (zi (cs:=[v'3,.sn]) (v:=v'3) (hO'8.box 2 rfl) rfl rfl) (zP (z6 (r:=r'1) (o:=0) (o':=0) g'1_2 rfl) (zP (zi (cs:=[v_z_Boxes,v_z_Edges,v_z_Bends]) (v:=v_z_Boxes) (hO'8.box 0 rfl) rfl rfl) (Zbn (.n i) g'1_6 ?_))))
   obtain ⟨c'1,hp⟩:=Zj hp
   refine zP (zz (E:=e_bool) (z:=i) (hO'8.rd0 s_z_Boxes.rd) rfl rfl c'1) (zP (zS (w:=.b (gi z.Boxes i.toNat)) (hO'8.rd0 s_z_Boxes.rd) rfl (Zp c'1) rfl) (Ze6 (hO'8.bsl (E:=e_bool) (l:=[gi z.Boxes i.toNat]) ⟨fr'1.m 7 (by decide) (by decide),nb'1⟩ (by rw [(zq (v:=.b (gi z.Boxes i.toNat)) rfl Za5)]; rfl) rfl) ?_))
   rintro v'5 k'8 z'1 ⟨r'4,f'5,hW⟩
   have fr'2:=fr'1.kept f'5 (by decide)
   have hO'9:=hW
   obtain ⟨c'2,hp⟩:=Zj hp
   refine Ze6 (hO'9.app (E:=e_bool) (bytes:=1) 3 ⟨fr'2.m 8 (by decide) (by decide),nb'1⟩ rfl (hO'9.sl 4 rfl) rfl rfl (fun _=>rfl) c'2 (by decide)) ?_
   rintro v'6 k'9 z'2 ⟨f'6,hW⟩
   have fr'3:=fr'2.kept f'6 (by decide)
   have hO'10:=hW
   refine zP (z6 (r:=r'3) (o:=0) (o':=0) g'1_5 rfl) (Ze6 (hO'10.stb (ws:=[v'6]) (cs':=[v'6,.sn]) (v:=v'6) 2 rfl rfl rfl (hO'10.sl 3 rfl:Sl e_bool k'9 v'6 (s++[gi z.Boxes i.toNat])).cells ⟨rfl,Nat.le_of_ble_eq_true rfl,(all_cons (hO'10.sl 3 rfl:Sl e_bool k'9 v'6 (s++[gi z.Boxes i.toNat])).oneV rfl)⟩ rfl) ?_)
   rintro _ k'10 z'3 ⟨rfl,f'7,m'2,hW⟩
   have fr'4:=fr'3.kept f'7 (by decide)
   have hO'11:=hW
   refine Zc1 ?_
   refine And.intro ?_ ?_
   ·intro q hq
    simp only [List.mem_cons,List.not_mem_nil,or_false] at hq
    rcases hq with rfl | rfl | rfl
    ·refine Zay ?_ ?_
     ·exact (fun h=>nomatch h)
     ·exact (fun h=>nomatch h)
    ·refine Zay ?_ ?_
     ·exact (fun h=>nomatch h)
     ·exact (fun h=>nomatch h)
    ·refine Zay ?_ ?_
     ·exact (fun h=>nomatch h)
     ·exact (fun _ hm=>Nat.lt_irrefl _ (Nat.lt_of_lt_of_le (hO'7.ltAt 2 rfl _ (tch (v:=V.p r'3 0) (ZcR hm) rfl)) (Nat.le_add_right _ _)))
   refine Zac (Za (Zo (Zd (.n i) g'1_6 ?_)))
   obtain ⟨c'3,hp⟩:=Zj hp
   refine Ze (zp (a:=i) (b:=1) rfl rfl c'3) (Zd (.n (i + 1)) rfl (Zb ?_))
   cases hp
   exact (Or.inl ⟨(s++[gi z.Boxes i.toNat],i + 1),rfl,rfl,v'6,g'1_1,g'1_2,g'1_4,g'1_5,rfl,(hO'11.pick [0,1,2,3] rfl (by decide))⟩)
  ·refine zN (t:=((decide (i < (z.Boxes.length:Int))) && (decide (i < most)))) g'1_20 b'2 ?_
   refine ZaT (zR ?_)
   cases hp
   refine (Or.inr ⟨s,rfl,(fun h=>nomatch h),(fun he=>?_)⟩)
   subst he; exact ⟨rfl,v'3,g'1_1,g'1_2,g'1_4,g'1_5,(hO'7.pick [0,1,2,3] rfl (by decide))⟩
 intro e'1 q'1 k'5 hJ'1
 obtain ⟨s1,rfl⟩:∃ x,x = o'1:=⟨_,rfl⟩
 obtain ⟨rfl,v'4,q'1_1,q'1_2,q'1_4,q'1_5,hO'5⟩:=hJ'1
 refine Zaq (Za (Zk (Zk (Zo (Zd (.n 0) rfl (Zb (Za ?_)))))))
 refine Zaa ?_
 obtain ⟨o'3,ho'2,hp⟩:=Zt hp
 refine W.mono (Q:=fun e fr k=>match (generalizing:=false) o'3 with
   | s3=>e = (.exit 2)∧∃ (v'8:V),fr 4 = .p r'2 0∧fr 5 = .p r'3 0∧Own B h k [zQ r'2 [.sn,.sn],zQ r'3 [v'4,v'8],eSl e_bool v'4 s1,eSl Zr v'8 s3]) ?_ ?_
 ·clear hp
  have hO'13:=hO'5.nil Zr
  refine z9 (fun st fr k=>match st with | (s2,i1)=>∃ (v'7:V),fr 1 = .n most∧fr 2 = .p r'1 0∧fr 4 = .p r'2 0∧fr 5 = .p r'3 0∧fr 7 = .n i1∧Own B h k [zQ r'1 [v_z_Boxes,v_z_Edges,v_z_Bends],zQ r'2 [.sn,.sn],zQ r'3 [v'4,v'7],eSl e_bool v'4 s1,eSl Zr v'7 s2]) ho'2 (s:=(([]:List z8),0)) ⟨V.sn,q'1_1,q'1_2,q'1_4,q'1_5,rfl,(hO'13.pick [0,1,2,3,4] rfl (by decide))⟩ ?_
  rintro ⟨s2,i1⟩ q'4 k'12 ⟨v'7,q'4_1,q'4_2,q'4_4,q'4_5,q'4_7,hO'14⟩ o'4 hp
  dsimp only [ze.s1] at hp
  refine Zk (Zk (Zo (Zd (.n i1) q'4_7 (Ze (z6 (r:=r'1) (o:=0) (o':=1) q'4_2 rfl) (Ze (zi (cs:=[v_z_Boxes,v_z_Edges,v_z_Bends]) (v:=v_z_Edges) (hO'14.box 0 rfl) rfl rfl) (Ze (Zah (hO'14.rd0 s_z_Edges.rd) rfl) (Ze (zG (a:=i1) (b:=(z.Edges.length:Int)) rfl rfl) ?_)))))))
  refine Zd (.b (decide (i1 < (z.Edges.length:Int)))) rfl ?_
  obtain ⟨t,hv'1,hp⟩:=Zt hp
  refine Zad 5 (fun fr' k'=>k'12 = k'∧fr' 43 = .b t∧fr' 1 = .n most∧fr' 2 = .p r'1 0∧fr' 4 = .p r'2 0∧fr' 5 = .p r'3 0∧fr' 7 = .n i1) ?_ ?_
  ·clear hp; rcases Z2 hv'1 with ⟨b'3,hp⟩ | ⟨b'3,hp⟩
   ·skip
    refine ZB rfl b'3 (Zd (.n i1) q'4_7 (ZB rfl b'3 (Zd (.n most) q'4_1 (ZB rfl b'3 ?_))))
    obtain ⟨c'4,hp⟩:=Zj hp
    refine Ze (ZeL (a:=2) (b:=most) rfl rfl c'4) (ZB rfl b'3 (Ze (zG (a:=i1) (b:=(2 * most)) rfl rfl) (Ze (zg (t:=(decide (i1 < (z.Edges.length:Int)))) (v:=.b t) rfl b'3 (Eq.trans (b:=V.b (decide (i1 < (2 * most)))) rfl (congrArg V.b (Option.some.inj hp)))) (Zb ?_))))
    exact ⟨rfl,rfl,q'4_1,q'4_2,q'4_4,q'4_5,q'4_7⟩
   ·skip
    refine Z4 rfl b'3 (Z4 rfl b'3 (Z4 rfl b'3 (Z4 rfl b'3 (Ze (zc (t:=(decide (i1 < (z.Edges.length:Int)))) (v:=.b t) rfl b'3 (Eq.trans (b:=V.b false) rfl (congrArg V.b (Option.some.inj hp)))) (Zb ?_)))))
    exact ⟨rfl,rfl,q'4_1,q'4_2,q'4_4,q'4_5,q'4_7⟩
  rintro frg'2 _ ⟨rfl,g'2_43,g'2_1,g'2_2,g'2_4,g'2_5,g'2_7⟩
  refine Zd (.b t) g'2_43 ?_
  refine Zad 5 (fun fr' k'=>k'12 = k'∧fr' 49 = .b (t && (decide (0 < (s1.length:Int))))∧fr' 1 = .n most∧fr' 2 = .p r'1 0∧fr' 4 = .p r'2 0∧fr' 5 = .p r'3 0∧fr' 7 = .n i1) ?_ ?_
  ·rcases bc t with b'4 | b'4
   ·skip
    refine ZB rfl b'4 (Ze (z6 (r:=r'3) (o:=0) (o':=0) g'2_5 rfl) (ZB rfl b'4 (Ze (zi (cs:=[v'4,v'7]) (v:=v'4) (hO'14.box 2 rfl) rfl rfl) (ZB rfl b'4 (Ze (Zah (hO'14.sl 3 rfl) rfl) (ZB rfl b'4 (Ze (ZcD (a:=(s1.length:Int)) (b:=0) rfl rfl) ?_)))))))
    refine Ze (zg (t:=t) (v:=.b (t && (decide (0 < (s1.length:Int))))) rfl b'4 (Eq.trans (b:=V.b (decide (0 < (s1.length:Int)))) rfl (ZbS b'4))) (Zb ?_)
    exact ⟨rfl,rfl,g'2_1,g'2_2,g'2_4,g'2_5,g'2_7⟩
   ·skip
    refine Z4 rfl b'4 (Z4 rfl b'4 (Z4 rfl b'4 (Z4 rfl b'4 (Ze (zc (t:=t) (v:=.b (t && (decide (0 < (s1.length:Int))))) rfl b'4 (Eq.trans (b:=V.b false) rfl (Zbw b'4))) (Zb ?_)))))
    exact ⟨rfl,rfl,g'2_1,g'2_2,g'2_4,g'2_5,g'2_7⟩
  rintro frg'3 _ ⟨rfl,g'3_49,g'3_1,g'3_2,g'3_4,g'3_5,g'3_7⟩
  refine Zb (Za ?_)
  rcases Z2 hp with ⟨b'5,hp⟩ | ⟨b'5,hp⟩
  ·refine zO (t:=(t && (decide (0 < (s1.length:Int))))) g'3_49 b'5 ?_
   refine zU (Za (Zk (Zaa (Zk (ZfI ?_)))))
   have hW:=hO'14.bump 33
   have fr'5:=Fresh.start k'12 33
   have nb'2:∀ {i:Nat},h.n≤k'12.n + i:=Nat.le_trans hO'14.n (Nat.le_add_right _ _)
   have hO'15:=hW
   refine zP (z6 (r:=r'1) (o:=0) (o':=1) g'3_2 rfl) (zP (zi (cs:=[v_z_Boxes,v_z_Edges,v_z_Bends]) (v:=v_z_Edges) (hO'15.box 0 rfl) rfl rfl) (Zbn (.n i1) g'3_7 ?_))
   obtain ⟨c'5,hp⟩:=Zj hp
   refine zP (zz (E:=Zc8) (z:=i1) (hO'15.rd0 s_z_Edges.rd) rfl rfl c'5) (zP (ZaU (off:=0) (off2:=0) (z:=0) (hO'15.rd0 s_z_Edges.rd) (Zp c'5) rfl rfl (by decide) rfl) (zP (zS (w:=.i .u8 ((gi z.Edges i1.toNat).get 0)) (hO'15.rd0 s_z_Edges.rd) rfl (Zp c'5) rfl) ?_))
   obtain ⟨c'6,hp⟩:=Zj hp
   refine zP (ZcU (a:=((gi z.Edges i1.toNat).get 0)) rfl c'6) (zP (z6 (r:=r'3) (o:=0) (o':=0) g'3_5 rfl) (zP (zi (cs:=[v'4,v'7]) (v:=v'4) (hO'15.box 2 rfl) rfl rfl) (zP (Zah (hO'15.sl 3 rfl) rfl) ?_)))
   obtain ⟨c'7,hp⟩:=Zj hp
   refine zP (ZbJ (a:=((gi z.Edges i1.toNat).get 0)) (b:=(s1.length:Int)) rfl rfl c'7) (zP (z6 (r:=r'1) (o:=0) (o':=1) g'3_2 rfl) (zP (zi (cs:=[v_z_Boxes,v_z_Edges,v_z_Bends]) (v:=v_z_Edges) (hO'15.box 0 rfl) rfl rfl) (Zbn (.n i1) g'3_7 (zP (zz (E:=Zc8) (z:=i1) (hO'15.rd0 s_z_Edges.rd) rfl rfl c'5) (zP (ZaU (off:=0) (off2:=1) (z:=1) (hO'15.rd0 s_z_Edges.rd) (Zp c'5) rfl rfl (by decide) rfl) (zP (zS (w:=.i .u8 ((gi z.Edges i1.toNat).get 1)) (hO'15.rd0 s_z_Edges.rd) rfl (Zp c'5) rfl) ?_))))))
   obtain ⟨c'8,hp⟩:=Zj hp
   refine zP (ZcU (a:=((gi z.Edges i1.toNat).get 1)) rfl c'8) (zP (z6 (r:=r'3) (o:=0) (o':=0) g'3_5 rfl) (zP (zi (cs:=[v'4,v'7]) (v:=v'4) (hO'15.box 2 rfl) rfl rfl) (zP (Zah (hO'15.sl 3 rfl) rfl) (zP (ZbJ (a:=((gi z.Edges i1.toNat).get 1)) (b:=(s1.length:Int)) rfl rfl c'7) (zP (z6 (r:=r'1) (o:=0) (o':=1) g'3_2 rfl) (zP (zi (cs:=[v_z_Boxes,v_z_Edges,v_z_Bends]) (v:=v_z_Edges) (hO'15.box 0 rfl) rfl rfl) (Zbn (.n i1) g'3_7 ?_)))))))
   refine zP (zz (E:=Zc8) (z:=i1) (hO'15.rd0 s_z_Edges.rd) rfl rfl c'5) (zP (ZaU (off:=0) (off2:=2) (z:=2) (hO'15.rd0 s_z_Edges.rd) (Zp c'5) rfl rfl (by decide) rfl) (zP (zS (w:=.i .u8 ((gi z.Edges i1.toNat).get 2)) (hO'15.rd0 s_z_Edges.rd) rfl (Zp c'5) rfl) ?_))
   obtain ⟨c'9,hp⟩:=Zj hp
   refine zP (ZcU (a:=((gi z.Edges i1.toNat).get 2)) rfl c'9) (zP (ZbJ (a:=((gi z.Edges i1.toNat).get 2)) (b:=4) rfl rfl (by decide)) (zP (Zcl (cs:=Zr.c (⟨((gi z.Edges i1.toNat).get 0).tmod (s1.length:Int),((gi z.Edges i1.toNat).get 1).tmod (s1.length:Int),((gi z.Edges i1.toNat).get 2).tmod 4,(⟨#[]⟩:ByteArray)⟩:z8)) (by rw [(zq (v:=.n (((gi z.Edges i1.toNat).get 0).tmod (s1.length:Int))) rfl (zq (v:=.n (((gi z.Edges i1.toNat).get 1).tmod (s1.length:Int))) rfl (zq (v:=.n (((gi z.Edges i1.toNat).get 2).tmod 4)) rfl Za5)))]; rfl)) (Ze6 (hO'15.alloc (cs:=Zr.c (⟨0,0,0,(⟨#[]⟩:ByteArray)⟩:z8)) ⟨fr'5.m 31 (by decide) (by decide),nb'2⟩) ?_)))
   rintro _ k'14 z'4 ⟨r'5,rfl,n'4,f'8,hW⟩
   have fr'6:=fr'5.kept f'8 (by decide)
   have hO'16:=hW
   refine Ze6 (hO'16.stb (ws:=Zr.c (⟨((gi z.Edges i1.toNat).get 0).tmod (s1.length:Int),((gi z.Edges i1.toNat).get 1).tmod (s1.length:Int),((gi z.Edges i1.toNat).get 2).tmod 4,(⟨#[]⟩:ByteArray)⟩:z8)) (cs':=Zr.c (⟨((gi z.Edges i1.toNat).get 0).tmod (s1.length:Int),((gi z.Edges i1.toNat).get 1).tmod (s1.length:Int),((gi z.Edges i1.toNat).get 2).tmod 4,(⟨#[]⟩:ByteArray)⟩:z8)) (v:=.ag (Zr.c (⟨((gi z.Edges i1.toNat).get 0).tmod (s1.length:Int),((gi z.Edges i1.toNat).get 1).tmod (s1.length:Int),((gi z.Edges i1.toNat).get 2).tmod 4,(⟨#[]⟩:ByteArray)⟩:z8))) 5 rfl rfl rfl rfl ⟨rfl,Nat.le_of_ble_eq_true rfl,rfl⟩ rfl) ?_
   rintro _ k'15 z'5 ⟨rfl,f'9,m'3,hW⟩
   have fr'7:=fr'6.kept f'9 (by decide)
   have hO'17:=hW
   refine Zc1 ?_
   refine And.intro ?_ ?_
   ·intro q hq
    simp only [List.mem_cons,List.not_mem_nil,or_false] at hq
    rcases hq with rfl | rfl | rfl | rfl | rfl | rfl | rfl | rfl | rfl | rfl | rfl | rfl | rfl | rfl | rfl | rfl | rfl | rfl | rfl | rfl | rfl | rfl | rfl | rfl | rfl | rfl | rfl | rfl | rfl | rfl | rfl | rfl | rfl
    ·refine Zay ?_ ?_
     ·exact (fun h=>nomatch h)
     ·exact (fun h=>nomatch h)
    ·refine Zay ?_ ?_
     ·exact (fun h=>nomatch h)
     ·exact (fun h=>nomatch h)
    ·refine Zay ?_ ?_
     ·exact (fun h=>nomatch h)
     ·exact (fun h=>nomatch h)
    ·refine Zay ?_ ?_
     ·exact (fun h=>nomatch h)
     ·exact (fun h=>nomatch h)
    ·refine Zay ?_ ?_
     ·exact (fun h=>nomatch h)
     ·exact (fun h=>nomatch h)
    ·refine Zay ?_ ?_
     ·exact (fun h=>nomatch h)
     ·exact (fun h=>nomatch h)
    ·refine Zay ?_ ?_
     ·exact (fun h=>nomatch h)
     ·exact (fun h=>nomatch h)
    ·refine Zay ?_ ?_
     ·exact (fun h=>nomatch h)
     ·exact (fun h=>nomatch h)
    ·refine Zay ?_ ?_
     ·exact (fun h=>nomatch h)
     ·exact (fun h=>nomatch h)
    ·refine Zay ?_ ?_
     ·exact (fun h=>nomatch h)
     ·exact (fun h=>nomatch h)
    ·refine Zay ?_ ?_
     ·exact (fun h=>nomatch h)
     ·exact (fun h=>nomatch h)
    ·refine Zay ?_ ?_
     ·exact (fun h=>nomatch h)
     ·exact (fun h=>nomatch h)
    ·refine Zay ?_ ?_
     ·exact (fun h=>nomatch h)
     ·exact (fun h=>nomatch h)
    ·refine Zay ?_ ?_
     ·exact (fun h=>nomatch h)
     ·exact (fun h=>nomatch h)
    ·refine Zay ?_ ?_
     ·exact (fun h=>nomatch h)
     ·exact (fun h=>nomatch h)
    ·refine Zay ?_ ?_
     ·exact (fun h=>nomatch h)
     ·exact (fun h=>nomatch h)
    ·refine Zay ?_ ?_
     ·exact (fun h=>nomatch h)
     ·exact (fun h=>nomatch h)
    ·refine Zay ?_ ?_
     ·exact (fun h=>nomatch h)
     ·exact (fun h=>nomatch h)
    ·refine Zay ?_ ?_
     ·exact (fun h=>nomatch h)
     ·exact (fun h=>nomatch h)
    ·refine Zay ?_ ?_
     ·exact (fun h=>nomatch h)
     ·exact (fun h=>nomatch h)
    ·refine Zay ?_ ?_
     ·exact (fun h=>nomatch h)
     ·exact (fun h=>nomatch h)
    ·refine Zay ?_ ?_
     ·exact (fun h=>nomatch h)
     ·exact (fun h=>nomatch h)
    ·refine Zay ?_ ?_
     ·exact (fun h=>nomatch h)
     ·exact (fun h=>nomatch h)
    ·refine Zay ?_ ?_
     ·exact (fun h=>nomatch h)
     ·exact (fun h=>nomatch h)
    ·refine Zay ?_ ?_
     ·exact (fun h=>nomatch h)
     ·exact (fun h=>nomatch h)
    ·refine Zay ?_ ?_
     ·exact (fun h=>nomatch h)
     ·exact (fun _ hm=>Nat.lt_irrefl _ (Nat.lt_of_lt_of_le (hO'14.ltAt 0 rfl _ (tch (v:=V.p r'1 1) (ZcR hm) rfl)) (Nat.le_add_right _ _)))
    ·refine Zay ?_ ?_
     ·exact (fun h=>nomatch h)
     ·exact (fun _ hm=>Nat.lt_irrefl _ (Nat.lt_of_lt_of_le (Nat.lt_of_lt_of_le (hO'14.lo _ (Rd.B s_z_Edges.rd hO'14.lo (Zp c'5) _ (ZdE (tch (v:=V.elt v_z_Edges i1.toNat 0) (ZcR hm) rfl)))) hO'14.n) (Nat.le_add_right _ _)))
    ·refine Zay ?_ ?_
     ·exact (fun h=>nomatch h)
     ·exact (fun _ hm=>Nat.lt_irrefl _ (Nat.lt_of_lt_of_le (hO'14.ltAt 2 rfl _ (tch (v:=V.p r'3 0) (ZcR hm) rfl)) (Nat.le_add_right _ _)))
    ·refine Zay ?_ ?_
     ·exact (fun h=>nomatch h)
     ·exact (fun _ hm=>Nat.lt_irrefl _ (Nat.lt_of_lt_of_le (hO'14.ltAt 0 rfl _ (tch (v:=V.p r'1 1) (ZcR hm) rfl)) (Nat.le_add_right _ _)))
    ·refine Zay ?_ ?_
     ·exact (fun h=>nomatch h)
     ·exact (fun _ hm=>Nat.lt_irrefl _ (Nat.lt_of_lt_of_le (Nat.lt_of_lt_of_le (hO'14.lo _ (Rd.B s_z_Edges.rd hO'14.lo (Zp c'5) _ (ZdE (tch (v:=V.elt v_z_Edges i1.toNat 1) (ZcR hm) rfl)))) hO'14.n) (Nat.le_add_right _ _)))
    ·refine Zay ?_ ?_
     ·exact (fun h=>nomatch h)
     ·exact (fun _ hm=>Nat.lt_irrefl _ (Nat.lt_of_lt_of_le (hO'14.ltAt 2 rfl _ (tch (v:=V.p r'3 0) (ZcR hm) rfl)) (Nat.le_add_right _ _)))
    ·refine Zay ?_ ?_
     ·exact (fun h=>nomatch h)
     ·exact (fun _ hm=>Nat.lt_irrefl _ (Nat.lt_of_lt_of_le (hO'14.ltAt 0 rfl _ (tch (v:=V.p r'1 1) (ZcR hm) rfl)) (Nat.le_add_right _ _)))
    ·refine Zay ?_ ?_
     ·exact (fun h=>nomatch h)
     ·exact (fun _ hm=>Nat.lt_irrefl _ (Nat.lt_of_lt_of_le (Nat.lt_of_lt_of_le (hO'14.lo _ (Rd.B s_z_Edges.rd hO'14.lo (Zp c'5) _ (ZdE (tch (v:=V.elt v_z_Edges i1.toNat 2) (ZcR hm) rfl)))) hO'14.n) (Nat.le_add_right _ _)))
   refine Za (Zk (Zk (Zo (Zd (.n i1) g'3_7 (Ze (z6 (r:=r'1) (o:=0) (o':=2) g'3_2 rfl) (Ze (zi (cs:=[v_z_Boxes,v_z_Edges,v_z_Bends]) (v:=v_z_Bends) (hO'17.box 0 rfl) rfl rfl) (Ze (Zah (hO'17.rd0 s_z_Bends.rd) rfl) ?_)))))))
   refine Ze (zG (a:=i1) (b:=(z.Bends.length:Int)) rfl rfl) (Zb (Za ?_))
   obtain ⟨o'5,ho'3,hp⟩:=Zt hp
   refine W.mono (Q:=fun e fr k=>match (generalizing:=false) o'5 with
     | e_=>e = .normal∧fr 1 = .n most∧fr 2 = .p r'1 0∧fr 4 = .p r'2 0∧fr 5 = .p r'3 0∧fr 7 = .n i1∧fr 8 = .p r'5 0∧Own B h k [zQ r'1 [v_z_Boxes,v_z_Edges,v_z_Bends],zQ r'2 [.sn,.sn],zQ r'3 [v'4,v'7],eSl e_bool v'4 s1,eSl Zr v'7 s2,zQ r'5 (Zr.c e_)]) ?_ ?_
   ·clear hp; have hp:=ho'3; clear ho'3
    rcases Z2 hp with ⟨b'6,hp⟩ | ⟨b'6,hp⟩
    ·refine zO (t:=(decide (i1 < (z.Bends.length:Int)))) rfl b'6 ?_
     refine Zk (Zo (Zd (.n 0) rfl (Zb (Za (Zaa ?_)))))
     obtain ⟨o'6,ho'4,hp⟩:=Zt hp
     refine W.mono (Q:=fun e fr k=>match (generalizing:=false) o'6 with
       | e_2=>e = (.exit 4)∧fr 1 = .n most∧fr 2 = .p r'1 0∧fr 4 = .p r'2 0∧fr 5 = .p r'3 0∧fr 7 = .n i1∧fr 8 = .p r'5 0∧Own B h k [zQ r'1 [v_z_Boxes,v_z_Edges,v_z_Bends],zQ r'2 [.sn,.sn],zQ r'3 [v'4,v'7],eSl e_bool v'4 s1,eSl Zr v'7 s2,zQ r'5 (Zr.c e_2)]) ?_ ?_
     ·clear hp
      refine z9 (fun st fr k=>match st with | (e_1,k_)=>fr 1 = .n most∧fr 2 = .p r'1 0∧fr 4 = .p r'2 0∧fr 5 = .p r'3 0∧fr 7 = .n i1∧fr 8 = .p r'5 0∧fr 9 = .n k_∧Own B h k [zQ r'1 [v_z_Boxes,v_z_Edges,v_z_Bends],zQ r'2 [.sn,.sn],zQ r'3 [v'4,v'7],eSl e_bool v'4 s1,eSl Zr v'7 s2,zQ r'5 (Zr.c e_1)]) ho'4 (s:=((⟨((gi z.Edges i1.toNat).get 0).tmod (s1.length:Int),((gi z.Edges i1.toNat).get 1).tmod (s1.length:Int),((gi z.Edges i1.toNat).get 2).tmod 4,(⟨#[]⟩:ByteArray)⟩:z8),0)) ⟨g'3_1,g'3_2,g'3_4,g'3_5,g'3_7,rfl,rfl,(hO'17.pick [0,1,2,3,4,5] rfl (by decide))⟩ ?_
      rintro ⟨e_1,k_⟩ q'7 k'18 ⟨q'7_1,q'7_2,q'7_4,q'7_5,q'7_7,q'7_8,q'7_9,hO'20⟩ o'7 hp
      dsimp only [ze.s2] at hp
      refine Zk (Zk (Zo (Zd (.n k_) q'7_9 (Ze (z6 (r:=r'1) (o:=0) (o':=2) q'7_2 rfl) (Ze (zi (cs:=[v_z_Boxes,v_z_Edges,v_z_Bends]) (v:=v_z_Bends) (hO'20.box 0 rfl) rfl rfl) (Zd (.n i1) q'7_7 ?_))))))
      obtain ⟨c'10,hp⟩:=Zj hp
      refine Ze (zz (E:=Zd8) (z:=i1) (hO'20.rd0 s_z_Bends.rd) rfl rfl c'10) (Ze (zS (w:=.i .u8 (gi z.Bends i1.toNat)) (hO'20.rd0 s_z_Bends.rd) rfl (Zp c'10) rfl) ?_)
      obtain ⟨c'11,hp⟩:=Zj hp
      refine Ze (ZcU (a:=(gi z.Bends i1.toNat)) rfl c'11) (Ze (ZbJ (a:=(gi z.Bends i1.toNat)) (b:=4) rfl rfl (by decide)) (Ze (zG (a:=k_) (b:=((gi z.Bends i1.toNat).tmod 4)) rfl rfl) (Zb (Za ?_))))
      rcases Z2 hp with ⟨b'7,hp⟩ | ⟨b'7,hp⟩
      ·refine zO (t:=(decide (k_ < ((gi z.Bends i1.toNat).tmod 4)))) rfl b'7 ?_
       refine zU (Za (Zk (Zaa (Zk (Zo (Ze (z6 (r:=r'1) (o:=0) (o':=2) q'7_2 rfl) (Ze (zi (cs:=[v_z_Boxes,v_z_Edges,v_z_Bends]) (v:=v_z_Bends) (hO'20.box 0 rfl) rfl rfl) ?_)))))))
       refine Zd (.n i1) q'7_7 (Ze (zz (E:=Zd8) (z:=i1) (hO'20.rd0 s_z_Bends.rd) rfl rfl c'10) (Ze (zS (w:=.i .u8 (gi z.Bends i1.toNat)) (hO'20.rd0 s_z_Bends.rd) rfl (Zp c'10) rfl) (Zd (.n k_) q'7_9 ?_)))
       obtain ⟨c'12,hp⟩:=Zj hp
       refine Ze (zp (a:=2) (b:=k_) rfl rfl c'12) ?_
       obtain ⟨c'13,hp⟩:=Zj hp
       refine Ze (Zdj (a:=(gi z.Bends i1.toNat)) (b:=(2 + k_)) (v:=.i .u8 (Z9 .u8 (gi z.Bends i1.toNat) (2 + k_))) rfl rfl (by decide) (Zck c'13)) (Ze (ZcP (a:=(Z9 .u8 (gi z.Bends i1.toNat) (2 + k_))) (b:=1) (v:=.i .u8 (Zx .u8 (Z9 .u8 (gi z.Bends i1.toNat) (2 + k_)) 1)) rfl rfl (by decide) rfl) (Ze (ZaW (a:=(Zx .u8 (Z9 .u8 (gi z.Bends i1.toNat) (2 + k_)) 1)) (b:=1) rfl rfl) (Zb (Za ?_))))
       rcases Z2 hp with ⟨b'8,hp⟩ | ⟨b'8,hp⟩
       ·refine zO (t:=(decide (Zx .u8 (Z9 .u8 (gi z.Bends i1.toNat) (2 + k_)) 1 = 1))) rfl b'8 ?_
        refine Zo (Ze (z6 (r:=r'5) (o:=0) (o':=3) q'7_8 rfl) (Ze (zi (cs:=(Zr.c e_1)) (v:=.s e_1.Bends) (hO'20.box 5 rfl) rfl rfl) ?_))
        obtain ⟨c'14,hp⟩:=Zj hp
        refine Ze (ZhU (a:=e_1.Bends) (b:=(⟨#[76]⟩:ByteArray)) rfl rfl c'14) (Ze (z6 (r:=r'5) (o:=0) (o':=3) q'7_8 rfl) (zy (hO'20.stb (ws:=[.s (e_1.Bends++(⟨#[76]⟩:ByteArray))]) (cs':=Zr.c ({ e_1 with Bends:=e_1.Bends++(⟨#[76]⟩:ByteArray) })) (v:=.s (e_1.Bends++(⟨#[76]⟩:ByteArray))) 5 rfl rfl rfl rfl ⟨rfl,Nat.le_of_ble_eq_true rfl,rfl⟩ rfl) ?_))
        rintro _ k'19 ⟨rfl,f'10,m'4,hW⟩
        have hO'21:=hW
        refine Zb (Zac (Za (Zo (Zd (.n k_) q'7_9 ?_))))
        obtain ⟨c'15,hp⟩:=Zj hp
        refine Ze (zp (a:=k_) (b:=1) rfl rfl c'15) (Zd (.n (k_ + 1)) rfl (Zb ?_))
        cases hp
        exact (Or.inl ⟨({ e_1 with Bends:=e_1.Bends++(⟨#[76]⟩:ByteArray) },k_ + 1),rfl,rfl,q'7_1,q'7_2,q'7_4,q'7_5,q'7_7,q'7_8,rfl,(hO'21.pick [0,1,2,3,4,5] rfl (by decide))⟩)
       ·refine zN (t:=(decide (Zx .u8 (Z9 .u8 (gi z.Bends i1.toNat) (2 + k_)) 1 = 1))) rfl b'8 ?_
        refine Zo (Ze (z6 (r:=r'5) (o:=0) (o':=3) q'7_8 rfl) (Ze (zi (cs:=(Zr.c e_1)) (v:=.s e_1.Bends) (hO'20.box 5 rfl) rfl rfl) ?_))
        obtain ⟨c'16,hp⟩:=Zj hp
        refine Ze (ZhU (a:=e_1.Bends) (b:=(⟨#[82]⟩:ByteArray)) rfl rfl c'16) (Ze (z6 (r:=r'5) (o:=0) (o':=3) q'7_8 rfl) (zy (hO'20.stb (ws:=[.s (e_1.Bends++(⟨#[82]⟩:ByteArray))]) (cs':=Zr.c ({ e_1 with Bends:=e_1.Bends++(⟨#[82]⟩:ByteArray) })) (v:=.s (e_1.Bends++(⟨#[82]⟩:ByteArray))) 5 rfl rfl rfl rfl ⟨rfl,Nat.le_of_ble_eq_true rfl,rfl⟩ rfl) ?_))
        rintro _ k'20 ⟨rfl,f'11,m'5,hW⟩
        have hO'22:=hW
        refine Zb (Zac (Za (Zo (Zd (.n k_) q'7_9 ?_))))
        obtain ⟨c'17,hp⟩:=Zj hp
        refine Ze (zp (a:=k_) (b:=1) rfl rfl c'17) (Zd (.n (k_ + 1)) rfl (Zb ?_))
        cases hp
        exact (Or.inl ⟨({ e_1 with Bends:=e_1.Bends++(⟨#[82]⟩:ByteArray) },k_ + 1),rfl,rfl,q'7_1,q'7_2,q'7_4,q'7_5,q'7_7,q'7_8,rfl,(hO'22.pick [0,1,2,3,4,5] rfl (by decide))⟩)
      ·refine zN (t:=(decide (k_ < ((gi z.Bends i1.toNat).tmod 4)))) rfl b'7 ?_
       refine ZaT (zR ?_)
       cases hp
       refine (Or.inr ⟨e_1,rfl,(fun h=>nomatch h),(fun he=>?_)⟩)
       subst he; exact ⟨rfl,q'7_1,q'7_2,q'7_4,q'7_5,q'7_7,q'7_8,(hO'20.pick [0,1,2,3,4,5] rfl (by decide))⟩
     intro e'4 q'6 k'17 hJ'4
     obtain ⟨e_2,rfl⟩:∃ x,x = o'6:=⟨_,rfl⟩
     obtain ⟨rfl,q'6_1,q'6_2,q'6_4,q'6_5,q'6_7,q'6_8,hO'19⟩:=hJ'4
     refine Zaq ?_
     cases hp
     exact ⟨rfl,q'6_1,q'6_2,q'6_4,q'6_5,q'6_7,q'6_8,(hO'19.pick [0,1,2,3,4,5] rfl (by decide))⟩
    ·refine zN (t:=(decide (i1 < (z.Bends.length:Int)))) rfl b'6 ?_
     refine zU ?_
     cases hp
     exact ⟨rfl,g'3_1,g'3_2,g'3_4,g'3_5,g'3_7,rfl,(hO'17.pick [0,1,2,3,4,5] rfl (by decide))⟩
   intro e'3 q'5 k'16 hJ'3
   obtain ⟨e_,rfl⟩:∃ x,x = o'5:=⟨_,rfl⟩
   obtain ⟨rfl,q'5_1,q'5_2,q'5_4,q'5_5,q'5_7,q'5_8,hO'18⟩:=hJ'3
   refine Za (Zo (Ze (z6 (r:=r'3) (o:=0) (o':=1) q'5_5 rfl) (Ze (zi (cs:=[v'4,v'7]) (v:=v'7) (hO'18.box 2 rfl) rfl rfl) (Ze (Zaz (cs:=(Zr.c e_)) (ws:=Zr.c e_) (hO'18.box 5 rfl) q'5_8 rfl) (zy (hO'18.bsl (E:=Zr) (l:=[e_]) hO'18.fr (by rw [(zq (v:=.ag (Zr.c e_)) rfl Za5)]; rfl) rfl) ?_)))))
   rintro v'9 k'21 ⟨r'6,f'12,hW⟩
   have hO'23:=hW
   obtain ⟨c'18,hp⟩:=Zj hp
   refine zy (hO'23.app (E:=Zr) (bytes:=40) 4 hO'23.fr rfl (hO'23.sl 6 rfl) rfl rfl (fun _=>rfl) c'18 (by decide)) ?_
   rintro v'10 k'22 ⟨f'13,hW⟩
   have hO'24:=hW
   refine Ze (z6 (r:=r'3) (o:=0) (o':=1) q'5_5 rfl) (zy (hO'24.stb (ws:=[v'10]) (cs':=[v'4,v'10]) (v:=v'10) 2 rfl rfl rfl (hO'24.sl 4 rfl).cells ⟨rfl,Nat.le_of_ble_eq_true rfl,(all_cons (hO'24.sl 4 rfl).oneV rfl)⟩ rfl) ?_)
   rintro _ k'23 ⟨rfl,f'14,m'6,hW⟩
   have hO'25:=hW
   refine Zb (Zac (Za (Zo (Zd (.n i1) q'5_7 ?_))))
   obtain ⟨c'19,hp⟩:=Zj hp
   refine Ze (zp (a:=i1) (b:=1) rfl rfl c'19) (Zd (.n (i1 + 1)) rfl (Zb ?_))
   cases hp
   exact (Or.inl ⟨(s2++[e_],i1 + 1),rfl,rfl,v'10,q'5_1,q'5_2,q'5_4,q'5_5,rfl,(hO'25.pick [0,1,2,3,4] rfl (by decide))⟩)
  ·refine zN (t:=(t && (decide (0 < (s1.length:Int))))) g'3_49 b'5 ?_
   refine ZaT (zR ?_)
   cases hp
   refine (Or.inr ⟨s2,rfl,(fun h=>nomatch h),(fun he=>?_)⟩)
   subst he; exact ⟨rfl,v'7,g'3_4,g'3_5,(hO'14.pick [1,2,3,4] rfl (by decide))⟩
 intro e'2 q'3 k'11 hJ'2
 obtain ⟨s3,rfl⟩:∃ x,x = o'3:=⟨_,rfl⟩
 obtain ⟨rfl,v'8,q'3_4,q'3_5,hO'12⟩:=hJ'2
 refine Zaq (Za (Zk (Zo (Ze (Zaz (cs:=[v'4,v'8]) (ws:=[v'4,v'8]) (hO'12.box 1 rfl) q'3_5 rfl) (zy (hO'12.stb (ws:=[v'4,v'8]) (cs':=[v'4,v'8]) (v:=.ag [v'4,v'8]) 0 rfl q'3_4 rfl rfl ⟨rfl,Nat.le_of_ble_eq_true rfl,(all_cons (hO'12.sl 2 rfl).oneV (all_cons (hO'12.sl 3 rfl).oneV all_nil))⟩ rfl) ?_)))))
 rintro _ k'24 ⟨rfl,f'15,m'7,hW⟩
 have hO'26:=hW
 refine Zb (Za (Za2 (zW (ZgP (n:=4) (v:=.ag [v'4,v'8]) (r:=r'2) q'3_4 (hO'26.box 0 rfl) rfl zx) ?_)))
 cases hp
 exact ⟨v'4,v'8,rfl,(hO'26.pick [2,3] rfl (by decide))⟩

theorem zM.ok {h:Hp} {s:ByteArray}   {r:Bool} (hp:zM s = some r) :
  ∃ u k',Is G 217 [.s s] h u k'∧V.b r = u∧Own (fun r=>r < h.n) h k' []:=by
 refine WC.is (ZaM Zca ?_)
 unfold zM at hp
 let B:Nat→Prop:=(fun r=>r < h.n)
 have hO:Own B h h []:=Own.start0 h
 refine Zk (Zo (Zd (.b false) rfl (Zb (Za (Zk (Zk (Zo ?_)))))))
 refine Zd (.n 0) rfl (Zb (Za (Zaa ?_)))
 obtain ⟨o'1,ho'1,hp⟩:=Zt hp
 refine W.mono (Q:=fun e fr k=>match (generalizing:=false) o'1 with
   | .inl _=>e = (.exit 0)∧Own B h k []
   | .inr _=>e = .ret∧fr 2 = .b false∧Own B h k []) ?_ ?_
 ·clear hp
  refine z9 (fun st fr k=>match st with | i=>fr 0 = .s s∧fr 3 = .n i∧Own B h k []) ho'1 (s:=0) ⟨rfl,rfl,(hO.pick [] rfl (by decide))⟩ ?_
  rintro i q'2 k'2 ⟨q'2_0,q'2_3,hO'2⟩ o'2 hp
  dsimp only [zM.s0] at hp
  refine Zk (Zk (Zo (Zd (.n i) q'2_3 (Zd (.s s) q'2_0 (Ze (ZeM (a:=s) rfl) (Ze (zG (a:=i) (b:=(s.size:Int)) rfl rfl) (Zb ?_)))))))
  refine Za ?_
  rcases Z2 hp with ⟨b'1,hp⟩ | ⟨b'1,hp⟩
  ·refine zO (t:=(decide (i < (s.size:Int)))) rfl b'1 ?_
   refine zU (Za (Zk (Zaa (Zk (Zo (Zd (.s s) q'2_0 (Zd (.n i) q'2_3 ?_)))))))
   obtain ⟨c'1,hp⟩:=Zj hp
   refine Ze (Zhd (a:=s) (z:=i) rfl rfl c'1) (Ze (ZcE (a:=(sAt s i.toNat)) (b:=76) rfl rfl) (Zd (.b (!(decide (sAt s i.toNat = 76)))) rfl ?_))
   refine Zad 5 (fun fr' k'=>k'2 = k'∧fr' 19 = .b ((!(decide (sAt s i.toNat = 76))) && (!(decide (sAt s i.toNat = 82))))∧fr' 0 = .s s∧fr' 3 = .n i) ?_ ?_
   ·rcases bc (!(decide (sAt s i.toNat = 76))) with b'2 | b'2
    ·skip
     refine ZB rfl b'2 (Zd (.s s) q'2_0 (ZB rfl b'2 (Zd (.n i) q'2_3 (ZB rfl b'2 (Ze (Zhd (a:=s) (z:=i) rfl rfl c'1) (ZB rfl b'2 (Ze (ZcE (a:=(sAt s i.toNat)) (b:=82) rfl rfl) ?_)))))))
     refine Ze (zg (t:=(!(decide (sAt s i.toNat = 76)))) (v:=.b ((!(decide (sAt s i.toNat = 76))) && (!(decide (sAt s i.toNat = 82))))) rfl b'2 (Eq.trans (b:=V.b (!(decide (sAt s i.toNat = 82)))) rfl (ZbS b'2))) (Zb ?_)
     exact ⟨rfl,rfl,q'2_0,q'2_3⟩
    ·skip
     refine Z4 rfl b'2 (Z4 rfl b'2 (Z4 rfl b'2 (Z4 rfl b'2 (Ze (zc (t:=(!(decide (sAt s i.toNat = 76)))) (v:=.b ((!(decide (sAt s i.toNat = 76))) && (!(decide (sAt s i.toNat = 82))))) rfl b'2 (Eq.trans (b:=V.b false) rfl (Zbw b'2))) (Zb ?_)))))
     exact ⟨rfl,rfl,q'2_0,q'2_3⟩
   rintro frg'1 _ ⟨rfl,g'1_19,g'1_0,g'1_3⟩
   refine Zb (Za ?_)
   rcases Z2 hp with ⟨b'3,hp⟩ | ⟨b'3,hp⟩
   ·refine zO (t:=((!(decide (sAt s i.toNat = 76))) && (!(decide (sAt s i.toNat = 82))))) g'1_19 b'3 ?_
    refine Zk (Zo (Zd (.b false) rfl (Zb (Za (Za2 (Zbh (Zaf ?_)))))))
    cases hp
    refine (Or.inr ⟨.inr (),rfl,(fun h=>nomatch h),(fun he=>?_)⟩)
    subst he; exact ⟨rfl,rfl,(hO'2.pick [] rfl (by decide))⟩
   ·refine zN (t:=((!(decide (sAt s i.toNat = 76))) && (!(decide (sAt s i.toNat = 82))))) g'1_19 b'3 ?_
    refine zU (Zac (Za (Zo (Zd (.n i) g'1_3 ?_))))
    obtain ⟨c'2,hp⟩:=Zj hp
    refine Ze (zp (a:=i) (b:=1) rfl rfl c'2) (Zd (.n (i + 1)) rfl (Zb ?_))
    cases hp
    exact (Or.inl ⟨i + 1,rfl,rfl,g'1_0,rfl,(hO'2.pick [] rfl (by decide))⟩)
  ·refine zN (t:=(decide (i < (s.size:Int)))) rfl b'1 ?_
   refine ZaT (zR ?_)
   cases hp
   refine (Or.inr ⟨.inl (),rfl,(fun h=>nomatch h),(fun he=>?_)⟩)
   subst he; exact ⟨rfl,(hO'2.pick [] rfl (by decide))⟩
 intro e'1 q'1 k'1 hJ'1
 rcases o'1 with _ | _
 ·obtain ⟨rfl,hO'1⟩:=hJ'1
  refine Zaq (Za (Zk (Zo (Zd (.b true) rfl (Zb (Za (Za2 ?_)))))))
  refine zW (Zax (n:=2) (v:=.b true) rfl zx) ?_
  cases hp
  exact ⟨rfl,(hO'1.pick [] rfl (by decide))⟩
 ·obtain ⟨rfl,q'1_2,hO'1⟩:=hJ'1
  refine Zbh (Zaf (zW (Zax (n:=2) (v:=.b false) q'1_2 zx) ?_))
  cases hp
  exact ⟨rfl,(hO'1.pick [] rfl (by decide))⟩

end Mu
