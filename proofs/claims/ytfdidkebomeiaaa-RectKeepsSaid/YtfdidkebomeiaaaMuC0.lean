/- The code comes to what was worked out. -/
import Derived.Test.YtfdidkebomeiaaaMuDf
import Derived.Test.YtfdidkebomeiaaaMuPa
set_option linter.unusedVariables false
set_option linter.unnecessarySimpa false
set_option linter.unusedSimpArgs false
set_option maxHeartbeats 2000000
set_option maxRecDepth 10000
namespace Mu
open Go (IntKind BinOp UnOp)
theorem zr {x:Za} {i:Int} (h:0≤i∧i < 4):(Ze.c x)[0 + i.toNat * 1]? = some (.n ((x.Next).get i)):=by
 rcases (show i = 0∨i = 1∨i = 2∨i = 3 by omega) with rfl | rfl | rfl | rfl <;> rfl
theorem Zch {x:Za} {i:Int} {w:Int} (h:0≤i∧i < 4):over (Ze.c x) (0 + i.toNat * 1) [.n w] = Ze.c ({ x with Next:=(x.Next).set i w }):=by
 rcases (show i = 0∨i = 1∨i = 2∨i = 3 by omega) with rfl | rfl | rfl | rfl <;> rfl
theorem Zbo {x:Za} {i:Int} (h:0≤i∧i < 4):(Ze.c x)[4 + i.toNat * 1]? = some (.n ((x.Owner).get i)):=by
 rcases (show i = 0∨i = 1∨i = 2∨i = 3 by omega) with rfl | rfl | rfl | rfl <;> rfl
theorem Zcr {x:Za} {i:Int} {w:Int} (h:0≤i∧i < 4):over (Ze.c x) (4 + i.toNat * 1) [.n w] = Ze.c ({ x with Owner:=(x.Owner).set i w }):=by
 rcases (show i = 0∨i = 1∨i = 2∨i = 3 by omega) with rfl | rfl | rfl | rfl <;> rfl
theorem Zo4 {x:A4 Int} {i:Int} (h:0≤i∧i < 4):(Zbl.c x)[0 + i.toNat * 1]? = some (.n ((x).get i)):=by
 rcases (show i = 0∨i = 1∨i = 2∨i = 3 by omega) with rfl | rfl | rfl | rfl <;> rfl
theorem Zgy {x:A4 Int} {i:Int} (h:0≤i∧i < 4):ZcK false (Zbl.c x) (i.toNat * 1) 1 = some (.n ((x).get i)):=by
 rcases (show i = 0∨i = 1∨i = 2∨i = 3 by omega) with rfl | rfl | rfl | rfl <;> rfl
theorem Zo5 {x:A4 Int} {i:Int} {w:Int} (h:0≤i∧i < 4):over (Zbl.c x) (0 + i.toNat * 1) [.n w] = Zbl.c ((x).set i w):=by
 rcases (show i = 0∨i = 1∨i = 2∨i = 3 by omega) with rfl | rfl | rfl | rfl <;> rfl
theorem Zll (cs:List Go.Value) (h:OkL [some .u8] cs):∃ x:Int,ZgK.c x = cs.map toV∧ZhH x:=by
 obtain ⟨n0,cs0,rfl,w0,h0⟩:=h.inv_i
 obtain rfl:=h0.inv_n
 exact ⟨n0,rfl,w0⟩
theorem ZnK (cs:List Go.Value) (h:OkL [some .i8] cs):∃ x:Int,Zjq.c x = cs.map toV∧ZjP x:=by
 obtain ⟨n0,cs0,rfl,w0,h0⟩:=h.inv_i
 obtain rfl:=h0.inv_n
 exact ⟨n0,rfl,w0⟩
theorem zw.ok {h:Hp} {n:Int}   {r:(List Za)} (hp:zw n = some r) :
  ∃ u k',Is G 46 [.n n] h u k'∧∃ (v'1:V),v'1 = u∧Own (fun r=>r < h.n) h k' [eSl Ze v'1 r]:=by
 refine WC.is (Za7 ZdY ?_)
 unfold zw at hp
 let B:Nat→Prop:=(fun r=>r < h.n)
 have hO:Own B h h []:=Own.start0 h
 refine Zi (Zl (Zd (.sn) rfl (Zc (Zb (Zi (Zl (Zd (.n n) rfl ?_)))))))
 obtain ⟨c'1,hp⟩:=Zn hp
 refine Za0 (hO.mks (E:=Ze) (y:=(⟨⟨0,0,0,0⟩,⟨0,0,0,0⟩⟩:Za)) (bytes:=64) (z:=n) hO.fr rfl rfl rfl c'1 (by decide)) ?_
 rintro v'2 k'1 ⟨r'1,f'1,hW⟩
 have hO'1:=hW
 refine Zd v'2 rfl (Zc (Zb (Zi (Zi (Zl (Zd (.n 0) rfl (Zc ?_)))))))
 refine Zb (Zay ?_)
 obtain ⟨o'1,ho'1,hp⟩:=Zq hp
 refine W.mono (Q:=fun e fr k=>match (generalizing:=false) o'1 with
   | l1=>e = (.exit 0)∧fr 3 = v'2∧Own B h k [eSl Ze v'2 l1]) ?_ ?_
 ·clear hp
  refine zU (fun st fr k=>match st with | (l,v)=>fr 0 = .n n∧fr 3 = v'2∧fr 4 = .n v∧Own B h k [eSl Ze v'2 l]) ho'1 (s:=(List.replicate n.toNat (⟨⟨0,0,0,0⟩,⟨0,0,0,0⟩⟩:Za),0)) ⟨rfl,rfl,rfl,(hO'1.pick [0] rfl (by decide))⟩ ?_
  rintro ⟨l,v⟩ q'2 k'3 ⟨q'2_0,q'2_3,q'2_4,hO'3⟩ o'2 hp
  dsimp only [zw.s0] at hp
  refine Zi (Zi (Zl (Zd (.n v) q'2_4 (Zd (.n n) q'2_0 (Zg (zO (a:=v) (b:=n) rfl rfl) (Zc (Zb ?_)))))))
  rcases Zt hp with ⟨b'1,hp⟩ | ⟨b'1,hp⟩
  ·refine zB (t:=(decide (v < n))) rfl b'1 ?_
   refine zC (Zb (Zi (Zay (Zi (Zl (Zd (.n 0) rfl (Zc ?_)))))))
   refine Zb (Zay ?_)
   obtain ⟨o'3,ho'2,hp⟩:=Zq hp
   refine W.mono (Q:=fun e fr k=>match (generalizing:=false) o'3 with
     | l3=>e = (.exit 2)∧fr 0 = .n n∧fr 3 = v'2∧fr 4 = .n v∧Own B h k [eSl Ze v'2 l3]) ?_ ?_
   ·clear hp
    refine zU (fun st fr k=>match st with | (l2,d)=>fr 0 = .n n∧fr 3 = v'2∧fr 4 = .n v∧fr 5 = .n d∧Own B h k [eSl Ze v'2 l2]) ho'2 (s:=(l,0)) ⟨q'2_0,q'2_3,q'2_4,rfl,(hO'3.pick [0] rfl (by decide))⟩ ?_
    rintro ⟨l2,d⟩ q'4 k'5 ⟨q'4_0,q'4_3,q'4_4,q'4_5,hO'5⟩ o'4 hp
    dsimp only [zw.s1] at hp
    refine Zi (Zi (Zl (Zd (.n d) q'4_5 (Zg (zO (a:=d) (b:=4) rfl rfl) (Zc (Zb ?_))))))
    rcases Zt hp with ⟨b'2,hp⟩ | ⟨b'2,hp⟩
    ·refine zB (t:=(decide (d < 4))) rfl b'2 ?_
     refine zC (Zb (Zi (Zay (Zl (Zd v'2 q'4_3 (Zd (.n v) q'4_4 (Zd (.n d) q'4_5 ?_)))))))
     obtain ⟨c'2,hp⟩:=Zn hp
     refine Zg (zt (E:=Ze) (z:=v) (hO'5.sl 0 rfl) rfl rfl c'2) (Zg (ZaO (off':=0) (off2:=0) (hO'5.sl 0 rfl) (Zj c'2) rfl rfl) ?_)
     obtain ⟨c'3,hp⟩:=Zn hp
     refine Zg (ZaZ (off:=0) (off2:=(0 + d.toNat * 1)) (z:=d) (hO'5.sl 0 rfl) (Zj c'2) rfl rfl c'3 rfl) (Za0 (hO'5.ste (E:=Ze) (y:=({ gi l2 v.toNat with Next:=((gi l2 v.toNat).Next).set d (-1) })) (ws:=[.n (-1)]) 0 rfl rfl (Zj c'2) rfl rfl ⟨rfl,(by have:=c'3; exact (show 0 + d.toNat * 1 + 1≤8 by omega)),rfl⟩ (Zch c'3)) ?_)
     rintro _ k'6 ⟨rfl,f'2,m'1,hW⟩
     have hO'6:=hW
     refine Zc (Zax (Zb (Zl (Zd (.n d) q'4_5 ?_))))
     obtain ⟨c'4,hp⟩:=Zn hp
     refine Zg (zD (a:=d) (b:=1) rfl rfl c'4) (Zd (.n (d + 1)) rfl (Zc ?_))
     cases hp
     exact (Or.inl ⟨(l2.set v.toNat ({ gi l2 v.toNat with Next:=((gi l2 v.toNat).Next).set d (-1) }),d + 1),rfl,rfl,q'4_0,q'4_3,q'4_4,rfl,(hO'6.pick [0] rfl (by decide))⟩)
    ·refine zz (t:=(decide (d < 4))) rfl b'2 ?_
     refine ZbM (Zak ?_)
     cases hp
     refine (Or.inr ⟨l2,rfl,(fun h=>nomatch h),(fun he=>?_)⟩)
     subst he; exact ⟨rfl,q'4_0,q'4_3,q'4_4,(hO'5.pick [0] rfl (by decide))⟩
   intro e'2 q'3 k'4 hJ'2
   obtain ⟨l3,rfl⟩:∃ x,x = o'3:=⟨_,rfl⟩
   obtain ⟨rfl,q'3_0,q'3_3,q'3_4,hO'4⟩:=hJ'2
   refine ZaN (Zax (Zb (Zl (Zd (.n v) q'3_4 ?_))))
   obtain ⟨c'5,hp⟩:=Zn hp
   refine Zg (zD (a:=v) (b:=1) rfl rfl c'5) (Zd (.n (v + 1)) rfl (Zc ?_))
   cases hp
   exact (Or.inl ⟨(l3,v + 1),rfl,rfl,q'3_0,q'3_3,rfl,(hO'4.pick [0] rfl (by decide))⟩)
  ·refine zz (t:=(decide (v < n))) rfl b'1 ?_
   refine ZbM (Zak ?_)
   cases hp
   refine (Or.inr ⟨l,rfl,(fun h=>nomatch h),(fun he=>?_)⟩)
   subst he; exact ⟨rfl,q'2_3,(hO'3.pick [0] rfl (by decide))⟩
 intro e'1 q'1 k'2 hJ'1
 obtain ⟨l1,rfl⟩:∃ x,x = o'1:=⟨_,rfl⟩
 obtain ⟨rfl,q'1_3,hO'2⟩:=hJ'1
 refine ZaN (Zb (Zi (Zl (Zd v'2 q'1_3 (Zd v'2 rfl (Zc (Zb ?_)))))))
 refine zL (zf (zl (n:=2) (v:=v'2) rfl ZD) ?_)
 cases hp
 exact ⟨v'2,rfl,(hO'2.pick [0] rfl (by decide))⟩

theorem ZX.ok {h:Hp} {at_:List Zv} {i:Int} {d:Int} {v_at_:V} (s_at_:Sl Zo h v_at_ at_) {r:Int} (hp:ZX at_ i d = some r) :
  ∃ u k',Is G 63 [v_at_,.n i,.n d] h u k'∧V.n r = u∧Own (fun r=>r < h.n) h k' []:=by
 refine WC.is (Za7 Zde ?_)
 unfold ZX at hp
 let B:Nat→Prop:=(fun r=>r < h.n)
 have hO:Own B h h []:=Own.start0 h
 refine Zi (Zl (Zd (.n 0) rfl (Zc (Zb (Zi (Zl (Zd (.n (-1)) rfl ?_)))))))
 refine Zc (Zb (Zi (Zi (Zl (Zd (.n 0) rfl (Zc (Zb ?_)))))))
 refine Zay ?_
 obtain ⟨o'1,ho'1,hp⟩:=Zq hp
 refine W.mono (Q:=fun e fr k=>match (generalizing:=false) o'1 with
   | best1=>e = (.exit 0)∧fr 7 = .n best1∧Own B h k []) ?_ ?_
 ·clear hp
  refine zU (fun st fr k=>match st with | (best,k_)=>fr 0 = v_at_∧fr 1 = .n i∧fr 2 = .n d∧fr 7 = .n best∧fr 8 = .n k_∧Own B h k []) ho'1 (s:=((-1),0)) ⟨rfl,rfl,rfl,rfl,rfl,(hO.pick [] rfl (by decide))⟩ ?_
  rintro ⟨best,k_⟩ q'2 k'2 ⟨q'2_0,q'2_1,q'2_2,q'2_7,q'2_8,hO'2⟩ o'2 hp
  dsimp only [ZX.s0] at hp
  refine Zi (Zi (Zl (Zd (.n k_) q'2_8 (Zd v_at_ q'2_0 (Zg (ZaC (hO'2.rd0 s_at_.rd) rfl) (Zg (zO (a:=k_) (b:=(at_.length:Int)) rfl rfl) (Zc ?_)))))))
  refine Zb ?_
  rcases Zt hp with ⟨b'1,hp⟩ | ⟨b'1,hp⟩
  ·refine zB (t:=(decide (k_ < (at_.length:Int)))) rfl b'1 ?_
   refine zC (Zb (Zi (Zay (Zi (Zi (ZgZ ?_))))))
   have hW:=hO'2.bump 45
   have hO'3:=hW
   refine Zah (.n d) q'2_2 (ZS rfl (ZbE (a:=d) (b:=0) rfl rfl) (Zah (.b (decide (d = 0))) rfl ?_))
   obtain ⟨t,hv'1,hp⟩:=Zq hp
   refine Zcd 12 (fun fr' k'=>(k'2.bump 45) = k'∧fr' 29 = .b t∧fr' 0 = v_at_∧fr' 1 = .n i∧fr' 2 = .n d∧fr' 7 = .n best∧fr' 8 = .n k_) ?_ ?_
   ·clear hp; rcases Zt hv'1 with ⟨b'2,hp⟩ | ⟨b'2,hp⟩
    ·skip
     refine Z8 rfl b'2 (Zah v_at_ q'2_0 (Z8 rfl b'2 (Zah (.n k_) q'2_8 (Z8 rfl b'2 ?_))))
     obtain ⟨c'1,hp⟩:=Zn hp
     refine ZS rfl (zt (E:=Zo) (z:=k_) (hO'3.rd0 s_at_.rd) rfl rfl c'1) (Z8 rfl b'2 (ZS rfl (ZaO (off':=0) (off2:=1) (hO'3.rd0 s_at_.rd) (Zj c'1) rfl rfl) (Z8 rfl b'2 (ZS rfl (zX (w:=.n ((gi at_ k_.toNat).Y)) (hO'3.rd0 s_at_.rd) rfl (Zj c'1) rfl) (Z8 rfl b'2 (Zah v_at_ q'2_0 (Z8 rfl b'2 ?_)))))))
     refine Zah (.n i) q'2_1 (Z8 rfl b'2 ?_)
     obtain ⟨c'2,hp⟩:=Zn hp
     refine ZS rfl (zt (E:=Zo) (z:=i) (hO'3.rd0 s_at_.rd) rfl rfl c'2) (Z8 rfl b'2 (ZS rfl (ZaO (off':=0) (off2:=1) (hO'3.rd0 s_at_.rd) (Zj c'2) rfl rfl) (Z8 rfl b'2 (ZS rfl (zX (w:=.n ((gi at_ i.toNat).Y)) (hO'3.rd0 s_at_.rd) rfl (Zj c'2) rfl) (Z8 rfl b'2 (ZS rfl (ZbE (a:=((gi at_ k_.toNat).Y)) (b:=((gi at_ i.toNat).Y)) rfl rfl) (ZS rfl (za (t:=(decide (d = 0))) (v:=.b t) rfl b'2 (Eq.trans (b:=V.b (decide ((gi at_ k_.toNat).Y = (gi at_ i.toNat).Y))) rfl (congrArg V.b (Option.some.inj hp)))) ?_)))))))
     refine Zaj ?_
     exact ⟨rfl,rfl,q'2_0,q'2_1,q'2_2,q'2_7,q'2_8⟩
    ·skip
     refine Z1 rfl b'2 (Z1 rfl b'2 (Z1 rfl b'2 (Z1 rfl b'2 (Z1 rfl b'2 (Z1 rfl b'2 (Z1 rfl b'2 (Z1 rfl b'2 ?_)))))))
     refine Z1 rfl b'2 (Z1 rfl b'2 (Z1 rfl b'2 (ZS rfl (ZU (t:=(decide (d = 0))) (v:=.b t) rfl b'2 (Eq.trans (b:=V.b false) rfl (congrArg V.b (Option.some.inj hp)))) (Zaj ?_))))
     exact ⟨rfl,rfl,q'2_0,q'2_1,q'2_2,q'2_7,q'2_8⟩
   rintro frg'1 _ ⟨rfl,g'1_29,g'1_0,g'1_1,g'1_2,g'1_7,g'1_8⟩
   refine Zah (.b t) g'1_29 ?_
   obtain ⟨t1,hv'2,hp⟩:=Zq hp
   refine Zcd 12 (fun fr' k'=>(k'2.bump 45) = k'∧fr' 42 = .b t1∧fr' 0 = v_at_∧fr' 1 = .n i∧fr' 2 = .n d∧fr' 7 = .n best∧fr' 8 = .n k_) ?_ ?_
   ·clear hp; rcases Zt hv'2 with ⟨b'3,hp⟩ | ⟨b'3,hp⟩
    ·skip
     refine Z8 rfl b'3 (Zah v_at_ g'1_0 (Z8 rfl b'3 (Zah (.n k_) g'1_8 (Z8 rfl b'3 ?_))))
     obtain ⟨c'3,hp⟩:=Zn hp
     refine ZS rfl (zt (E:=Zo) (z:=k_) (hO'3.rd0 s_at_.rd) rfl rfl c'3) (Z8 rfl b'3 (ZS rfl (ZaO (off':=0) (off2:=0) (hO'3.rd0 s_at_.rd) (Zj c'3) rfl rfl) (Z8 rfl b'3 (ZS rfl (zX (w:=.n ((gi at_ k_.toNat).X)) (hO'3.rd0 s_at_.rd) rfl (Zj c'3) rfl) (Z8 rfl b'3 (Zah v_at_ g'1_0 (Z8 rfl b'3 ?_)))))))
     refine Zah (.n i) g'1_1 (Z8 rfl b'3 ?_)
     obtain ⟨c'4,hp⟩:=Zn hp
     refine ZS rfl (zt (E:=Zo) (z:=i) (hO'3.rd0 s_at_.rd) rfl rfl c'4) (Z8 rfl b'3 (ZS rfl (ZaO (off':=0) (off2:=0) (hO'3.rd0 s_at_.rd) (Zj c'4) rfl rfl) (Z8 rfl b'3 (ZS rfl (zX (w:=.n ((gi at_ i.toNat).X)) (hO'3.rd0 s_at_.rd) rfl (Zj c'4) rfl) (Z8 rfl b'3 (ZS rfl (ZeF (a:=((gi at_ k_.toNat).X)) (b:=((gi at_ i.toNat).X)) rfl rfl) (ZS rfl (za (t:=t) (v:=.b t1) rfl b'3 (Eq.trans (b:=V.b (decide (((gi at_ i.toNat).X) < ((gi at_ k_.toNat).X)))) rfl (congrArg V.b (Option.some.inj hp)))) ?_)))))))
     refine Zaj ?_
     exact ⟨rfl,rfl,g'1_0,g'1_1,g'1_2,g'1_7,g'1_8⟩
    ·skip
     refine Z1 rfl b'3 (Z1 rfl b'3 (Z1 rfl b'3 (Z1 rfl b'3 (Z1 rfl b'3 (Z1 rfl b'3 (Z1 rfl b'3 (Z1 rfl b'3 ?_)))))))
     refine Z1 rfl b'3 (Z1 rfl b'3 (Z1 rfl b'3 (ZS rfl (ZU (t:=t) (v:=.b t1) rfl b'3 (Eq.trans (b:=V.b false) rfl (congrArg V.b (Option.some.inj hp)))) (Zaj ?_))))
     exact ⟨rfl,rfl,g'1_0,g'1_1,g'1_2,g'1_7,g'1_8⟩
   rintro frg'2 _ ⟨rfl,g'2_42,g'2_0,g'2_1,g'2_2,g'2_7,g'2_8⟩
   refine Zah (.b t1) g'2_42 ?_
   obtain ⟨t2,hv'3,hp⟩:=Zq hp
   refine Zcd 16 (fun fr' k'=>(k'2.bump 45) = k'∧fr' 59 = .b t2∧fr' 0 = v_at_∧fr' 1 = .n i∧fr' 2 = .n d∧fr' 7 = .n best∧fr' 8 = .n k_) ?_ ?_
   ·clear hp; rcases Zt hv'3 with ⟨b'4,hp⟩ | ⟨b'4,hp⟩
    ·skip
     refine Z8 rfl b'4 (Zah (.n best) g'2_7 (Z8 rfl b'4 (ZS rfl (zO (a:=best) (b:=0) rfl rfl) (Z8 rfl b'4 (Zah (.b (decide (best < 0))) rfl ?_)))))
     obtain ⟨t3,hv'4,hp⟩:=Zq hp
     refine Zcd 12 (fun fr' k'=>(k'2.bump 45) = k'∧fr' 58 = .b t3∧fr' 0 = v_at_∧fr' 1 = .n i∧fr' 2 = .n d∧fr' 43 = .b t1∧fr' 7 = .n best∧fr' 8 = .n k_) ?_ ?_
     ·clear hp; rcases Zt hv'4 with ⟨b'5,hp⟩ | ⟨b'5,hp⟩
      ·skip
       refine Z1 rfl b'5 (Z1 rfl b'5 (Z1 rfl b'5 (Z1 rfl b'5 (Z1 rfl b'5 (Z1 rfl b'5 (Z1 rfl b'5 (Z1 rfl b'5 ?_)))))))
       refine Z1 rfl b'5 (Z1 rfl b'5 (Z1 rfl b'5 (Z8 rfl b'4 (ZS rfl (za (t:=(decide (best < 0))) (v:=.b t3) rfl b'5 (Eq.trans (b:=V.b true) rfl (congrArg V.b (Option.some.inj hp)))) (Zaj ?_)))))
       exact ⟨rfl,rfl,g'2_0,g'2_1,g'2_2,rfl,g'2_7,g'2_8⟩
      ·skip
       refine Z8 rfl b'5 (Zah v_at_ g'2_0 (Z8 rfl b'5 (Zah (.n k_) g'2_8 (Z8 rfl b'5 ?_))))
       obtain ⟨c'5,hp⟩:=Zn hp
       refine ZS rfl (zt (E:=Zo) (z:=k_) (hO'3.rd0 s_at_.rd) rfl rfl c'5) (Z8 rfl b'5 (ZS rfl (ZaO (off':=0) (off2:=0) (hO'3.rd0 s_at_.rd) (Zj c'5) rfl rfl) (Z8 rfl b'5 (ZS rfl (zX (w:=.n ((gi at_ k_.toNat).X)) (hO'3.rd0 s_at_.rd) rfl (Zj c'5) rfl) (Z8 rfl b'5 (Zah v_at_ g'2_0 (Z8 rfl b'5 ?_)))))))
       refine Zah (.n best) g'2_7 (Z8 rfl b'5 ?_)
       obtain ⟨c'6,hp⟩:=Zn hp
       refine ZS rfl (zt (E:=Zo) (z:=best) (hO'3.rd0 s_at_.rd) rfl rfl c'6) (Z8 rfl b'5 (ZS rfl (ZaO (off':=0) (off2:=0) (hO'3.rd0 s_at_.rd) (Zj c'6) rfl rfl) (Z8 rfl b'5 (ZS rfl (zX (w:=.n ((gi at_ best.toNat).X)) (hO'3.rd0 s_at_.rd) rfl (Zj c'6) rfl) (Z8 rfl b'5 (ZS rfl (zO (a:=((gi at_ k_.toNat).X)) (b:=((gi at_ best.toNat).X)) rfl rfl) (Z8 rfl b'4 ?_)))))))
       refine ZS rfl (ZU (t:=(decide (best < 0))) (v:=.b t3) rfl b'5 (Eq.trans (b:=V.b (decide (((gi at_ k_.toNat).X) < ((gi at_ best.toNat).X)))) rfl (congrArg V.b (Option.some.inj hp)))) (Zaj ?_)
       exact ⟨rfl,rfl,g'2_0,g'2_1,g'2_2,rfl,g'2_7,g'2_8⟩
     rintro frg'3 _ ⟨rfl,g'3_58,g'3_0,g'3_1,g'3_2,g'3_43,g'3_7,g'3_8⟩
     refine ZS rfl (za (t:=t1) (v:=.b t2) g'3_43 b'4 (Eq.trans (b:=V.b t3) g'3_58 (congrArg V.b (Option.some.inj hp)))) (Zaj ?_)
     exact ⟨rfl,rfl,g'3_0,g'3_1,g'3_2,g'3_7,g'3_8⟩
    ·skip
     refine Z1 rfl b'4 (Z1 rfl b'4 (Z1 rfl b'4 (Zcw rfl (Zcw rfl (Zcw rfl (Zcw rfl (Zcw rfl ?_)))))))
     refine Zcw rfl (Zcw rfl (Zcw rfl (Zcw rfl (Zcw rfl (Zcw rfl (Z1 rfl b'4 (ZS rfl (ZU (t:=t1) (v:=.b t2) rfl b'4 (Eq.trans (b:=V.b false) rfl (congrArg V.b (Option.some.inj hp)))) ?_)))))))
     refine Zaj ?_
     exact ⟨rfl,rfl,g'2_0,g'2_1,g'2_2,g'2_7,g'2_8⟩
   rintro frg'4 _ ⟨rfl,g'4_59,g'4_0,g'4_1,g'4_2,g'4_7,g'4_8⟩
   refine Zaj (Zb ?_)
   obtain ⟨o'3,ho'2,hp⟩:=Zq hp
   refine W.mono (Q:=fun e fr k=>match (generalizing:=false) o'3 with
     | best2=>e = .normal∧fr 0 = v_at_∧fr 1 = .n i∧fr 2 = .n d∧fr 7 = .n best2∧fr 8 = .n k_∧Own B h k []) ?_ ?_
   ·clear hp; have hp:=ho'2; clear ho'2
    rcases Zt hp with ⟨b'6,hp⟩ | ⟨b'6,hp⟩
    ·refine zB (t:=t2) g'4_59 b'6 ?_
     refine Zl (Zd (.n k_) g'4_8 (Zd (.n k_) rfl (Zc ?_)))
     cases hp
     exact ⟨rfl,g'4_0,g'4_1,g'4_2,rfl,g'4_8,(hO'3.pick [] rfl (by decide))⟩
    ·refine zz (t:=t2) g'4_59 b'6 ?_
     refine zC ?_
     cases hp
     exact ⟨rfl,g'4_0,g'4_1,g'4_2,g'4_7,g'4_8,(hO'3.pick [] rfl (by decide))⟩
   intro e'2 q'3 k'4 hJ'2
   obtain ⟨best2,rfl⟩:∃ x,x = o'3:=⟨_,rfl⟩
   obtain ⟨rfl,q'3_0,q'3_1,q'3_2,q'3_7,q'3_8,hO'4⟩:=hJ'2
   refine Zb (Zi (ZgZ ?_))
   have hW:=hO'4.bump 45
   have hO'5:=hW
   refine Zah (.n d) q'3_2 (ZS rfl (ZbE (a:=d) (b:=1) rfl rfl) (Zah (.b (decide (d = 1))) rfl ?_))
   obtain ⟨t4,hv'5,hp⟩:=Zq hp
   refine Zcd 12 (fun fr' k'=>(k'4.bump 45) = k'∧fr' 75 = .b t4∧fr' 0 = v_at_∧fr' 1 = .n i∧fr' 2 = .n d∧fr' 7 = .n best2∧fr' 8 = .n k_) ?_ ?_
   ·clear hp; rcases Zt hv'5 with ⟨b'7,hp⟩ | ⟨b'7,hp⟩
    ·skip
     refine Z8 rfl b'7 (Zah v_at_ q'3_0 (Z8 rfl b'7 (Zah (.n k_) q'3_8 (Z8 rfl b'7 ?_))))
     obtain ⟨c'7,hp⟩:=Zn hp
     refine ZS rfl (zt (E:=Zo) (z:=k_) (hO'5.rd0 s_at_.rd) rfl rfl c'7) (Z8 rfl b'7 (ZS rfl (ZaO (off':=0) (off2:=0) (hO'5.rd0 s_at_.rd) (Zj c'7) rfl rfl) (Z8 rfl b'7 (ZS rfl (zX (w:=.n ((gi at_ k_.toNat).X)) (hO'5.rd0 s_at_.rd) rfl (Zj c'7) rfl) (Z8 rfl b'7 (Zah v_at_ q'3_0 (Z8 rfl b'7 ?_)))))))
     refine Zah (.n i) q'3_1 (Z8 rfl b'7 ?_)
     obtain ⟨c'8,hp⟩:=Zn hp
     refine ZS rfl (zt (E:=Zo) (z:=i) (hO'5.rd0 s_at_.rd) rfl rfl c'8) (Z8 rfl b'7 (ZS rfl (ZaO (off':=0) (off2:=0) (hO'5.rd0 s_at_.rd) (Zj c'8) rfl rfl) (Z8 rfl b'7 (ZS rfl (zX (w:=.n ((gi at_ i.toNat).X)) (hO'5.rd0 s_at_.rd) rfl (Zj c'8) rfl) (Z8 rfl b'7 (ZS rfl (ZbE (a:=((gi at_ k_.toNat).X)) (b:=((gi at_ i.toNat).X)) rfl rfl) (ZS rfl (za (t:=(decide (d = 1))) (v:=.b t4) rfl b'7 (Eq.trans (b:=V.b (decide ((gi at_ k_.toNat).X = (gi at_ i.toNat).X))) rfl (congrArg V.b (Option.some.inj hp)))) ?_)))))))
     refine Zaj ?_
     exact ⟨rfl,rfl,q'3_0,q'3_1,q'3_2,q'3_7,q'3_8⟩
    ·skip
     refine Z1 rfl b'7 (Z1 rfl b'7 (Z1 rfl b'7 (Z1 rfl b'7 (Z1 rfl b'7 (Z1 rfl b'7 (Z1 rfl b'7 (Z1 rfl b'7 ?_)))))))
     refine Z1 rfl b'7 (Z1 rfl b'7 (Z1 rfl b'7 (ZS rfl (ZU (t:=(decide (d = 1))) (v:=.b t4) rfl b'7 (Eq.trans (b:=V.b false) rfl (congrArg V.b (Option.some.inj hp)))) (Zaj ?_))))
     exact ⟨rfl,rfl,q'3_0,q'3_1,q'3_2,q'3_7,q'3_8⟩
   rintro frg'5 _ ⟨rfl,g'5_75,g'5_0,g'5_1,g'5_2,g'5_7,g'5_8⟩
   refine Zah (.b t4) g'5_75 ?_
   obtain ⟨t5,hv'6,hp⟩:=Zq hp
   refine Zcd 12 (fun fr' k'=>(k'4.bump 45) = k'∧fr' 88 = .b t5∧fr' 0 = v_at_∧fr' 1 = .n i∧fr' 2 = .n d∧fr' 7 = .n best2∧fr' 8 = .n k_) ?_ ?_
   ·clear hp; rcases Zt hv'6 with ⟨b'8,hp⟩ | ⟨b'8,hp⟩
    ·skip
     refine Z8 rfl b'8 (Zah v_at_ g'5_0 (Z8 rfl b'8 (Zah (.n k_) g'5_8 (Z8 rfl b'8 ?_))))
     obtain ⟨c'9,hp⟩:=Zn hp
     refine ZS rfl (zt (E:=Zo) (z:=k_) (hO'5.rd0 s_at_.rd) rfl rfl c'9) (Z8 rfl b'8 (ZS rfl (ZaO (off':=0) (off2:=1) (hO'5.rd0 s_at_.rd) (Zj c'9) rfl rfl) (Z8 rfl b'8 (ZS rfl (zX (w:=.n ((gi at_ k_.toNat).Y)) (hO'5.rd0 s_at_.rd) rfl (Zj c'9) rfl) (Z8 rfl b'8 (Zah v_at_ g'5_0 (Z8 rfl b'8 ?_)))))))
     refine Zah (.n i) g'5_1 (Z8 rfl b'8 ?_)
     obtain ⟨c'10,hp⟩:=Zn hp
     refine ZS rfl (zt (E:=Zo) (z:=i) (hO'5.rd0 s_at_.rd) rfl rfl c'10) (Z8 rfl b'8 (ZS rfl (ZaO (off':=0) (off2:=1) (hO'5.rd0 s_at_.rd) (Zj c'10) rfl rfl) (Z8 rfl b'8 (ZS rfl (zX (w:=.n ((gi at_ i.toNat).Y)) (hO'5.rd0 s_at_.rd) rfl (Zj c'10) rfl) (Z8 rfl b'8 (ZS rfl (ZeF (a:=((gi at_ k_.toNat).Y)) (b:=((gi at_ i.toNat).Y)) rfl rfl) (ZS rfl (za (t:=t4) (v:=.b t5) rfl b'8 (Eq.trans (b:=V.b (decide (((gi at_ i.toNat).Y) < ((gi at_ k_.toNat).Y)))) rfl (congrArg V.b (Option.some.inj hp)))) ?_)))))))
     refine Zaj ?_
     exact ⟨rfl,rfl,g'5_0,g'5_1,g'5_2,g'5_7,g'5_8⟩
    ·skip
     refine Z1 rfl b'8 (Z1 rfl b'8 (Z1 rfl b'8 (Z1 rfl b'8 (Z1 rfl b'8 (Z1 rfl b'8 (Z1 rfl b'8 (Z1 rfl b'8 ?_)))))))
     refine Z1 rfl b'8 (Z1 rfl b'8 (Z1 rfl b'8 (ZS rfl (ZU (t:=t4) (v:=.b t5) rfl b'8 (Eq.trans (b:=V.b false) rfl (congrArg V.b (Option.some.inj hp)))) (Zaj ?_))))
     exact ⟨rfl,rfl,g'5_0,g'5_1,g'5_2,g'5_7,g'5_8⟩
   rintro frg'6 _ ⟨rfl,g'6_88,g'6_0,g'6_1,g'6_2,g'6_7,g'6_8⟩
   refine Zah (.b t5) g'6_88 ?_
   obtain ⟨t6,hv'7,hp⟩:=Zq hp
   refine Zcd 16 (fun fr' k'=>(k'4.bump 45) = k'∧fr' 105 = .b t6∧fr' 0 = v_at_∧fr' 1 = .n i∧fr' 2 = .n d∧fr' 7 = .n best2∧fr' 8 = .n k_) ?_ ?_
   ·clear hp; rcases Zt hv'7 with ⟨b'9,hp⟩ | ⟨b'9,hp⟩
    ·skip
     refine Z8 rfl b'9 (Zah (.n best2) g'6_7 (Z8 rfl b'9 (ZS rfl (zO (a:=best2) (b:=0) rfl rfl) (Z8 rfl b'9 (Zah (.b (decide (best2 < 0))) rfl ?_)))))
     obtain ⟨t7,hv'8,hp⟩:=Zq hp
     refine Zcd 12 (fun fr' k'=>(k'4.bump 45) = k'∧fr' 104 = .b t7∧fr' 0 = v_at_∧fr' 1 = .n i∧fr' 2 = .n d∧fr' 7 = .n best2∧fr' 8 = .n k_∧fr' 89 = .b t5) ?_ ?_
     ·clear hp; rcases Zt hv'8 with ⟨b'10,hp⟩ | ⟨b'10,hp⟩
      ·skip
       refine Z1 rfl b'10 (Z1 rfl b'10 (Z1 rfl b'10 (Z1 rfl b'10 (Z1 rfl b'10 (Z1 rfl b'10 (Z1 rfl b'10 (Z1 rfl b'10 ?_)))))))
       refine Z1 rfl b'10 (Z1 rfl b'10 (Z1 rfl b'10 (Z8 rfl b'9 (ZS rfl (za (t:=(decide (best2 < 0))) (v:=.b t7) rfl b'10 (Eq.trans (b:=V.b true) rfl (congrArg V.b (Option.some.inj hp)))) (Zaj ?_)))))
       exact ⟨rfl,rfl,g'6_0,g'6_1,g'6_2,g'6_7,g'6_8,rfl⟩
      ·skip
       refine Z8 rfl b'10 (Zah v_at_ g'6_0 (Z8 rfl b'10 (Zah (.n k_) g'6_8 (Z8 rfl b'10 ?_))))
       obtain ⟨c'11,hp⟩:=Zn hp
       refine ZS rfl (zt (E:=Zo) (z:=k_) (hO'5.rd0 s_at_.rd) rfl rfl c'11) (Z8 rfl b'10 (ZS rfl (ZaO (off':=0) (off2:=1) (hO'5.rd0 s_at_.rd) (Zj c'11) rfl rfl) (Z8 rfl b'10 (ZS rfl (zX (w:=.n ((gi at_ k_.toNat).Y)) (hO'5.rd0 s_at_.rd) rfl (Zj c'11) rfl) (Z8 rfl b'10 (Zah v_at_ g'6_0 (Z8 rfl b'10 ?_)))))))
       refine Zah (.n best2) g'6_7 (Z8 rfl b'10 ?_)
       obtain ⟨c'12,hp⟩:=Zn hp
       refine ZS rfl (zt (E:=Zo) (z:=best2) (hO'5.rd0 s_at_.rd) rfl rfl c'12) (Z8 rfl b'10 (ZS rfl (ZaO (off':=0) (off2:=1) (hO'5.rd0 s_at_.rd) (Zj c'12) rfl rfl) (Z8 rfl b'10 (ZS rfl (zX (w:=.n ((gi at_ best2.toNat).Y)) (hO'5.rd0 s_at_.rd) rfl (Zj c'12) rfl) (Z8 rfl b'10 (ZS rfl (zO (a:=((gi at_ k_.toNat).Y)) (b:=((gi at_ best2.toNat).Y)) rfl rfl) (Z8 rfl b'9 ?_)))))))
       refine ZS rfl (ZU (t:=(decide (best2 < 0))) (v:=.b t7) rfl b'10 (Eq.trans (b:=V.b (decide (((gi at_ k_.toNat).Y) < ((gi at_ best2.toNat).Y)))) rfl (congrArg V.b (Option.some.inj hp)))) (Zaj ?_)
       exact ⟨rfl,rfl,g'6_0,g'6_1,g'6_2,g'6_7,g'6_8,rfl⟩
     rintro frg'7 _ ⟨rfl,g'7_104,g'7_0,g'7_1,g'7_2,g'7_7,g'7_8,g'7_89⟩
     refine ZS rfl (za (t:=t5) (v:=.b t6) g'7_89 b'9 (Eq.trans (b:=V.b t7) g'7_104 (congrArg V.b (Option.some.inj hp)))) (Zaj ?_)
     exact ⟨rfl,rfl,g'7_0,g'7_1,g'7_2,g'7_7,g'7_8⟩
    ·skip
     refine Z1 rfl b'9 (Z1 rfl b'9 (Z1 rfl b'9 (Zcw rfl (Zcw rfl (Zcw rfl (Zcw rfl (Zcw rfl ?_)))))))
     refine Zcw rfl (Zcw rfl (Zcw rfl (Zcw rfl (Zcw rfl (Zcw rfl (Z1 rfl b'9 (ZS rfl (ZU (t:=t5) (v:=.b t6) rfl b'9 (Eq.trans (b:=V.b false) rfl (congrArg V.b (Option.some.inj hp)))) ?_)))))))
     refine Zaj ?_
     exact ⟨rfl,rfl,g'6_0,g'6_1,g'6_2,g'6_7,g'6_8⟩
   rintro frg'8 _ ⟨rfl,g'8_105,g'8_0,g'8_1,g'8_2,g'8_7,g'8_8⟩
   refine Zaj (Zb ?_)
   rcases Zt hp with ⟨b'11,hp⟩ | ⟨b'11,hp⟩
   ·refine zB (t:=t6) g'8_105 b'11 ?_
    refine Zl (Zd (.n k_) g'8_8 (Zd (.n k_) rfl (Zc (Zax (Zb (Zl (Zd (.n k_) g'8_8 ?_)))))))
    obtain ⟨c'13,hp⟩:=Zn hp
    refine Zg (zD (a:=k_) (b:=1) rfl rfl c'13) (Zd (.n (k_ + 1)) rfl (Zc ?_))
    cases hp
    exact (Or.inl ⟨(k_,k_ + 1),rfl,rfl,g'8_0,g'8_1,g'8_2,rfl,rfl,(hO'5.pick [] rfl (by decide))⟩)
   ·refine zz (t:=t6) g'8_105 b'11 ?_
    refine zC (Zax (Zb (Zl (Zd (.n k_) g'8_8 ?_))))
    obtain ⟨c'14,hp⟩:=Zn hp
    refine Zg (zD (a:=k_) (b:=1) rfl rfl c'14) (Zd (.n (k_ + 1)) rfl (Zc ?_))
    cases hp
    exact (Or.inl ⟨(best2,k_ + 1),rfl,rfl,g'8_0,g'8_1,g'8_2,g'8_7,rfl,(hO'5.pick [] rfl (by decide))⟩)
  ·refine zz (t:=(decide (k_ < (at_.length:Int)))) rfl b'1 ?_
   refine ZbM (Zak ?_)
   cases hp
   refine (Or.inr ⟨best,rfl,(fun h=>nomatch h),(fun he=>?_)⟩)
   subst he; exact ⟨rfl,q'2_7,(hO'2.pick [] rfl (by decide))⟩
 intro e'1 q'1 k'1 hJ'1
 obtain ⟨best1,rfl⟩:∃ x,x = o'1:=⟨_,rfl⟩
 obtain ⟨rfl,q'1_7,hO'1⟩:=hJ'1
 refine ZaN (Zb (Zi (Zl (Zd (.n best1) q'1_7 (Zd (.n best1) rfl (Zc (Zb ?_)))))))
 refine zL (zf (zl (n:=6) (v:=.n best1) rfl ZD) ?_)
 cases hp
 exact ⟨rfl,(hO'1.pick [] rfl (by decide))⟩

theorem ZW.ok {h:Hp} {at_:List Zv} {l:List Za} {i:Int} {w:Int} {v_at_:V} {v_l:V} (s_at_:Sl Zo h v_at_ at_) (s_l:Sl Ze h v_l l) {r:Bool} (hp:ZW at_ l i w = some r) :
  ∃ u k',Is G 64 [v_at_,v_l,.n i,.n w] h u k'∧V.b r = u∧Own (fun r=>r < h.n) h k' []:=by
 refine WC.is (Za7 Zdd ?_)
 unfold ZW at hp
 let B:Nat→Prop:=(fun r=>r < h.n)
 have hO:Own B h h []:=Own.start0 h
 refine Zi (Zl (Zd (.b false) rfl (Zc (Zb (Zi (Zi (Zl ?_)))))))
 refine Zd (.n 0) rfl (Zc (Zb (Zay ?_)))
 obtain ⟨o'1,ho'1,hp⟩:=Zq hp
 refine W.mono (Q:=fun e fr k=>match (generalizing:=false) o'1 with
   | .inl _=>e = (.exit 0)∧Own B h k []
   | .inr _=>e = .ret∧fr 8 = .b true∧Own B h k []) ?_ ?_
 ·clear hp
  refine zU (fun st fr k=>match st with | a=>fr 0 = v_at_∧fr 1 = v_l∧fr 2 = .n i∧fr 3 = .n w∧fr 9 = .n a∧Own B h k []) ho'1 (s:=0) ⟨rfl,rfl,rfl,rfl,rfl,(hO.pick [] rfl (by decide))⟩ ?_
  rintro a q'2 k'2 ⟨q'2_0,q'2_1,q'2_2,q'2_3,q'2_9,hO'2⟩ o'2 hp
  dsimp only [ZW.s0] at hp
  refine Zi (Zi (Zl (Zd (.n a) q'2_9 (Zd v_l q'2_1 (Zg (ZaC (hO'2.rd0 s_l.rd) rfl) (Zg (zO (a:=a) (b:=(l.length:Int)) rfl rfl) (Zc ?_)))))))
  refine Zb ?_
  rcases Zt hp with ⟨b'1,hp⟩ | ⟨b'1,hp⟩
  ·refine zB (t:=(decide (a < (l.length:Int)))) rfl b'1 ?_
   refine zC (Zb (Zi (Zay (Zi (Zl (Zd (.n 0) rfl (Zc ?_)))))))
   refine Zb (Zay ?_)
   obtain ⟨o'3,ho'2,hp⟩:=Zq hp
   refine W.mono (Q:=fun e fr k=>match (generalizing:=false) o'3 with
     | .inl _=>e = (.exit 2)∧fr 0 = v_at_∧fr 1 = v_l∧fr 2 = .n i∧fr 3 = .n w∧fr 9 = .n a∧Own B h k []
     | .inr _=>e = .ret∧fr 8 = .b true∧Own B h k []) ?_ ?_
   ·clear hp
    refine zU (fun st fr k=>match st with | d=>fr 0 = v_at_∧fr 1 = v_l∧fr 2 = .n i∧fr 3 = .n w∧fr 9 = .n a∧fr 10 = .n d∧Own B h k []) ho'2 (s:=0) ⟨q'2_0,q'2_1,q'2_2,q'2_3,q'2_9,rfl,(hO'2.pick [] rfl (by decide))⟩ ?_
    rintro d q'4 k'4 ⟨q'4_0,q'4_1,q'4_2,q'4_3,q'4_9,q'4_10,hO'4⟩ o'4 hp
    dsimp only [ZW.s1] at hp
    refine Zi (Zi (Zl (Zd (.n d) q'4_10 (Zg (zO (a:=d) (b:=2) rfl rfl) (Zc (Zb ?_))))))
    rcases Zt hp with ⟨b'2,hp⟩ | ⟨b'2,hp⟩
    ·refine zB (t:=(decide (d < 2))) rfl b'2 ?_
     refine zC (Zb (Zi (Zay (Zi (Zl (Zd v_l q'4_1 (Zd (.n a) q'4_9 ?_)))))))
     refine Zd (.n d) q'4_10 ?_
     obtain ⟨c'1,hp⟩:=Zn hp
     refine Zg (zt (E:=Ze) (z:=a) (hO'4.rd0 s_l.rd) rfl rfl c'1) (Zg (ZaO (off':=0) (off2:=0) (hO'4.rd0 s_l.rd) (Zj c'1) rfl rfl) ?_)
     obtain ⟨c'2,hp⟩:=Zn hp
     refine Zg (ZaZ (off:=0) (off2:=(0 + d.toNat * 1)) (z:=d) (hO'4.rd0 s_l.rd) (Zj c'1) rfl rfl c'2 rfl) (Zg (zX (w:=.n (((gi l a.toNat).Next).get d)) (hO'4.rd0 s_l.rd) rfl (Zj c'1) (zr c'2)) (Zd (.n (((gi l a.toNat).Next).get d)) rfl (Zc (Zb (Zi (Zi (Zl ?_)))))))
     refine Zd (.n (((gi l a.toNat).Next).get d)) rfl (Zg (zO (a:=(((gi l a.toNat).Next).get d)) (b:=0) rfl rfl) (Zc (Zb ?_)))
     rcases Zt hp with ⟨b'3,hp⟩ | ⟨b'3,hp⟩
     ·refine zB (t:=(decide ((((gi l a.toNat).Next).get d) < 0))) rfl b'3 ?_
      refine ZbM (Zak (ZaN (Zb (Zl (Zd (.n d) q'4_10 ?_)))))
      obtain ⟨c'3,hp⟩:=Zn hp
      refine Zg (zD (a:=d) (b:=1) rfl rfl c'3) (Zd (.n (d + 1)) rfl (Zc ?_))
      cases hp
      exact (Or.inl ⟨d + 1,rfl,rfl,q'4_0,q'4_1,q'4_2,q'4_3,q'4_9,rfl,(hO'4.pick [] rfl (by decide))⟩)
     ·refine zz (t:=(decide ((((gi l a.toNat).Next).get d) < 0))) rfl b'3 ?_
      refine zC (Zb (Zi (Zl (Zd v_at_ q'4_0 (Zd (.n a) q'4_9 ?_)))))
      obtain ⟨c'4,hp⟩:=Zn hp
      refine Zg (zt (E:=Zo) (z:=a) (hO'4.rd0 s_at_.rd) rfl rfl c'4) (Zg (ZfI (E:=Zo) (hO'4.rd0 s_at_.rd) rfl (Zj c'4)) (Za0 (hO'4.alloc (cs:=Zo.c (⟨0,0⟩:Zv)) hO'4.fr) ?_))
      rintro _ k'5 ⟨r'1,rfl,n'1,f'1,hW⟩
      have hO'5:=hW
      refine Za0 (hO'5.stb (ws:=Zo.c (gi at_ a.toNat)) (cs':=Zo.c (gi at_ a.toNat)) (v:=.ag (Zo.c (gi at_ a.toNat))) 0 rfl rfl rfl rfl ⟨rfl,Nat.le_of_ble_eq_true rfl,rfl⟩ rfl) ?_
      rintro _ k'6 ⟨rfl,f'2,m'1,hW⟩
      have hO'6:=hW
      refine Zc (Zb (Zi (Zl (Zd v_at_ q'4_0 (Zd (.n (((gi l a.toNat).Next).get d)) rfl ?_)))))
      obtain ⟨c'5,hp⟩:=Zn hp
      refine Zg (zt (E:=Zo) (z:=(((gi l a.toNat).Next).get d)) (hO'6.rd0 s_at_.rd) rfl rfl c'5) (Zg (ZfI (E:=Zo) (hO'6.rd0 s_at_.rd) rfl (Zj c'5)) (Za0 (hO'6.alloc (cs:=Zo.c (⟨0,0⟩:Zv)) hO'6.fr) ?_))
      rintro _ k'7 ⟨r'2,rfl,n'2,f'3,hW⟩
      have hO'7:=hW
      refine Za0 (hO'7.stb (ws:=Zo.c (gi at_ (((gi l a.toNat).Next).get d:Int).toNat)) (cs':=Zo.c (gi at_ (((gi l a.toNat).Next).get d:Int).toNat)) (v:=.ag (Zo.c (gi at_ (((gi l a.toNat).Next).get d:Int).toNat))) 1 rfl rfl rfl rfl ⟨rfl,Nat.le_of_ble_eq_true rfl,rfl⟩ rfl) ?_
      rintro _ k'8 ⟨rfl,f'4,m'2,hW⟩
      have hO'8:=hW
      refine Zc (Zb (Zi (Zi (ZgZ ?_))))
      have hW:=hO'8.bump 58
      have hO'9:=hW
      refine ZS rfl (Zbv (r:=r'1) (o:=0) (o':=1) rfl rfl) (ZS rfl (ZaK (cs:=(Zo.c (gi at_ a.toNat))) (v:=.n ((gi at_ a.toNat).Y)) (hO'9.box 0 rfl) rfl rfl) (ZS rfl (Zbv (r:=r'2) (o:=0) (o':=1) rfl rfl) (ZS rfl (ZaK (cs:=(Zo.c (gi at_ (((gi l a.toNat).Next).get d:Int).toNat))) (v:=.n ((gi at_ (((gi l a.toNat).Next).get d:Int).toNat).Y)) (hO'9.box 1 rfl) rfl rfl) (ZS rfl (ZbE (a:=((gi at_ a.toNat).Y)) (b:=((gi at_ (((gi l a.toNat).Next).get d:Int).toNat).Y)) rfl rfl) (Zah (.b (decide ((gi at_ a.toNat).Y = (gi at_ (((gi l a.toNat).Next).get d:Int).toNat).Y))) rfl ?_)))))
      obtain ⟨t,hv'1,hp⟩:=Zq hp
      refine Zcd 12 (fun fr' k'=>(k'8.bump 58) = k'∧fr' 58 = .b t∧fr' 0 = v_at_∧fr' 1 = v_l∧fr' 10 = .n d∧fr' 12 = .p r'1 0∧fr' 13 = .p r'2 0∧fr' 2 = .n i∧fr' 3 = .n w∧fr' 9 = .n a) ?_ ?_
      ·clear hp; rcases Zt hv'1 with ⟨b'4,hp⟩ | ⟨b'4,hp⟩
       ·skip
        refine Z8 rfl b'4 (Zah v_at_ q'4_0 (Z8 rfl b'4 (Zah (.n i) q'4_2 (Z8 rfl b'4 ?_))))
        obtain ⟨c'6,hp⟩:=Zn hp
        refine ZS rfl (zt (E:=Zo) (z:=i) (hO'9.rd0 s_at_.rd) rfl rfl c'6) (Z8 rfl b'4 (ZS rfl (ZaO (off':=0) (off2:=0) (hO'9.rd0 s_at_.rd) (Zj c'6) rfl rfl) (Z8 rfl b'4 (ZS rfl (zX (w:=.n ((gi at_ i.toNat).X)) (hO'9.rd0 s_at_.rd) rfl (Zj c'6) rfl) (Z8 rfl b'4 (Zah v_at_ q'4_0 (Z8 rfl b'4 ?_)))))))
        refine Zah (.n w) q'4_3 (Z8 rfl b'4 ?_)
        obtain ⟨c'7,hp⟩:=Zn hp
        refine ZS rfl (zt (E:=Zo) (z:=w) (hO'9.rd0 s_at_.rd) rfl rfl c'7) (Z8 rfl b'4 (ZS rfl (ZaO (off':=0) (off2:=0) (hO'9.rd0 s_at_.rd) (Zj c'7) rfl rfl) (Z8 rfl b'4 (ZS rfl (zX (w:=.n ((gi at_ w.toNat).X)) (hO'9.rd0 s_at_.rd) rfl (Zj c'7) rfl) (Z8 rfl b'4 (ZS rfl (ZbE (a:=((gi at_ i.toNat).X)) (b:=((gi at_ w.toNat).X)) rfl rfl) (ZS rfl (za (t:=(decide ((gi at_ a.toNat).Y = (gi at_ (((gi l a.toNat).Next).get d:Int).toNat).Y))) (v:=.b t) rfl b'4 (Eq.trans (b:=V.b (decide ((gi at_ i.toNat).X = (gi at_ w.toNat).X))) rfl (congrArg V.b (Option.some.inj hp)))) ?_)))))))
        refine Zaj ?_
        exact ⟨rfl,rfl,q'4_0,q'4_1,q'4_10,rfl,rfl,q'4_2,q'4_3,q'4_9⟩
       ·skip
        refine Z1 rfl b'4 (Z1 rfl b'4 (Z1 rfl b'4 (Z1 rfl b'4 (Z1 rfl b'4 (Z1 rfl b'4 (Z1 rfl b'4 (Z1 rfl b'4 ?_)))))))
        refine Z1 rfl b'4 (Z1 rfl b'4 (Z1 rfl b'4 (ZS rfl (ZU (t:=(decide ((gi at_ a.toNat).Y = (gi at_ (((gi l a.toNat).Next).get d:Int).toNat).Y))) (v:=.b t) rfl b'4 (Eq.trans (b:=V.b false) rfl (congrArg V.b (Option.some.inj hp)))) (Zaj ?_))))
        exact ⟨rfl,rfl,q'4_0,q'4_1,q'4_10,rfl,rfl,q'4_2,q'4_3,q'4_9⟩
      rintro frg'1 _ ⟨rfl,g'1_58,g'1_0,g'1_1,g'1_10,g'1_12,g'1_13,g'1_2,g'1_3,g'1_9⟩
      refine Zah (.b t) g'1_58 ?_
      obtain ⟨t1,hv'2,hp⟩:=Zq hp
      refine Zcd 9 (fun fr' k'=>(k'8.bump 58) = k'∧fr' 68 = .b t1∧fr' 0 = v_at_∧fr' 1 = v_l∧fr' 10 = .n d∧fr' 12 = .p r'1 0∧fr' 13 = .p r'2 0∧fr' 2 = .n i∧fr' 3 = .n w∧fr' 9 = .n a) ?_ ?_
      ·clear hp; rcases Zt hv'2 with ⟨b'5,hp⟩ | ⟨b'5,hp⟩
       ·skip
        refine Z8 rfl b'5 (ZS rfl (Zbv (r:=r'1) (o:=0) (o':=0) g'1_12 rfl) (Z8 rfl b'5 (ZS rfl (ZaK (cs:=(Zo.c (gi at_ a.toNat))) (v:=.n ((gi at_ a.toNat).X)) (hO'9.box 0 rfl) rfl rfl) (Z8 rfl b'5 (Zah v_at_ g'1_0 (Z8 rfl b'5 (Zah (.n i) g'1_2 ?_)))))))
        refine Z8 rfl b'5 ?_
        obtain ⟨c'8,hp⟩:=Zn hp
        refine ZS rfl (zt (E:=Zo) (z:=i) (hO'9.rd0 s_at_.rd) rfl rfl c'8) (Z8 rfl b'5 (ZS rfl (ZaO (off':=0) (off2:=0) (hO'9.rd0 s_at_.rd) (Zj c'8) rfl rfl) (Z8 rfl b'5 (ZS rfl (zX (w:=.n ((gi at_ i.toNat).X)) (hO'9.rd0 s_at_.rd) rfl (Zj c'8) rfl) (Z8 rfl b'5 (ZS rfl (zO (a:=((gi at_ a.toNat).X)) (b:=((gi at_ i.toNat).X)) rfl rfl) (ZS rfl (za (t:=t) (v:=.b t1) rfl b'5 (Eq.trans (b:=V.b (decide (((gi at_ a.toNat).X) < ((gi at_ i.toNat).X)))) rfl (congrArg V.b (Option.some.inj hp)))) ?_)))))))
        refine Zaj ?_
        exact ⟨rfl,rfl,g'1_0,g'1_1,g'1_10,g'1_12,g'1_13,g'1_2,g'1_3,g'1_9⟩
       ·skip
        refine Z1 rfl b'5 (Z1 rfl b'5 (Z1 rfl b'5 (Z1 rfl b'5 (Z1 rfl b'5 (Z1 rfl b'5 (Z1 rfl b'5 (Z1 rfl b'5 ?_)))))))
        refine ZS rfl (ZU (t:=t) (v:=.b t1) rfl b'5 (Eq.trans (b:=V.b false) rfl (congrArg V.b (Option.some.inj hp)))) (Zaj ?_)
        exact ⟨rfl,rfl,g'1_0,g'1_1,g'1_10,g'1_12,g'1_13,g'1_2,g'1_3,g'1_9⟩
      rintro frg'2 _ ⟨rfl,g'2_68,g'2_0,g'2_1,g'2_10,g'2_12,g'2_13,g'2_2,g'2_3,g'2_9⟩
      refine Zah (.b t1) g'2_68 ?_
      obtain ⟨t2,hv'3,hp⟩:=Zq hp
      refine Zcd 9 (fun fr' k'=>(k'8.bump 58) = k'∧fr' 78 = .b t2∧fr' 0 = v_at_∧fr' 1 = v_l∧fr' 10 = .n d∧fr' 12 = .p r'1 0∧fr' 13 = .p r'2 0∧fr' 2 = .n i∧fr' 3 = .n w∧fr' 9 = .n a) ?_ ?_
      ·clear hp; rcases Zt hv'3 with ⟨b'6,hp⟩ | ⟨b'6,hp⟩
       ·skip
        refine Z8 rfl b'6 (Zah v_at_ g'2_0 (Z8 rfl b'6 (Zah (.n i) g'2_2 (Z8 rfl b'6 ?_))))
        obtain ⟨c'9,hp⟩:=Zn hp
        refine ZS rfl (zt (E:=Zo) (z:=i) (hO'9.rd0 s_at_.rd) rfl rfl c'9) (Z8 rfl b'6 (ZS rfl (ZaO (off':=0) (off2:=0) (hO'9.rd0 s_at_.rd) (Zj c'9) rfl rfl) (Z8 rfl b'6 (ZS rfl (zX (w:=.n ((gi at_ i.toNat).X)) (hO'9.rd0 s_at_.rd) rfl (Zj c'9) rfl) (Z8 rfl b'6 (ZS rfl (Zbv (r:=r'2) (o:=0) (o':=0) g'2_13 rfl) (Z8 rfl b'6 ?_)))))))
        refine ZS rfl (ZaK (cs:=(Zo.c (gi at_ (((gi l a.toNat).Next).get d:Int).toNat))) (v:=.n ((gi at_ (((gi l a.toNat).Next).get d:Int).toNat).X)) (hO'9.box 1 rfl) rfl rfl) (Z8 rfl b'6 (ZS rfl (zO (a:=((gi at_ i.toNat).X)) (b:=((gi at_ (((gi l a.toNat).Next).get d:Int).toNat).X)) rfl rfl) (ZS rfl (za (t:=t1) (v:=.b t2) rfl b'6 (Eq.trans (b:=V.b (decide (((gi at_ i.toNat).X) < ((gi at_ (((gi l a.toNat).Next).get d:Int).toNat).X)))) rfl (congrArg V.b (Option.some.inj hp)))) (Zaj ?_))))
        exact ⟨rfl,rfl,g'2_0,g'2_1,g'2_10,g'2_12,g'2_13,g'2_2,g'2_3,g'2_9⟩
       ·skip
        refine Z1 rfl b'6 (Z1 rfl b'6 (Z1 rfl b'6 (Z1 rfl b'6 (Z1 rfl b'6 (Z1 rfl b'6 (Z1 rfl b'6 (Z1 rfl b'6 ?_)))))))
        refine ZS rfl (ZU (t:=t1) (v:=.b t2) rfl b'6 (Eq.trans (b:=V.b false) rfl (congrArg V.b (Option.some.inj hp)))) (Zaj ?_)
        exact ⟨rfl,rfl,g'2_0,g'2_1,g'2_10,g'2_12,g'2_13,g'2_2,g'2_3,g'2_9⟩
      rintro frg'3 _ ⟨rfl,g'3_78,g'3_0,g'3_1,g'3_10,g'3_12,g'3_13,g'3_2,g'3_3,g'3_9⟩
      refine Zah (.b t2) g'3_78 ?_
      obtain ⟨t3,hv'4,hp⟩:=Zq hp
      refine Zcd 9 (fun fr' k'=>(k'8.bump 58) = k'∧fr' 88 = .b t3∧fr' 0 = v_at_∧fr' 1 = v_l∧fr' 10 = .n d∧fr' 12 = .p r'1 0∧fr' 13 = .p r'2 0∧fr' 2 = .n i∧fr' 3 = .n w∧fr' 9 = .n a) ?_ ?_
      ·clear hp; rcases Zt hv'4 with ⟨b'7,hp⟩ | ⟨b'7,hp⟩
       ·skip
        refine Z8 rfl b'7 (Zah v_at_ g'3_0 (Z8 rfl b'7 (Zah (.n i) g'3_2 (Z8 rfl b'7 ?_))))
        obtain ⟨c'10,hp⟩:=Zn hp
        refine ZS rfl (zt (E:=Zo) (z:=i) (hO'9.rd0 s_at_.rd) rfl rfl c'10) (Z8 rfl b'7 (ZS rfl (ZaO (off':=0) (off2:=1) (hO'9.rd0 s_at_.rd) (Zj c'10) rfl rfl) (Z8 rfl b'7 (ZS rfl (zX (w:=.n ((gi at_ i.toNat).Y)) (hO'9.rd0 s_at_.rd) rfl (Zj c'10) rfl) (Z8 rfl b'7 (ZS rfl (Zbv (r:=r'1) (o:=0) (o':=1) g'3_12 rfl) (Z8 rfl b'7 ?_)))))))
        refine ZS rfl (ZaK (cs:=(Zo.c (gi at_ a.toNat))) (v:=.n ((gi at_ a.toNat).Y)) (hO'9.box 0 rfl) rfl rfl) (Z8 rfl b'7 (ZS rfl (zO (a:=((gi at_ i.toNat).Y)) (b:=((gi at_ a.toNat).Y)) rfl rfl) (ZS rfl (za (t:=t2) (v:=.b t3) rfl b'7 (Eq.trans (b:=V.b (decide (((gi at_ i.toNat).Y) < ((gi at_ a.toNat).Y)))) rfl (congrArg V.b (Option.some.inj hp)))) (Zaj ?_))))
        exact ⟨rfl,rfl,g'3_0,g'3_1,g'3_10,g'3_12,g'3_13,g'3_2,g'3_3,g'3_9⟩
       ·skip
        refine Z1 rfl b'7 (Z1 rfl b'7 (Z1 rfl b'7 (Z1 rfl b'7 (Z1 rfl b'7 (Z1 rfl b'7 (Z1 rfl b'7 (Z1 rfl b'7 ?_)))))))
        refine ZS rfl (ZU (t:=t2) (v:=.b t3) rfl b'7 (Eq.trans (b:=V.b false) rfl (congrArg V.b (Option.some.inj hp)))) (Zaj ?_)
        exact ⟨rfl,rfl,g'3_0,g'3_1,g'3_10,g'3_12,g'3_13,g'3_2,g'3_3,g'3_9⟩
      rintro frg'4 _ ⟨rfl,g'4_88,g'4_0,g'4_1,g'4_10,g'4_12,g'4_13,g'4_2,g'4_3,g'4_9⟩
      refine Zah (.b t3) g'4_88 ?_
      obtain ⟨t4,hv'5,hp⟩:=Zq hp
      refine Zcd 9 (fun fr' k'=>(k'8.bump 58) = k'∧fr' 98 = .b t4∧fr' 0 = v_at_∧fr' 1 = v_l∧fr' 10 = .n d∧fr' 12 = .p r'1 0∧fr' 13 = .p r'2 0∧fr' 2 = .n i∧fr' 3 = .n w∧fr' 9 = .n a) ?_ ?_
      ·clear hp; rcases Zt hv'5 with ⟨b'8,hp⟩ | ⟨b'8,hp⟩
       ·skip
        refine Z8 rfl b'8 (ZS rfl (Zbv (r:=r'1) (o:=0) (o':=1) g'4_12 rfl) (Z8 rfl b'8 (ZS rfl (ZaK (cs:=(Zo.c (gi at_ a.toNat))) (v:=.n ((gi at_ a.toNat).Y)) (hO'9.box 0 rfl) rfl rfl) (Z8 rfl b'8 (Zah v_at_ g'4_0 (Z8 rfl b'8 (Zah (.n w) g'4_3 ?_)))))))
        refine Z8 rfl b'8 ?_
        obtain ⟨c'11,hp⟩:=Zn hp
        refine ZS rfl (zt (E:=Zo) (z:=w) (hO'9.rd0 s_at_.rd) rfl rfl c'11) (Z8 rfl b'8 (ZS rfl (ZaO (off':=0) (off2:=1) (hO'9.rd0 s_at_.rd) (Zj c'11) rfl rfl) (Z8 rfl b'8 (ZS rfl (zX (w:=.n ((gi at_ w.toNat).Y)) (hO'9.rd0 s_at_.rd) rfl (Zj c'11) rfl) (Z8 rfl b'8 (ZS rfl (zO (a:=((gi at_ a.toNat).Y)) (b:=((gi at_ w.toNat).Y)) rfl rfl) (ZS rfl (za (t:=t3) (v:=.b t4) rfl b'8 (Eq.trans (b:=V.b (decide (((gi at_ a.toNat).Y) < ((gi at_ w.toNat).Y)))) rfl (congrArg V.b (Option.some.inj hp)))) ?_)))))))
        refine Zaj ?_
        exact ⟨rfl,rfl,g'4_0,g'4_1,g'4_10,g'4_12,g'4_13,g'4_2,g'4_3,g'4_9⟩
       ·skip
        refine Z1 rfl b'8 (Z1 rfl b'8 (Z1 rfl b'8 (Z1 rfl b'8 (Z1 rfl b'8 (Z1 rfl b'8 (Z1 rfl b'8 (Z1 rfl b'8 ?_)))))))
        refine ZS rfl (ZU (t:=t3) (v:=.b t4) rfl b'8 (Eq.trans (b:=V.b false) rfl (congrArg V.b (Option.some.inj hp)))) (Zaj ?_)
        exact ⟨rfl,rfl,g'4_0,g'4_1,g'4_10,g'4_12,g'4_13,g'4_2,g'4_3,g'4_9⟩
      rintro frg'5 _ ⟨rfl,g'5_98,g'5_0,g'5_1,g'5_10,g'5_12,g'5_13,g'5_2,g'5_3,g'5_9⟩
      refine Zaj (Zb ?_)
      rcases Zt hp with ⟨b'9,hp⟩ | ⟨b'9,hp⟩
      ·refine zB (t:=t4) g'5_98 b'9 ?_
       refine Zi (Zl (Zd (.b true) rfl (Zc (Zb (zL (zh (Zbd ?_)))))))
       refine zh ?_
       cases hp
       refine (Or.inr ⟨.inr (),rfl,(fun h=>nomatch h),(fun he=>?_)⟩)
       subst he; exact ⟨rfl,rfl,(hO'9.pick [] rfl (by decide))⟩
      ·refine zz (t:=t4) g'5_98 b'9 ?_
       refine zC (Zb (Zi (ZgZ ?_)))
       have hW:=hO'9.bump 58
       have hO'10:=hW
       refine ZS rfl (Zbv (r:=r'1) (o:=0) (o':=0) g'5_12 rfl) (ZS rfl (ZaK (cs:=(Zo.c (gi at_ a.toNat))) (v:=.n ((gi at_ a.toNat).X)) (hO'10.box 0 rfl) rfl rfl) (ZS rfl (Zbv (r:=r'2) (o:=0) (o':=0) g'5_13 rfl) (ZS rfl (ZaK (cs:=(Zo.c (gi at_ (((gi l a.toNat).Next).get d:Int).toNat))) (v:=.n ((gi at_ (((gi l a.toNat).Next).get d:Int).toNat).X)) (hO'10.box 1 rfl) rfl rfl) (ZS rfl (ZbE (a:=((gi at_ a.toNat).X)) (b:=((gi at_ (((gi l a.toNat).Next).get d:Int).toNat).X)) rfl rfl) (Zah (.b (decide ((gi at_ a.toNat).X = (gi at_ (((gi l a.toNat).Next).get d:Int).toNat).X))) rfl ?_)))))
       obtain ⟨t5,hv'6,hp⟩:=Zq hp
       refine Zcd 12 (fun fr' k'=>((k'8.bump 58).bump 58) = k'∧fr' 116 = .b t5∧fr' 0 = v_at_∧fr' 1 = v_l∧fr' 10 = .n d∧fr' 12 = .p r'1 0∧fr' 13 = .p r'2 0∧fr' 2 = .n i∧fr' 3 = .n w∧fr' 9 = .n a) ?_ ?_
       ·clear hp; rcases Zt hv'6 with ⟨b'10,hp⟩ | ⟨b'10,hp⟩
        ·skip
         refine Z8 rfl b'10 (Zah v_at_ g'5_0 (Z8 rfl b'10 (Zah (.n i) g'5_2 (Z8 rfl b'10 ?_))))
         obtain ⟨c'12,hp⟩:=Zn hp
         refine ZS rfl (zt (E:=Zo) (z:=i) (hO'10.rd0 s_at_.rd:Sl Zo ((k'8.bump 58).bump 58) v_at_ at_) rfl rfl c'12) (Z8 rfl b'10 (ZS rfl (ZaO (off':=0) (off2:=1) (hO'10.rd0 s_at_.rd:Sl Zo ((k'8.bump 58).bump 58) v_at_ at_) (Zj c'12) rfl rfl) (Z8 rfl b'10 (ZS rfl (zX (w:=.n ((gi at_ i.toNat).Y)) (hO'10.rd0 s_at_.rd:Sl Zo ((k'8.bump 58).bump 58) v_at_ at_) rfl (Zj c'12) rfl) (Z8 rfl b'10 (Zah v_at_ g'5_0 (Z8 rfl b'10 ?_)))))))
         refine Zah (.n w) g'5_3 (Z8 rfl b'10 ?_)
         obtain ⟨c'13,hp⟩:=Zn hp
         refine ZS rfl (zt (E:=Zo) (z:=w) (hO'10.rd0 s_at_.rd:Sl Zo ((k'8.bump 58).bump 58) v_at_ at_) rfl rfl c'13) (Z8 rfl b'10 (ZS rfl (ZaO (off':=0) (off2:=1) (hO'10.rd0 s_at_.rd:Sl Zo ((k'8.bump 58).bump 58) v_at_ at_) (Zj c'13) rfl rfl) (Z8 rfl b'10 (ZS rfl (zX (w:=.n ((gi at_ w.toNat).Y)) (hO'10.rd0 s_at_.rd:Sl Zo ((k'8.bump 58).bump 58) v_at_ at_) rfl (Zj c'13) rfl) (Z8 rfl b'10 (ZS rfl (ZbE (a:=((gi at_ i.toNat).Y)) (b:=((gi at_ w.toNat).Y)) rfl rfl) (ZS rfl (za (t:=(decide ((gi at_ a.toNat).X = (gi at_ (((gi l a.toNat).Next).get d:Int).toNat).X))) (v:=.b t5) rfl b'10 (Eq.trans (b:=V.b (decide ((gi at_ i.toNat).Y = (gi at_ w.toNat).Y))) rfl (congrArg V.b (Option.some.inj hp)))) ?_)))))))
         refine Zaj ?_
         exact ⟨rfl,rfl,g'5_0,g'5_1,g'5_10,g'5_12,g'5_13,g'5_2,g'5_3,g'5_9⟩
        ·skip
         refine Z1 rfl b'10 (Z1 rfl b'10 (Z1 rfl b'10 (Z1 rfl b'10 (Z1 rfl b'10 (Z1 rfl b'10 (Z1 rfl b'10 (Z1 rfl b'10 ?_)))))))
         refine Z1 rfl b'10 (Z1 rfl b'10 (Z1 rfl b'10 (ZS rfl (ZU (t:=(decide ((gi at_ a.toNat).X = (gi at_ (((gi l a.toNat).Next).get d:Int).toNat).X))) (v:=.b t5) rfl b'10 (Eq.trans (b:=V.b false) rfl (congrArg V.b (Option.some.inj hp)))) (Zaj ?_))))
         exact ⟨rfl,rfl,g'5_0,g'5_1,g'5_10,g'5_12,g'5_13,g'5_2,g'5_3,g'5_9⟩
       rintro frg'6 _ ⟨rfl,g'6_116,g'6_0,g'6_1,g'6_10,g'6_12,g'6_13,g'6_2,g'6_3,g'6_9⟩
       refine Zah (.b t5) g'6_116 ?_
       obtain ⟨t6,hv'7,hp⟩:=Zq hp
       refine Zcd 9 (fun fr' k'=>((k'8.bump 58).bump 58) = k'∧fr' 126 = .b t6∧fr' 0 = v_at_∧fr' 1 = v_l∧fr' 10 = .n d∧fr' 12 = .p r'1 0∧fr' 13 = .p r'2 0∧fr' 2 = .n i∧fr' 3 = .n w∧fr' 9 = .n a) ?_ ?_
       ·clear hp; rcases Zt hv'7 with ⟨b'11,hp⟩ | ⟨b'11,hp⟩
        ·skip
         refine Z8 rfl b'11 (Zah v_at_ g'6_0 (Z8 rfl b'11 (Zah (.n i) g'6_2 (Z8 rfl b'11 ?_))))
         obtain ⟨c'14,hp⟩:=Zn hp
         refine ZS rfl (zt (E:=Zo) (z:=i) (hO'10.rd0 s_at_.rd:Sl Zo ((k'8.bump 58).bump 58) v_at_ at_) rfl rfl c'14) (Z8 rfl b'11 (ZS rfl (ZaO (off':=0) (off2:=0) (hO'10.rd0 s_at_.rd:Sl Zo ((k'8.bump 58).bump 58) v_at_ at_) (Zj c'14) rfl rfl) (Z8 rfl b'11 (ZS rfl (zX (w:=.n ((gi at_ i.toNat).X)) (hO'10.rd0 s_at_.rd:Sl Zo ((k'8.bump 58).bump 58) v_at_ at_) rfl (Zj c'14) rfl) (Z8 rfl b'11 (ZS rfl (Zbv (r:=r'1) (o:=0) (o':=0) g'6_12 rfl) (Z8 rfl b'11 ?_)))))))
         refine ZS rfl (ZaK (cs:=(Zo.c (gi at_ a.toNat))) (v:=.n ((gi at_ a.toNat).X)) (hO'10.box 0 rfl) rfl rfl) (Z8 rfl b'11 (ZS rfl (zO (a:=((gi at_ i.toNat).X)) (b:=((gi at_ a.toNat).X)) rfl rfl) (ZS rfl (za (t:=t5) (v:=.b t6) rfl b'11 (Eq.trans (b:=V.b (decide (((gi at_ i.toNat).X) < ((gi at_ a.toNat).X)))) rfl (congrArg V.b (Option.some.inj hp)))) (Zaj ?_))))
         exact ⟨rfl,rfl,g'6_0,g'6_1,g'6_10,g'6_12,g'6_13,g'6_2,g'6_3,g'6_9⟩
        ·skip
         refine Z1 rfl b'11 (Z1 rfl b'11 (Z1 rfl b'11 (Z1 rfl b'11 (Z1 rfl b'11 (Z1 rfl b'11 (Z1 rfl b'11 (Z1 rfl b'11 ?_)))))))
         refine ZS rfl (ZU (t:=t5) (v:=.b t6) rfl b'11 (Eq.trans (b:=V.b false) rfl (congrArg V.b (Option.some.inj hp)))) (Zaj ?_)
         exact ⟨rfl,rfl,g'6_0,g'6_1,g'6_10,g'6_12,g'6_13,g'6_2,g'6_3,g'6_9⟩
       rintro frg'7 _ ⟨rfl,g'7_126,g'7_0,g'7_1,g'7_10,g'7_12,g'7_13,g'7_2,g'7_3,g'7_9⟩
       refine Zah (.b t6) g'7_126 ?_
       obtain ⟨t7,hv'8,hp⟩:=Zq hp
       refine Zcd 9 (fun fr' k'=>((k'8.bump 58).bump 58) = k'∧fr' 136 = .b t7∧fr' 0 = v_at_∧fr' 1 = v_l∧fr' 10 = .n d∧fr' 12 = .p r'1 0∧fr' 13 = .p r'2 0∧fr' 2 = .n i∧fr' 3 = .n w∧fr' 9 = .n a) ?_ ?_
       ·clear hp; rcases Zt hv'8 with ⟨b'12,hp⟩ | ⟨b'12,hp⟩
        ·skip
         refine Z8 rfl b'12 (ZS rfl (Zbv (r:=r'1) (o:=0) (o':=0) g'7_12 rfl) (Z8 rfl b'12 (ZS rfl (ZaK (cs:=(Zo.c (gi at_ a.toNat))) (v:=.n ((gi at_ a.toNat).X)) (hO'10.box 0 rfl) rfl rfl) (Z8 rfl b'12 (Zah v_at_ g'7_0 (Z8 rfl b'12 (Zah (.n w) g'7_3 ?_)))))))
         refine Z8 rfl b'12 ?_
         obtain ⟨c'15,hp⟩:=Zn hp
         refine ZS rfl (zt (E:=Zo) (z:=w) (hO'10.rd0 s_at_.rd:Sl Zo ((k'8.bump 58).bump 58) v_at_ at_) rfl rfl c'15) (Z8 rfl b'12 (ZS rfl (ZaO (off':=0) (off2:=0) (hO'10.rd0 s_at_.rd:Sl Zo ((k'8.bump 58).bump 58) v_at_ at_) (Zj c'15) rfl rfl) (Z8 rfl b'12 (ZS rfl (zX (w:=.n ((gi at_ w.toNat).X)) (hO'10.rd0 s_at_.rd:Sl Zo ((k'8.bump 58).bump 58) v_at_ at_) rfl (Zj c'15) rfl) (Z8 rfl b'12 (ZS rfl (zO (a:=((gi at_ a.toNat).X)) (b:=((gi at_ w.toNat).X)) rfl rfl) (ZS rfl (za (t:=t6) (v:=.b t7) rfl b'12 (Eq.trans (b:=V.b (decide (((gi at_ a.toNat).X) < ((gi at_ w.toNat).X)))) rfl (congrArg V.b (Option.some.inj hp)))) ?_)))))))
         refine Zaj ?_
         exact ⟨rfl,rfl,g'7_0,g'7_1,g'7_10,g'7_12,g'7_13,g'7_2,g'7_3,g'7_9⟩
        ·skip
         refine Z1 rfl b'12 (Z1 rfl b'12 (Z1 rfl b'12 (Z1 rfl b'12 (Z1 rfl b'12 (Z1 rfl b'12 (Z1 rfl b'12 (Z1 rfl b'12 ?_)))))))
         refine ZS rfl (ZU (t:=t6) (v:=.b t7) rfl b'12 (Eq.trans (b:=V.b false) rfl (congrArg V.b (Option.some.inj hp)))) (Zaj ?_)
         exact ⟨rfl,rfl,g'7_0,g'7_1,g'7_10,g'7_12,g'7_13,g'7_2,g'7_3,g'7_9⟩
       rintro frg'8 _ ⟨rfl,g'8_136,g'8_0,g'8_1,g'8_10,g'8_12,g'8_13,g'8_2,g'8_3,g'8_9⟩
       refine Zah (.b t7) g'8_136 ?_
       obtain ⟨t8,hv'9,hp⟩:=Zq hp
       refine Zcd 9 (fun fr' k'=>((k'8.bump 58).bump 58) = k'∧fr' 146 = .b t8∧fr' 0 = v_at_∧fr' 1 = v_l∧fr' 10 = .n d∧fr' 13 = .p r'2 0∧fr' 2 = .n i∧fr' 3 = .n w∧fr' 9 = .n a) ?_ ?_
       ·clear hp; rcases Zt hv'9 with ⟨b'13,hp⟩ | ⟨b'13,hp⟩
        ·skip
         refine Z8 rfl b'13 (ZS rfl (Zbv (r:=r'1) (o:=0) (o':=1) g'8_12 rfl) (Z8 rfl b'13 (ZS rfl (ZaK (cs:=(Zo.c (gi at_ a.toNat))) (v:=.n ((gi at_ a.toNat).Y)) (hO'10.box 0 rfl) rfl rfl) (Z8 rfl b'13 (Zah v_at_ g'8_0 (Z8 rfl b'13 (Zah (.n i) g'8_2 ?_)))))))
         refine Z8 rfl b'13 ?_
         obtain ⟨c'16,hp⟩:=Zn hp
         refine ZS rfl (zt (E:=Zo) (z:=i) (hO'10.rd0 s_at_.rd:Sl Zo ((k'8.bump 58).bump 58) v_at_ at_) rfl rfl c'16) (Z8 rfl b'13 (ZS rfl (ZaO (off':=0) (off2:=1) (hO'10.rd0 s_at_.rd:Sl Zo ((k'8.bump 58).bump 58) v_at_ at_) (Zj c'16) rfl rfl) (Z8 rfl b'13 (ZS rfl (zX (w:=.n ((gi at_ i.toNat).Y)) (hO'10.rd0 s_at_.rd:Sl Zo ((k'8.bump 58).bump 58) v_at_ at_) rfl (Zj c'16) rfl) (Z8 rfl b'13 (ZS rfl (zO (a:=((gi at_ a.toNat).Y)) (b:=((gi at_ i.toNat).Y)) rfl rfl) (ZS rfl (za (t:=t7) (v:=.b t8) rfl b'13 (Eq.trans (b:=V.b (decide (((gi at_ a.toNat).Y) < ((gi at_ i.toNat).Y)))) rfl (congrArg V.b (Option.some.inj hp)))) ?_)))))))
         refine Zaj ?_
         exact ⟨rfl,rfl,g'8_0,g'8_1,g'8_10,g'8_13,g'8_2,g'8_3,g'8_9⟩
        ·skip
         refine Z1 rfl b'13 (Z1 rfl b'13 (Z1 rfl b'13 (Z1 rfl b'13 (Z1 rfl b'13 (Z1 rfl b'13 (Z1 rfl b'13 (Z1 rfl b'13 ?_)))))))
         refine ZS rfl (ZU (t:=t7) (v:=.b t8) rfl b'13 (Eq.trans (b:=V.b false) rfl (congrArg V.b (Option.some.inj hp)))) (Zaj ?_)
         exact ⟨rfl,rfl,g'8_0,g'8_1,g'8_10,g'8_13,g'8_2,g'8_3,g'8_9⟩
       rintro frg'9 _ ⟨rfl,g'9_146,g'9_0,g'9_1,g'9_10,g'9_13,g'9_2,g'9_3,g'9_9⟩
       refine Zah (.b t8) g'9_146 ?_
       obtain ⟨t9,hv'10,hp⟩:=Zq hp
       refine Zcd 9 (fun fr' k'=>((k'8.bump 58).bump 58) = k'∧fr' 156 = .b t9∧fr' 0 = v_at_∧fr' 1 = v_l∧fr' 10 = .n d∧fr' 2 = .n i∧fr' 3 = .n w∧fr' 9 = .n a) ?_ ?_
       ·clear hp; rcases Zt hv'10 with ⟨b'14,hp⟩ | ⟨b'14,hp⟩
        ·skip
         refine Z8 rfl b'14 (Zah v_at_ g'9_0 (Z8 rfl b'14 (Zah (.n i) g'9_2 (Z8 rfl b'14 ?_))))
         obtain ⟨c'17,hp⟩:=Zn hp
         refine ZS rfl (zt (E:=Zo) (z:=i) (hO'10.rd0 s_at_.rd:Sl Zo ((k'8.bump 58).bump 58) v_at_ at_) rfl rfl c'17) (Z8 rfl b'14 (ZS rfl (ZaO (off':=0) (off2:=1) (hO'10.rd0 s_at_.rd:Sl Zo ((k'8.bump 58).bump 58) v_at_ at_) (Zj c'17) rfl rfl) (Z8 rfl b'14 (ZS rfl (zX (w:=.n ((gi at_ i.toNat).Y)) (hO'10.rd0 s_at_.rd:Sl Zo ((k'8.bump 58).bump 58) v_at_ at_) rfl (Zj c'17) rfl) (Z8 rfl b'14 (ZS rfl (Zbv (r:=r'2) (o:=0) (o':=1) g'9_13 rfl) (Z8 rfl b'14 ?_)))))))
         refine ZS rfl (ZaK (cs:=(Zo.c (gi at_ (((gi l a.toNat).Next).get d:Int).toNat))) (v:=.n ((gi at_ (((gi l a.toNat).Next).get d:Int).toNat).Y)) (hO'10.box 1 rfl) rfl rfl) (Z8 rfl b'14 (ZS rfl (zO (a:=((gi at_ i.toNat).Y)) (b:=((gi at_ (((gi l a.toNat).Next).get d:Int).toNat).Y)) rfl rfl) (ZS rfl (za (t:=t8) (v:=.b t9) rfl b'14 (Eq.trans (b:=V.b (decide (((gi at_ i.toNat).Y) < ((gi at_ (((gi l a.toNat).Next).get d:Int).toNat).Y)))) rfl (congrArg V.b (Option.some.inj hp)))) (Zaj ?_))))
         exact ⟨rfl,rfl,g'9_0,g'9_1,g'9_10,g'9_2,g'9_3,g'9_9⟩
        ·skip
         refine Z1 rfl b'14 (Z1 rfl b'14 (Z1 rfl b'14 (Z1 rfl b'14 (Z1 rfl b'14 (Z1 rfl b'14 (Z1 rfl b'14 (Z1 rfl b'14 ?_)))))))
         refine ZS rfl (ZU (t:=t8) (v:=.b t9) rfl b'14 (Eq.trans (b:=V.b false) rfl (congrArg V.b (Option.some.inj hp)))) (Zaj ?_)
         exact ⟨rfl,rfl,g'9_0,g'9_1,g'9_10,g'9_2,g'9_3,g'9_9⟩
       rintro frg'10 _ ⟨rfl,g'10_156,g'10_0,g'10_1,g'10_10,g'10_2,g'10_3,g'10_9⟩
       refine Zaj (Zb ?_)
       rcases Zt hp with ⟨b'15,hp⟩ | ⟨b'15,hp⟩
       ·refine zB (t:=t9) g'10_156 b'15 ?_
        refine Zi (Zl (Zd (.b true) rfl (Zc (Zb (zL (Zbd (zh ?_)))))))
        cases hp
        refine (Or.inr ⟨.inr (),rfl,(fun h=>nomatch h),(fun he=>?_)⟩)
        subst he; exact ⟨rfl,rfl,(hO'10.pick [] rfl (by decide))⟩
       ·refine zz (t:=t9) g'10_156 b'15 ?_
        refine zC (Zax (Zb (Zl (Zd (.n d) g'10_10 ?_))))
        obtain ⟨c'18,hp⟩:=Zn hp
        refine Zg (zD (a:=d) (b:=1) rfl rfl c'18) (Zd (.n (d + 1)) rfl (Zc ?_))
        cases hp
        exact (Or.inl ⟨d + 1,rfl,rfl,g'10_0,g'10_1,g'10_2,g'10_3,g'10_9,rfl,(hO'10.pick [] rfl (by decide))⟩)
    ·refine zz (t:=(decide (d < 2))) rfl b'2 ?_
     refine ZbM (Zak ?_)
     cases hp
     refine (Or.inr ⟨.inl (),rfl,(fun h=>nomatch h),(fun he=>?_)⟩)
     subst he; exact ⟨rfl,q'4_0,q'4_1,q'4_2,q'4_3,q'4_9,(hO'4.pick [] rfl (by decide))⟩
   intro e'2 q'3 k'3 hJ'2
   rcases o'3 with _ | _
   ·obtain ⟨rfl,q'3_0,q'3_1,q'3_2,q'3_3,q'3_9,hO'3⟩:=hJ'2
    refine ZaN (Zax (Zb (Zl (Zd (.n a) q'3_9 ?_))))
    obtain ⟨c'19,hp⟩:=Zn hp
    refine Zg (zD (a:=a) (b:=1) rfl rfl c'19) (Zd (.n (a + 1)) rfl (Zc ?_))
    cases hp
    exact (Or.inl ⟨a + 1,rfl,rfl,q'3_0,q'3_1,q'3_2,q'3_3,rfl,(hO'3.pick [] rfl (by decide))⟩)
   ·obtain ⟨rfl,q'3_8,hO'3⟩:=hJ'2
    refine Zbd (Zbd (zh ?_))
    cases hp
    refine (Or.inr ⟨.inr (),rfl,(fun h=>nomatch h),(fun he=>?_)⟩)
    subst he; exact ⟨rfl,q'3_8,(hO'3.pick [] rfl (by decide))⟩
  ·refine zz (t:=(decide (a < (l.length:Int)))) rfl b'1 ?_
   refine ZbM (Zak ?_)
   cases hp
   refine (Or.inr ⟨.inl (),rfl,(fun h=>nomatch h),(fun he=>?_)⟩)
   subst he; exact ⟨rfl,(hO'2.pick [] rfl (by decide))⟩
 intro e'1 q'1 k'1 hJ'1
 rcases o'1 with _ | _
 ·obtain ⟨rfl,hO'1⟩:=hJ'1
  refine ZaN (Zb (Zi (Zl (Zd (.b false) rfl (Zc (Zb (zL ?_)))))))
  refine zf (zl (n:=8) (v:=.b false) rfl ZD) ?_
  cases hp
  exact ⟨rfl,(hO'1.pick [] rfl (by decide))⟩
 ·obtain ⟨rfl,q'1_8,hO'1⟩:=hJ'1
  refine Zbd (zh (zf (zl (n:=8) (v:=.b true) q'1_8 ZD) ?_))
  cases hp
  exact ⟨rfl,(hO'1.pick [] rfl (by decide))⟩

theorem Zaf.ok {h:Hp} {l:List Za} {v:Int} {d:Int} {w:Int} {o:Int} {v_l:V} (s_l:Sl Ze h v_l l) {r:(List Za)} (hp:Zaf l v d w o = some r) :
  ∃ u k',Is G 65 [v_l,.n v,.n d,.n w,.n o] h u k'∧∃ (v'1:V),v'1 = u∧Own (fun r=>r < h.n) h k' [eSl Ze v'1 r]:=by
 refine WC.is (Za7 ZdO ?_)
 unfold Zaf at hp
 let B:Nat→Prop:=(fun r=>r < h.n)
 have hO:Own B h h []:=Own.start0 h
 refine Zi (Zl (Zd (.sn) rfl (Zc (Zb (Zi (Zl (Zd (.sn) rfl ?_)))))))
 refine Zc (Zb (Zi (Zi (Zl (Zd (.n 0) rfl (Zc (Zb ?_)))))))
 refine Zay ?_
 obtain ⟨o'1,ho'1,hp⟩:=Zq hp
 refine W.mono (Q:=fun e fr k=>match (generalizing:=false) o'1 with
   | out1=>e = (.exit 0)∧∃ (v'3:V),fr 11 = v'3∧Own B h k [eSl Ze v'3 out1]) ?_ ?_
 ·clear hp
  have hO'2:=hO.nil Ze
  refine zU (fun st fr k=>match st with | (out,i)=>∃ (v'2:V),fr 0 = v_l∧fr 1 = .n v∧fr 2 = .n d∧fr 3 = .n w∧fr 4 = .n o∧fr 11 = v'2∧fr 12 = .n i∧Own B h k [eSl Ze v'2 out]) ho'1 (s:=(([]:List Za),0)) ⟨V.sn,rfl,rfl,rfl,rfl,rfl,rfl,rfl,(hO'2.pick [0] rfl (by decide))⟩ ?_
  rintro ⟨out,i⟩ q'2 k'2 ⟨v'2,q'2_0,q'2_1,q'2_2,q'2_3,q'2_4,q'2_11,q'2_12,hO'3⟩ o'2 hp
  dsimp only [Zaf.s0] at hp
  refine Zi (Zi (Zl (Zd (.n i) q'2_12 (Zd v_l q'2_0 (Zg (ZaC (hO'3.rd0 s_l.rd) rfl) (Zg (zO (a:=i) (b:=(l.length:Int)) rfl rfl) (Zc ?_)))))))
  refine Zb ?_
  rcases Zt hp with ⟨b'1,hp⟩ | ⟨b'1,hp⟩
  ·refine zB (t:=(decide (i < (l.length:Int)))) rfl b'1 ?_
   refine zC (Zb (Zi (Zay (Zi (Zl (Zd v_l q'2_0 (Zd (.n i) q'2_12 ?_)))))))
   obtain ⟨c'1,hp⟩:=Zn hp
   refine Zg (zt (E:=Ze) (z:=i) (hO'3.rd0 s_l.rd) rfl rfl c'1) (Zg (ZfI (E:=Ze) (hO'3.rd0 s_l.rd) rfl (Zj c'1)) (Za0 (hO'3.alloc (cs:=Ze.c (⟨⟨0,0,0,0⟩,⟨0,0,0,0⟩⟩:Za)) hO'3.fr) ?_))
   rintro _ k'3 ⟨r'1,rfl,n'1,f'1,hW⟩
   have hO'4:=hW
   refine Za0 (hO'4.stb (ws:=Ze.c (gi l i.toNat)) (cs':=Ze.c (gi l i.toNat)) (v:=.ag (Ze.c (gi l i.toNat))) 1 rfl rfl rfl rfl ⟨rfl,Nat.le_of_ble_eq_true rfl,rfl⟩ rfl) ?_
   rintro _ k'4 ⟨rfl,f'2,m'1,hW⟩
   have hO'5:=hW
   refine Zc (Zb (Zi (Zi (Zl (Zd (.n i) q'2_12 (Zd (.n v) q'2_1 (Zg (ZbE (a:=i) (b:=v) rfl rfl) ?_)))))))
   refine Zc (Zb ?_)
   obtain ⟨o'3,ho'2,hp⟩:=Zq hp
   refine W.mono (Q:=fun e fr k=>match (generalizing:=false) o'3 with
     | c=>e = .normal∧fr 0 = v_l∧fr 1 = .n v∧fr 2 = .n d∧fr 3 = .n w∧fr 4 = .n o∧fr 11 = v'2∧fr 12 = .n i∧fr 13 = .p r'1 0∧Own B h k [eSl Ze v'2 out,ZaD r'1 (Ze.c c)]) ?_ ?_
   ·clear hp; have hp:=ho'2; clear ho'2
    rcases Zt hp with ⟨b'2,hp⟩ | ⟨b'2,hp⟩
    ·refine zB (t:=(decide (i = v))) rfl b'2 ?_
     refine Zi (Zl (Zd (.n d) q'2_2 (Zd (.n w) q'2_3 (Zg (Zbv (r:=r'1) (o:=0) (o':=0) rfl rfl) ?_))))
     obtain ⟨c'2,hp⟩:=Zn hp
     refine Zg (Zha (o:=0) (o':=(0 + d.toNat * 1)) (z:=d) rfl rfl c'2 rfl) (Za0 (hO'5.stb (ws:=[.n w]) (cs':=Ze.c ({ gi l i.toNat with Next:=((gi l i.toNat).Next).set d w })) (v:=.n w) 1 rfl rfl rfl rfl ⟨rfl,(by have:=c'2; exact (show 0 + d.toNat * 1 + 1≤8 by omega)),rfl⟩ (Zch c'2)) ?_)
     rintro _ k'6 ⟨rfl,f'3,m'2,hW⟩
     have hO'7:=hW
     refine Zc (Zb (Zl (Zd (.n d) q'2_2 (Zd (.n o) q'2_4 (Zg (Zbv (r:=r'1) (o:=0) (o':=4) rfl rfl) (Zg (Zha (o:=4) (o':=(4 + d.toNat * 1)) (z:=d) rfl rfl c'2 rfl) (Za0 (hO'7.stb (ws:=[.n o]) (cs':=Ze.c ({ { gi l i.toNat with Next:=((gi l i.toNat).Next).set d w } with Owner:=(({ gi l i.toNat with Next:=((gi l i.toNat).Next).set d w }).Owner).set d o })) (v:=.n o) 1 rfl rfl rfl rfl ⟨rfl,(by have:=c'2; exact (show 4 + d.toNat * 1 + 1≤8 by omega)),rfl⟩ (Zcr c'2)) ?_)))))))
     rintro _ k'7 ⟨rfl,f'4,m'3,hW⟩
     have hO'8:=hW
     refine Zc ?_
     cases hp
     exact ⟨rfl,q'2_0,q'2_1,q'2_2,q'2_3,q'2_4,q'2_11,q'2_12,rfl,(hO'8.pick [0,1] rfl (by decide))⟩
    ·refine zz (t:=(decide (i = v))) rfl b'2 ?_
     refine zC ?_
     cases hp
     exact ⟨rfl,q'2_0,q'2_1,q'2_2,q'2_3,q'2_4,q'2_11,q'2_12,rfl,(hO'5.pick [0,1] rfl (by decide))⟩
   intro e'2 q'3 k'5 hJ'2
   obtain ⟨c,rfl⟩:∃ x,x = o'3:=⟨_,rfl⟩
   obtain ⟨rfl,q'3_0,q'3_1,q'3_2,q'3_3,q'3_4,q'3_11,q'3_12,q'3_13,hO'6⟩:=hJ'2
   refine Zb (Zi (Zi (Zl (Zd (.n i) q'3_12 (Zd (.n w) q'3_3 (Zg (ZbE (a:=i) (b:=w) rfl rfl) (Zc ?_)))))))
   refine Zb ?_
   rcases Zt hp with ⟨b'3,hp⟩ | ⟨b'3,hp⟩
   ·refine zB (t:=(decide (i = w))) rfl b'3 ?_
    refine Zi (Zl (Zd (.n d) q'3_2 ?_))
    obtain ⟨c'3,hp⟩:=Zn hp
    refine Zg (zD (a:=d) (b:=2) rfl rfl c'3) (Zg (Zd6 (a:=(d + 2)) (b:=4) rfl rfl (by decide)) (Zd (.n v) q'3_1 (Zg (Zbv (r:=r'1) (o:=0) (o':=0) q'3_13 rfl) ?_)))
    obtain ⟨c'4,hp⟩:=Zn hp
    refine Zg (Zha (o:=0) (o':=(0 + ((d + 2).tmod 4:Int).toNat * 1)) (z:=((d + 2).tmod 4)) rfl rfl c'4 rfl) (Za0 (hO'6.stb (ws:=[.n v]) (cs':=Ze.c ({ c with Next:=c.Next.set ((d + 2).tmod 4) v })) (v:=.n v) 1 rfl rfl rfl rfl ⟨rfl,(by have:=c'4; exact (show 0 + ((d + 2).tmod 4:Int).toNat * 1 + 1≤8 by omega)),rfl⟩ (Zch c'4)) ?_)
    rintro _ k'8 ⟨rfl,f'5,m'4,hW⟩
    have hO'9:=hW
    refine Zc (Zb (Zl (Zd (.n d) q'3_2 (Zg (zD (a:=d) (b:=2) rfl rfl c'3) (Zg (Zd6 (a:=(d + 2)) (b:=4) rfl rfl (by decide)) (Zd (.n o) q'3_4 (Zg (Zbv (r:=r'1) (o:=0) (o':=4) q'3_13 rfl) ?_)))))))
    refine Zg (Zha (o:=4) (o':=(4 + ((d + 2).tmod 4:Int).toNat * 1)) (z:=((d + 2).tmod 4)) rfl rfl c'4 rfl) (Za0 (hO'9.stb (ws:=[.n o]) (cs':=Ze.c ({ { c with Next:=c.Next.set ((d + 2).tmod 4) v } with Owner:=(({ c with Next:=c.Next.set ((d + 2).tmod 4) v }).Owner).set ((d + 2).tmod 4) o })) (v:=.n o) 1 rfl rfl rfl rfl ⟨rfl,(by have:=c'4; exact (show 4 + ((d + 2).tmod 4:Int).toNat * 1 + 1≤8 by omega)),rfl⟩ (Zcr c'4)) ?_)
    rintro _ k'9 ⟨rfl,f'6,m'5,hW⟩
    have hO'10:=hW
    refine Zc (Zb (Zl (Zd v'2 q'3_11 (Zg (Zce (cs:=(Ze.c ({ { c with Next:=c.Next.set ((d + 2).tmod 4) v } with Owner:=(({ c with Next:=c.Next.set ((d + 2).tmod 4) v }).Owner).set ((d + 2).tmod 4) o }))) (ws:=Ze.c ({ { c with Next:=c.Next.set ((d + 2).tmod 4) v } with Owner:=(({ c with Next:=c.Next.set ((d + 2).tmod 4) v }).Owner).set ((d + 2).tmod 4) o })) (hO'10.box 1 rfl) q'3_13 rfl) (Za0 (hO'10.bsl (E:=Ze) (l:=[{ { c with Next:=c.Next.set ((d + 2).tmod 4) v } with Owner:=(({ c with Next:=c.Next.set ((d + 2).tmod 4) v }).Owner).set ((d + 2).tmod 4) o }]) hO'10.fr (by rw [(Zae (v:=.ag (Ze.c ({ { c with Next:=c.Next.set ((d + 2).tmod 4) v } with Owner:=(({ c with Next:=c.Next.set ((d + 2).tmod 4) v }).Owner).set ((d + 2).tmod 4) o }))) rfl Zb3)]; rfl) rfl) ?_)))))
    rintro v'4 k'10 ⟨r'2,f'7,hW⟩
    have hO'11:=hW
    obtain ⟨c'5,hp⟩:=Zn hp
    refine Za0 (hO'11.app (E:=Ze) (bytes:=64) 0 hO'11.fr rfl (hO'11.sl 2 rfl:Sl Ze k'10 v'4 [{ { c with Next:=c.Next.set ((d + 2).tmod 4) v } with Owner:=(({ c with Next:=c.Next.set ((d + 2).tmod 4) v }).Owner).set ((d + 2).tmod 4) o }]) rfl rfl (fun _=>rfl) c'5 (by decide)) ?_
    rintro v'5 k'11 ⟨f'8,hW⟩
    have hO'12:=hW
    refine Zd v'5 rfl (Zc (Zax (Zb (Zl (Zd (.n i) q'3_12 ?_)))))
    obtain ⟨c'6,hp⟩:=Zn hp
    refine Zg (zD (a:=i) (b:=1) rfl rfl c'6) (Zd (.n (i + 1)) rfl (Zc ?_))
    cases hp
    exact (Or.inl ⟨(out++[{ { c with Next:=c.Next.set ((d + 2).tmod 4) v } with Owner:=(({ c with Next:=c.Next.set ((d + 2).tmod 4) v }).Owner).set ((d + 2).tmod 4) o }],i + 1),rfl,rfl,v'5,q'3_0,q'3_1,q'3_2,q'3_3,q'3_4,rfl,rfl,(hO'12.pick [0] rfl (by decide))⟩)
   ·refine zz (t:=(decide (i = w))) rfl b'3 ?_
    refine zC (Zb (Zl (Zd v'2 q'3_11 (Zg (Zce (cs:=(Ze.c c)) (ws:=Ze.c c) (hO'6.box 1 rfl) q'3_13 rfl) (Za0 (hO'6.bsl (E:=Ze) (l:=[c]) hO'6.fr (by rw [(Zae (v:=.ag (Ze.c c)) rfl Zb3)]; rfl) rfl) ?_)))))
    rintro v'6 k'12 ⟨r'3,f'9,hW⟩
    have hO'13:=hW
    obtain ⟨c'7,hp⟩:=Zn hp
    refine Za0 (hO'13.app (E:=Ze) (bytes:=64) 0 hO'13.fr rfl (hO'13.sl 2 rfl) rfl rfl (fun _=>rfl) c'7 (by decide)) ?_
    rintro v'7 k'13 ⟨f'10,hW⟩
    have hO'14:=hW
    refine Zd v'7 rfl (Zc (Zax (Zb (Zl (Zd (.n i) q'3_12 ?_)))))
    obtain ⟨c'8,hp⟩:=Zn hp
    refine Zg (zD (a:=i) (b:=1) rfl rfl c'8) (Zd (.n (i + 1)) rfl (Zc ?_))
    cases hp
    exact (Or.inl ⟨(out++[c],i + 1),rfl,rfl,v'7,q'3_0,q'3_1,q'3_2,q'3_3,q'3_4,rfl,rfl,(hO'14.pick [0] rfl (by decide))⟩)
  ·refine zz (t:=(decide (i < (l.length:Int)))) rfl b'1 ?_
   refine ZbM (Zak ?_)
   cases hp
   refine (Or.inr ⟨out,rfl,(fun h=>nomatch h),(fun he=>?_)⟩)
   subst he; exact ⟨rfl,v'2,q'2_11,(hO'3.pick [0] rfl (by decide))⟩
 intro e'1 q'1 k'1 hJ'1
 obtain ⟨out1,rfl⟩:∃ x,x = o'1:=⟨_,rfl⟩
 obtain ⟨rfl,v'3,q'1_11,hO'1⟩:=hJ'1
 refine ZaN (Zb (Zi (Zl (Zd v'3 q'1_11 (Zd v'3 rfl (Zc (Zb ?_)))))))
 refine zL (zf (zl (n:=10) (v:=v'3) rfl ZD) ?_)
 cases hp
 exact ⟨v'3,rfl,(hO'1.pick [0] rfl (by decide))⟩

theorem ZE.ok {h:Hp} {z:zy} {most:Int} {v_z_At:V} {v_z_Bits:V} {v_z_Own:V} (s_z_At:Sl ZgK h v_z_At z.At) (s_z_Bits:Sl ZgK h v_z_Bits z.Bits) (s_z_Own:Sl Zjq h v_z_Own z.Own) {r:(List Za) × (List Zv)} (hp:ZE z most = some r) :
  ∃ u k',Is G 28 [.ag [v_z_At,v_z_Bits,v_z_Own],.n most] h u k'∧∃ (v'1:V),∃ (v'2:V),V.tu [v'1,v'2] = u∧Own (fun r=>r < h.n) h k' [eSl Ze v'1 r.1,eSl Zo v'2 r.2]:=by
 refine WC.is (Za7 ZdN ?_)
 unfold ZE at hp
 let B:Nat→Prop:=(fun r=>r < h.n)
 have hO:Own B h h []:=Own.start0 h
 refine Zi (Zl (Za0 (hO.boxd (v:=.ag [v_z_At,v_z_Bits,v_z_Own]) (cs:=[v_z_At,v_z_Bits,v_z_Own]) hO.fr rfl rfl) ?_))
 rintro _ k'1 ⟨r'1,rfl,n'1,f'1,hW⟩
 have hO'1:=hW
 refine Zd (.sn) rfl (Zd (.sn) rfl (Zc (Zb (Zi (Zl (Zd (.sn) rfl (Zc ?_)))))))
 refine Zb (Zi (Zi (Zl (Zd (.n 0) rfl (Zc (Zb (Zay ?_)))))))
 obtain ⟨o'1,ho'1,hp⟩:=Zq hp
 refine W.mono (Q:=fun e fr k=>match (generalizing:=false) o'1 with
   | at_1=>e = (.exit 0)∧∃ (v'4:V),fr 2 = .p r'1 0∧fr 6 = v'4∧Own B h k [ZaD r'1 [v_z_At,v_z_Bits,v_z_Own],eSl Zo v'4 at_1]) ?_ ?_
 ·clear hp
  have hO'3:=hO'1.nil Zo
  refine zU (fun st fr k=>match st with | (at_,i)=>∃ (v'3:V),fr 1 = .n most∧fr 2 = .p r'1 0∧fr 6 = v'3∧fr 7 = .n i∧Own B h k [ZaD r'1 [v_z_At,v_z_Bits,v_z_Own],eSl Zo v'3 at_]) ho'1 (s:=(([]:List Zv),0)) ⟨V.sn,rfl,rfl,rfl,rfl,(hO'3.pick [0,1] rfl (by decide))⟩ ?_
  rintro ⟨at_,i⟩ q'2 k'3 ⟨v'3,q'2_1,q'2_2,q'2_6,q'2_7,hO'4⟩ o'2 hp
  dsimp only [ZE.s0] at hp
  refine Zi (Zi (Zl (Zd (.n i) q'2_7 (Zg (Zbv (r:=r'1) (o:=0) (o':=0) q'2_2 rfl) (Zg (ZaK (cs:=[v_z_At,v_z_Bits,v_z_Own]) (v:=v_z_At) (hO'4.box 0 rfl) rfl rfl) (Zg (ZaC (hO'4.rd0 s_z_At.rd) rfl) (Zg (zO (a:=i) (b:=(z.At.length:Int)) rfl rfl) ?_)))))))
  refine Zd (.b (decide (i < (z.At.length:Int)))) rfl ?_
  refine Zaa 5 (fun fr' k'=>k'3 = k'∧fr' 28 = .b ((decide (i < (z.At.length:Int))) && (decide ((at_.length:Int) < most)))∧fr' 1 = .n most∧fr' 2 = .p r'1 0∧fr' 6 = v'3∧fr' 7 = .n i) ?_ ?_
  ·rcases bc (decide (i < (z.At.length:Int))) with b'1 | b'1
   ·skip
    refine Z7 rfl b'1 (Zd v'3 q'2_6 (Z7 rfl b'1 (Zg (ZaC (hO'4.sl 1 rfl) rfl) (Z7 rfl b'1 (Zd (.n most) q'2_1 (Z7 rfl b'1 (Zg (zO (a:=(at_.length:Int)) (b:=most) rfl rfl) ?_)))))))
    refine Zg (za (t:=(decide (i < (z.At.length:Int)))) (v:=.b ((decide (i < (z.At.length:Int))) && (decide ((at_.length:Int) < most)))) rfl b'1 (Eq.trans (b:=V.b (decide ((at_.length:Int) < most))) rfl (Zcs b'1))) (Zc ?_)
    exact ⟨rfl,rfl,q'2_1,q'2_2,q'2_6,q'2_7⟩
   ·skip
    refine Zw rfl b'1 (Zw rfl b'1 (Zw rfl b'1 (Zw rfl b'1 (Zg (ZU (t:=(decide (i < (z.At.length:Int)))) (v:=.b ((decide (i < (z.At.length:Int))) && (decide ((at_.length:Int) < most)))) rfl b'1 (Eq.trans (b:=V.b false) rfl (ZbW b'1))) (Zc ?_)))))
    exact ⟨rfl,rfl,q'2_1,q'2_2,q'2_6,q'2_7⟩
  rintro frg'1 _ ⟨rfl,g'1_28,g'1_1,g'1_2,g'1_6,g'1_7⟩
  refine Zc (Zb ?_)
  rcases Zt hp with ⟨b'2,hp⟩ | ⟨b'2,hp⟩
  ·refine zB (t:=((decide (i < (z.At.length:Int))) && (decide ((at_.length:Int) < most)))) g'1_28 b'2 ?_
   refine zC (Zb (Zi (Zay (Zi (Zh8 ?_)))))
   have hW:=hO'4.bump 18
   have fr'1:=Fresh.start k'3 18
   have nb'1:∀ {i:Nat},h.n≤k'3.n + i:=Nat.le_trans hO'4.n (Nat.le_add_right _ _)
   have hO'5:=hW
   refine Zar (Zbv (r:=r'1) (o:=0) (o':=0) g'1_2 rfl) (Zar (ZaK (cs:=[v_z_At,v_z_Bits,v_z_Own]) (v:=v_z_At) (hO'5.box 0 rfl) rfl rfl) (ZbD (.n i) g'1_7 ?_))
   obtain ⟨c'1,hp⟩:=Zn hp
   refine Zar (zt (E:=ZgK) (z:=i) (hO'5.rd0 s_z_At.rd) rfl rfl c'1) (Zar (zX (w:=.i .u8 (gi z.At i.toNat)) (hO'5.rd0 s_z_At.rd) rfl (Zj c'1) rfl) ?_)
   obtain ⟨c'2,hp⟩:=Zn hp
   refine Zar (Zgv (a:=(gi z.At i.toNat)) rfl c'2) (Zar (Zd6 (a:=(gi z.At i.toNat)) (b:=8) rfl rfl (by decide)) (Zar (Zbv (r:=r'1) (o:=0) (o':=0) g'1_2 rfl) (Zar (ZaK (cs:=[v_z_At,v_z_Bits,v_z_Own]) (v:=v_z_At) (hO'5.box 0 rfl) rfl rfl) (ZbD (.n i) g'1_7 (Zar (zt (E:=ZgK) (z:=i) (hO'5.rd0 s_z_At.rd) rfl rfl c'1) (Zar (zX (w:=.i .u8 (gi z.At i.toNat)) (hO'5.rd0 s_z_At.rd) rfl (Zj c'1) rfl) (Zar (Zgv (a:=(gi z.At i.toNat)) rfl c'2) ?_)))))))
   obtain ⟨c'3,hp⟩:=Zn hp
   refine Zar (ZoM (a:=(gi z.At i.toNat)) (b:=8) rfl rfl c'3) (Zar (Zd6 (a:=((gi z.At i.toNat).tdiv 8)) (b:=8) rfl rfl (by decide)) (Zar (Zdo (cs:=Zo.c (⟨(gi z.At i.toNat).tmod 8,((gi z.At i.toNat).tdiv 8).tmod 8⟩:Zv)) (by rw [(Zae (v:=.n ((gi z.At i.toNat).tmod 8)) rfl (Zae (v:=.n (((gi z.At i.toNat).tdiv 8).tmod 8)) rfl Zb3))]; rfl)) (ZfM (hO'5.alloc (cs:=Zo.c (⟨0,0⟩:Zv)) ⟨fr'1.m 16 (by decide) (by decide),nb'1⟩) ?_)))
   rintro _ k'5 z'1 ⟨r'2,rfl,n'2,f'2,hW⟩
   have fr'2:=fr'1.kept f'2 (by decide)
   have hO'6:=hW
   refine ZfM (hO'6.stb (ws:=Zo.c (⟨(gi z.At i.toNat).tmod 8,((gi z.At i.toNat).tdiv 8).tmod 8⟩:Zv)) (cs':=Zo.c (⟨(gi z.At i.toNat).tmod 8,((gi z.At i.toNat).tdiv 8).tmod 8⟩:Zv)) (v:=.ag (Zo.c (⟨(gi z.At i.toNat).tmod 8,((gi z.At i.toNat).tdiv 8).tmod 8⟩:Zv))) 2 rfl rfl rfl rfl ⟨rfl,Nat.le_of_ble_eq_true rfl,rfl⟩ rfl) ?_
   rintro _ k'6 z'2 ⟨rfl,f'3,m'1,hW⟩
   have fr'3:=fr'2.kept f'3 (by decide)
   have hO'7:=hW
   refine Zdn ?_
   refine And.intro ?_ ?_
   ·intro q hq
    simp only [List.mem_cons,List.not_mem_nil,or_false] at hq
    rcases hq with rfl | rfl | rfl | rfl | rfl | rfl | rfl | rfl
    ·refine Zct ?_ ?_
     ·exact (fun h=>nomatch h)
     ·exact (fun h=>nomatch h)
    ·refine Zct ?_ ?_
     ·exact (fun h=>nomatch h)
     ·exact (fun h=>nomatch h)
    ·refine Zct ?_ ?_
     ·exact (fun h=>nomatch h)
     ·exact (fun h=>nomatch h)
    ·refine Zct ?_ ?_
     ·exact (fun h=>nomatch h)
     ·exact (fun h=>nomatch h)
    ·refine Zct ?_ ?_
     ·exact (fun h=>nomatch h)
     ·exact (fun _ hm=>Nat.lt_irrefl _ (Nat.lt_of_lt_of_le (hO'4.ltAt 0 rfl _ (tch (v:=V.p r'1 0) (Zdj hm) rfl)) (Nat.le_add_right _ _)))
    ·refine Zct ?_ ?_
     ·exact (fun h=>nomatch h)
     ·exact (fun _ hm=>Nat.lt_irrefl _ (Nat.lt_of_lt_of_le (Nat.lt_of_lt_of_le (hO'4.lo _ (Rd.B s_z_At.rd hO'4.lo (Zj c'1) _ (Zcl (tch (v:=V.elt v_z_At i.toNat 0) (Zdj hm) rfl)))) hO'4.n) (Nat.le_add_right _ _)))
    ·refine Zct ?_ ?_
     ·exact (fun h=>nomatch h)
     ·exact (fun _ hm=>Nat.lt_irrefl _ (Nat.lt_of_lt_of_le (hO'4.ltAt 0 rfl _ (tch (v:=V.p r'1 0) (Zdj hm) rfl)) (Nat.le_add_right _ _)))
    ·refine Zct ?_ ?_
     ·exact (fun h=>nomatch h)
     ·exact (fun _ hm=>Nat.lt_irrefl _ (Nat.lt_of_lt_of_le (Nat.lt_of_lt_of_le (hO'4.lo _ (Rd.B s_z_At.rd hO'4.lo (Zj c'1) _ (Zcl (tch (v:=V.elt v_z_At i.toNat 0) (Zdj hm) rfl)))) hO'4.n) (Nat.le_add_right _ _)))
   refine Zb (Zi (Zl (Zd (.b false) rfl (Zc (Zb (Zi (Zi ?_)))))))
   refine Zl (Zd (.n 0) rfl (Zc (Zb (Zay ?_))))
   obtain ⟨o'3,ho'2,hp⟩:=Zq hp
   refine W.mono (Q:=fun e fr k=>match (generalizing:=false) o'3 with
     | (at_2,met1)=>e = (.exit 2)∧fr 1 = .n most∧fr 2 = .p r'1 0∧fr 6 = v'3∧fr 7 = .n i∧fr 8 = .p r'2 0∧fr 9 = .b met1∧Own B h k [ZaD r'1 [v_z_At,v_z_Bits,v_z_Own],eSl Zo v'3 at_2,ZaD r'2 (Zo.c (⟨(gi z.At i.toNat).tmod 8,((gi z.At i.toNat).tdiv 8).tmod 8⟩:Zv))]) ?_ ?_
   ·clear hp
    refine zU (fun st fr k=>match st with | (met,k_)=>fr 1 = .n most∧fr 2 = .p r'1 0∧fr 6 = v'3∧fr 7 = .n i∧fr 8 = .p r'2 0∧fr 9 = .b met∧fr 10 = .n k_∧Own B h k [ZaD r'1 [v_z_At,v_z_Bits,v_z_Own],eSl Zo v'3 at_,ZaD r'2 (Zo.c (⟨(gi z.At i.toNat).tmod 8,((gi z.At i.toNat).tdiv 8).tmod 8⟩:Zv))]) ho'2 (s:=(false,0)) ⟨g'1_1,g'1_2,g'1_6,g'1_7,rfl,rfl,rfl,(hO'7.pick [0,1,2] rfl (by decide))⟩ ?_
    rintro ⟨met,k_⟩ q'4 k'8 ⟨q'4_1,q'4_2,q'4_6,q'4_7,q'4_8,q'4_9,q'4_10,hO'9⟩ o'4 hp
    dsimp only [ZE.s1] at hp
    refine Zi (Zi (Zl (Zd (.n k_) q'4_10 (Zd v'3 q'4_6 (Zg (ZaC (hO'9.sl 1 rfl) rfl) (Zg (zO (a:=k_) (b:=(at_.length:Int)) rfl rfl) (Zc ?_)))))))
    refine Zb ?_
    rcases Zt hp with ⟨b'3,hp⟩ | ⟨b'3,hp⟩
    ·refine zB (t:=(decide (k_ < (at_.length:Int)))) rfl b'3 ?_
     refine zC (Zb (Zi (Zay (ZgZ ?_))))
     have hW:=hO'9.bump 10
     have hO'10:=hW
     refine Zah (.b met) q'4_9 (Zah (.b met) rfl ?_)
     obtain ⟨t,hv'1,hp⟩:=Zq hp
     refine Zcd 7 (fun fr' k'=>(k'8.bump 10) = k'∧fr' 61 = .b t∧fr' 1 = .n most∧fr' 10 = .n k_∧fr' 2 = .p r'1 0∧fr' 6 = v'3∧fr' 7 = .n i∧fr' 8 = .p r'2 0) ?_ ?_
     ·clear hp; rcases Zt hv'1 with ⟨b'4,hp⟩ | ⟨b'4,hp⟩
      ·skip
       refine Z1 rfl b'4 (Z1 rfl b'4 (Z1 rfl b'4 (Z1 rfl b'4 (Z1 rfl b'4 (Z1 rfl b'4 (ZS rfl (za (t:=met) (v:=.b t) rfl b'4 (Eq.trans (b:=V.b true) rfl (congrArg V.b (Option.some.inj hp)))) (Zaj ?_)))))))
       exact ⟨rfl,rfl,q'4_1,q'4_10,q'4_2,q'4_6,q'4_7,q'4_8⟩
      ·skip
       refine Z8 rfl b'4 (Zah v'3 q'4_6 (Z8 rfl b'4 (Zah (.n k_) q'4_10 (Z8 rfl b'4 ?_))))
       obtain ⟨c'4,hp⟩:=Zn hp
       refine ZS rfl (zt (E:=Zo) (z:=k_) (hO'10.sl 1 rfl) rfl rfl c'4) (Z8 rfl b'4 (ZS rfl (ZfI (E:=Zo) (hO'10.sl 1 rfl) rfl (Zj c'4)) (Z8 rfl b'4 (ZS rfl (Zce (cs:=(Zo.c (⟨(gi z.At i.toNat).tmod 8,((gi z.At i.toNat).tdiv 8).tmod 8⟩:Zv))) (ws:=Zo.c (⟨(gi z.At i.toNat).tmod 8,((gi z.At i.toNat).tdiv 8).tmod 8⟩:Zv)) (hO'10.box 2 rfl) q'4_8 rfl) (Z8 rfl b'4 (ZS rfl (ZoI (as:=Zo.c (gi at_ k_.toNat)) (bs:=Zo.c (⟨(gi z.At i.toNat).tmod 8,((gi z.At i.toNat).tdiv 8).tmod 8⟩:Zv)) rfl rfl (Mu.Zo.same _ _)) (ZS rfl (ZU (t:=met) (v:=.b t) rfl b'4 (Eq.trans (b:=V.b (decide (gi at_ k_.toNat = (⟨(gi z.At i.toNat).tmod 8,((gi z.At i.toNat).tdiv 8).tmod 8⟩:Zv)))) rfl (congrArg V.b (Option.some.inj hp)))) ?_)))))))
       refine Zaj ?_
       exact ⟨rfl,rfl,q'4_1,q'4_10,q'4_2,q'4_6,q'4_7,q'4_8⟩
     rintro frg'2 _ ⟨rfl,g'2_61,g'2_1,g'2_10,g'2_2,g'2_6,g'2_7,g'2_8⟩
     refine Zah (.b t) g'2_61 (Zaj (Zax (Zb (Zl (Zd (.n k_) g'2_10 ?_)))))
     obtain ⟨c'5,hp⟩:=Zn hp
     refine Zg (zD (a:=k_) (b:=1) rfl rfl c'5) (Zd (.n (k_ + 1)) rfl (Zc ?_))
     cases hp
     exact (Or.inl ⟨(t,k_ + 1),rfl,rfl,g'2_1,g'2_2,g'2_6,g'2_7,g'2_8,rfl,rfl,(hO'10.pick [0,1,2] rfl (by decide))⟩)
    ·refine zz (t:=(decide (k_ < (at_.length:Int)))) rfl b'3 ?_
     refine ZbM (Zak ?_)
     cases hp
     refine (Or.inr ⟨(at_,met),rfl,(fun h=>nomatch h),(fun he=>?_)⟩)
     subst he; exact ⟨rfl,q'4_1,q'4_2,q'4_6,q'4_7,q'4_8,q'4_9,(hO'9.pick [0,1,2] rfl (by decide))⟩
   intro e'2 q'3 k'7 hJ'2
   obtain ⟨at_2,met1⟩:=o'3
   obtain ⟨rfl,q'3_1,q'3_2,q'3_6,q'3_7,q'3_8,q'3_9,hO'8⟩:=hJ'2
   refine ZaN (Zb (Zi (Zl (Zd (.b met1) q'3_9 (Zg (Zcp (t:=met1) rfl) (Zc (Zb ?_)))))))
   rcases Zt hp with ⟨b'5,hp⟩ | ⟨b'5,hp⟩
   ·refine zB (t:=(!met1)) rfl b'5 ?_
    refine Zl (Zd v'3 q'3_6 (Zg (Zce (cs:=(Zo.c (⟨(gi z.At i.toNat).tmod 8,((gi z.At i.toNat).tdiv 8).tmod 8⟩:Zv))) (ws:=Zo.c (⟨(gi z.At i.toNat).tmod 8,((gi z.At i.toNat).tdiv 8).tmod 8⟩:Zv)) (hO'8.box 2 rfl) q'3_8 rfl) (Za0 (hO'8.bsl (E:=Zo) (l:=[(⟨(gi z.At i.toNat).tmod 8,((gi z.At i.toNat).tdiv 8).tmod 8⟩:Zv)]) hO'8.fr (by rw [(Zae (v:=.ag (Zo.c (⟨(gi z.At i.toNat).tmod 8,((gi z.At i.toNat).tdiv 8).tmod 8⟩:Zv))) rfl Zb3)]; rfl) rfl) ?_)))
    rintro v'5 k'10 ⟨r'3,f'4,hW⟩
    have hO'11:=hW
    obtain ⟨c'6,hp⟩:=Zn hp
    refine Za0 (hO'11.app (E:=Zo) (bytes:=16) 1 hO'11.fr rfl (hO'11.sl 3 rfl:Sl Zo k'10 v'5 [(⟨(gi z.At i.toNat).tmod 8,((gi z.At i.toNat).tdiv 8).tmod 8⟩:Zv)]) rfl rfl (fun _=>rfl) c'6 (by decide)) ?_
    rintro v'6 k'11 ⟨f'5,hW⟩
    have hO'12:=hW
    refine Zd v'6 rfl (Zc (Zax (Zb (Zl (Zd (.n i) q'3_7 ?_)))))
    obtain ⟨c'7,hp⟩:=Zn hp
    refine Zg (zD (a:=i) (b:=1) rfl rfl c'7) (Zd (.n (i + 1)) rfl (Zc ?_))
    cases hp
    exact (Or.inl ⟨(at_2++[(⟨(gi z.At i.toNat).tmod 8,((gi z.At i.toNat).tdiv 8).tmod 8⟩:Zv)],i + 1),rfl,rfl,v'6,q'3_1,q'3_2,rfl,rfl,(hO'12.pick [0,1] rfl (by decide))⟩)
   ·refine zz (t:=(!met1)) rfl b'5 ?_
    refine zC (Zax (Zb (Zl (Zd (.n i) q'3_7 ?_))))
    obtain ⟨c'8,hp⟩:=Zn hp
    refine Zg (zD (a:=i) (b:=1) rfl rfl c'8) (Zd (.n (i + 1)) rfl (Zc ?_))
    cases hp
    exact (Or.inl ⟨(at_2,i + 1),rfl,rfl,v'3,q'3_1,q'3_2,q'3_6,rfl,(hO'8.pick [0,1] rfl (by decide))⟩)
  ·refine zz (t:=((decide (i < (z.At.length:Int))) && (decide ((at_.length:Int) < most)))) g'1_28 b'2 ?_
   refine ZbM (Zak ?_)
   cases hp
   refine (Or.inr ⟨at_,rfl,(fun h=>nomatch h),(fun he=>?_)⟩)
   subst he; exact ⟨rfl,v'3,g'1_2,g'1_6,(hO'4.pick [0,1] rfl (by decide))⟩
 intro e'1 q'1 k'2 hJ'1
 obtain ⟨at_1,rfl⟩:∃ x,x = o'1:=⟨_,rfl⟩
 obtain ⟨rfl,v'4,q'1_2,q'1_6,hO'2⟩:=hJ'1
 refine ZaN (Zb (Zi (Zl (Zd v'4 q'1_6 (Zg (ZaC (hO'2.sl 1 rfl) rfl) ?_)))))
 obtain ⟨x,hx'1,hp⟩:=Zq hp
 obtain ⟨u'1,k'12,ca'1,v'7,rfl,hW'1⟩:=zw.ok (h:=k'2)   hx'1
 refine Zai (id:=46) (caps:=[]) rfl (Zp (v:=.n (at_1.length:Int)) rfl ZK) ca'1 ?_
 have hO'13:=hO'2.call hW'1 rfl
 refine Zd v'7 rfl (Zc (Zb (Zi (Zi (Zl (Zd (.n 0) rfl (Zc ?_)))))))
 refine Zb (Zay ?_)
 obtain ⟨o'5,ho'3,hp⟩:=Zq hp
 refine W.mono (Q:=fun e fr k=>match (generalizing:=false) o'5 with
   | (at_4,l1)=>e = (.exit 4)∧∃ (v'9:V),fr 6 = v'4∧fr 11 = v'9∧Own B h k [eSl Zo v'4 at_4,eSl Ze v'9 l1]) ?_ ?_
 ·clear hp
  refine zU (fun st fr k=>match st with | (at_3,l,i1)=>∃ (v'8:V),fr 2 = .p r'1 0∧fr 6 = v'4∧fr 11 = v'8∧fr 12 = .n i1∧Own B h k [ZaD r'1 [v_z_At,v_z_Bits,v_z_Own],eSl Zo v'4 at_3,eSl Ze v'8 l]) ho'3 (s:=(at_1,x,0)) ⟨v'7,q'1_2,q'1_6,rfl,rfl,(hO'13.pick [0,1,2] rfl (by decide))⟩ ?_
  rintro ⟨at_3,l,i1⟩ q'6 k'14 ⟨v'8,q'6_2,q'6_6,q'6_11,q'6_12,hO'15⟩ o'6 hp
  dsimp only [ZE.s2] at hp
  refine Zi (Zi (Zl (Zd (.n i1) q'6_12 (Zd v'4 q'6_6 (Zg (ZaC (hO'15.sl 1 rfl) rfl) (Zg (zO (a:=i1) (b:=(at_3.length:Int)) rfl rfl) (Zc ?_)))))))
  refine Zb ?_
  rcases Zt hp with ⟨b'6,hp⟩ | ⟨b'6,hp⟩
  ·refine zB (t:=(decide (i1 < (at_3.length:Int)))) rfl b'6 ?_
   refine zC (Zb (Zi (Zay (Zi (Zl (Zd (.i .u8 3) rfl (Zc ?_)))))))
   refine Zb (Zi (Zi (Zl (Zd (.n i1) q'6_12 (Zg (Zbv (r:=r'1) (o:=0) (o':=1) q'6_2 rfl) (Zg (ZaK (cs:=[v_z_At,v_z_Bits,v_z_Own]) (v:=v_z_Bits) (hO'15.box 0 rfl) rfl rfl) (Zg (ZaC (hO'15.rd0 s_z_Bits.rd) rfl) ?_)))))))
   refine Zg (zO (a:=i1) (b:=(z.Bits.length:Int)) rfl rfl) (Zc (Zb ?_))
   obtain ⟨o'7,ho'4,hp⟩:=Zq hp
   refine W.mono (Q:=fun e fr k=>match (generalizing:=false) o'7 with
     | (at_5,l2,bits)=>e = .normal∧fr 2 = .p r'1 0∧fr 6 = v'4∧fr 11 = v'8∧fr 12 = .n i1∧fr 13 = .i .u8 bits∧Own B h k [ZaD r'1 [v_z_At,v_z_Bits,v_z_Own],eSl Zo v'4 at_5,eSl Ze v'8 l2]) ?_ ?_
   ·clear hp; have hp:=ho'4; clear ho'4
    rcases Zt hp with ⟨b'7,hp⟩ | ⟨b'7,hp⟩
    ·refine zB (t:=(decide (i1 < (z.Bits.length:Int)))) rfl b'7 ?_
     refine Zl (Zg (Zbv (r:=r'1) (o:=0) (o':=1) q'6_2 rfl) (Zg (ZaK (cs:=[v_z_At,v_z_Bits,v_z_Own]) (v:=v_z_Bits) (hO'15.box 0 rfl) rfl rfl) (Zd (.n i1) q'6_12 ?_)))
     obtain ⟨c'9,hp⟩:=Zn hp
     refine Zg (zt (E:=ZgK) (z:=i1) (hO'15.rd0 s_z_Bits.rd) rfl rfl c'9) (Zg (zX (w:=.i .u8 (gi z.Bits i1.toNat)) (hO'15.rd0 s_z_Bits.rd) rfl (Zj c'9) rfl) (Zd (.i .u8 (gi z.Bits i1.toNat)) rfl (Zc ?_)))
     cases hp
     exact ⟨rfl,q'6_2,q'6_6,q'6_11,q'6_12,rfl,(hO'15.pick [0,1,2] rfl (by decide))⟩
    ·refine zz (t:=(decide (i1 < (z.Bits.length:Int)))) rfl b'7 ?_
     refine zC ?_
     cases hp
     exact ⟨rfl,q'6_2,q'6_6,q'6_11,q'6_12,rfl,(hO'15.pick [0,1,2] rfl (by decide))⟩
   intro e'4 q'7 k'15 hJ'4
   obtain ⟨at_5,l2,bits⟩:=o'7
   obtain ⟨rfl,q'7_2,q'7_6,q'7_11,q'7_12,q'7_13,hO'16⟩:=hJ'4
   refine Zb (Zi (Zl (Zd (.n i1) q'7_12 (Zd (.n i1) rfl (Zc (Zb (Zi ?_)))))))
   refine Zi (Zl (Zd (.n i1) q'7_12 (Zg (Zbv (r:=r'1) (o:=0) (o':=2) q'7_2 rfl) (Zg (ZaK (cs:=[v_z_At,v_z_Bits,v_z_Own]) (v:=v_z_Own) (hO'16.box 0 rfl) rfl rfl) (Zg (ZaC (hO'16.rd0 s_z_Own.rd) rfl) (Zg (zO (a:=i1) (b:=(z.Own.length:Int)) rfl rfl) (Zc ?_)))))))
   refine Zb ?_
   obtain ⟨o'8,ho'5,hp⟩:=Zq hp
   refine W.mono (Q:=fun e fr k=>match (generalizing:=false) o'8 with
     | (at_6,l3,own)=>e = .normal∧fr 2 = .p r'1 0∧fr 6 = v'4∧fr 11 = v'8∧fr 12 = .n i1∧fr 13 = .i .u8 bits∧fr 14 = .n own∧Own B h k [ZaD r'1 [v_z_At,v_z_Bits,v_z_Own],eSl Zo v'4 at_6,eSl Ze v'8 l3]) ?_ ?_
   ·clear hp; have hp:=ho'5; clear ho'5
    rcases Zt hp with ⟨b'8,hp⟩ | ⟨b'8,hp⟩
    ·refine zB (t:=(decide (i1 < (z.Own.length:Int)))) rfl b'8 ?_
     refine Zi (Zl (Zg (Zbv (r:=r'1) (o:=0) (o':=2) q'7_2 rfl) (Zg (ZaK (cs:=[v_z_At,v_z_Bits,v_z_Own]) (v:=v_z_Own) (hO'16.box 0 rfl) rfl rfl) (Zd (.n i1) q'7_12 ?_))))
     obtain ⟨c'10,hp⟩:=Zn hp
     refine Zg (zt (E:=Zjq) (z:=i1) (hO'16.rd0 s_z_Own.rd) rfl rfl c'10) (Zg (zX (w:=.i .i8 (gi z.Own i1.toNat)) (hO'16.rd0 s_z_Own.rd) rfl (Zj c'10) rfl) ?_)
     obtain ⟨c'11,hp⟩:=Zn hp
     refine Zg (Zgv (a:=(gi z.Own i1.toNat)) rfl c'11) (Zd (.n (gi z.Own i1.toNat)) rfl (Zc (Zb (Zi (Zl (Zd (.n (gi z.Own i1.toNat)) rfl (Zg (zO (a:=(gi z.Own i1.toNat)) (b:=(-2)) rfl rfl) ?_)))))))
     refine Zc (Zb ?_)
     rcases Zt hp with ⟨b'9,hp⟩ | ⟨b'9,hp⟩
     ·refine zB (t:=(decide ((gi z.Own i1.toNat) < (-2)))) rfl b'9 ?_
      refine Zl (Zd (.n (gi z.Own i1.toNat)) rfl ?_)
      obtain ⟨c'12,hp⟩:=Zn hp
      refine Zg (ZoL (a:=(gi z.Own i1.toNat)) rfl c'12) (Zd (.n (-(gi z.Own i1.toNat))) rfl (Zc ?_))
      cases hp
      exact ⟨rfl,q'7_2,q'7_6,q'7_11,q'7_12,q'7_13,rfl,(hO'16.pick [0,1,2] rfl (by decide))⟩
     ·refine zz (t:=(decide ((gi z.Own i1.toNat) < (-2)))) rfl b'9 ?_
      refine zC ?_
      cases hp
      exact ⟨rfl,q'7_2,q'7_6,q'7_11,q'7_12,q'7_13,rfl,(hO'16.pick [0,1,2] rfl (by decide))⟩
    ·refine zz (t:=(decide (i1 < (z.Own.length:Int)))) rfl b'8 ?_
     refine zC ?_
     cases hp
     exact ⟨rfl,q'7_2,q'7_6,q'7_11,q'7_12,q'7_13,rfl,(hO'16.pick [0,1,2] rfl (by decide))⟩
   intro e'5 q'8 k'16 hJ'5
   obtain ⟨at_6,l3,own⟩:=o'8
   obtain ⟨rfl,q'8_2,q'8_6,q'8_11,q'8_12,q'8_13,q'8_14,hO'17⟩:=hJ'5
   refine Zb (Zi (Zl (Zd (.n 0) rfl (Zc (Zb (Zay ?_))))))
   obtain ⟨o'9,ho'6,hp⟩:=Zq hp
   refine W.mono (Q:=fun e fr k=>match (generalizing:=false) o'9 with
     | l5=>e = (.exit 6)∧∃ (v'11:V),fr 2 = .p r'1 0∧fr 6 = v'4∧fr 11 = v'11∧fr 12 = .n i1∧Own B h k [ZaD r'1 [v_z_At,v_z_Bits,v_z_Own],eSl Zo v'4 at_6,eSl Ze v'11 l5]) ?_ ?_
   ·clear hp
    refine zU (fun st fr k=>match st with | (l4,d)=>∃ (v'10:V),fr 2 = .p r'1 0∧fr 6 = v'4∧fr 11 = v'10∧fr 12 = .n i1∧fr 13 = .i .u8 bits∧fr 14 = .n own∧fr 15 = .n d∧Own B h k [ZaD r'1 [v_z_At,v_z_Bits,v_z_Own],eSl Zo v'4 at_6,eSl Ze v'10 l4]) ho'6 (s:=(l3,0)) ⟨v'8,q'8_2,q'8_6,q'8_11,q'8_12,q'8_13,q'8_14,rfl,(hO'17.pick [0,1,2] rfl (by decide))⟩ ?_
    rintro ⟨l4,d⟩ q'10 k'18 ⟨v'10,q'10_2,q'10_6,q'10_11,q'10_12,q'10_13,q'10_14,q'10_15,hO'19⟩ o'10 hp
    dsimp only [ZE.s3] at hp
    refine Zi (Zi (Zl (Zd (.n d) q'10_15 (Zg (zO (a:=d) (b:=2) rfl rfl) (Zc (Zb ?_))))))
    rcases Zt hp with ⟨b'10,hp⟩ | ⟨b'10,hp⟩
    ·refine zB (t:=(decide (d < 2))) rfl b'10 ?_
     refine zC (Zb (Zi (Zay (Zi (Zl (Zd v'4 q'10_6 (Zd (.n i1) q'10_12 ?_)))))))
     refine Zd (.n d) q'10_15 ?_
     obtain ⟨x1,hx'2,hp⟩:=Zq hp
     obtain ⟨u'2,k'19,ca'2,rfl,hW'2⟩:=ZX.ok (h:=k'18)  (hO'19.sl 1 rfl) hx'2
     refine Zai (id:=63) (caps:=[]) rfl (Zp (v:=v'4) rfl (Zp (v:=.n i1) rfl (Zp (v:=.n d) rfl ZK))) ca'2 ?_
     have hO'20:=hO'19.call hW'2 rfl
     refine Zd (.n x1) rfl (Zc (Zb (Zi (Zi (Zl (Zd (.i .u8 bits) q'10_13 (Zd (.n d) q'10_15 ?_)))))))
     obtain ⟨c'13,hp⟩:=Zn hp
     refine Zg (Zf7 (a:=bits) (b:=d) (v:=.i .u8 (ZA .u8 bits d)) rfl rfl (by decide) (Zeg c'13)) (Zg (ZeE (a:=(ZA .u8 bits d)) (b:=1) (v:=.i .u8 (Z2 .u8 (ZA .u8 bits d) 1)) rfl rfl (by decide) rfl) (Zg (ZbE (a:=(Z2 .u8 (ZA .u8 bits d) 1)) (b:=0) rfl rfl) (Zd (.b (decide (Z2 .u8 (ZA .u8 bits d) 1 = 0))) rfl ?_)))
     refine Zaa 3 (fun fr' k'=>k'19 = k'∧fr' 119 = .b ((decide (Z2 .u8 (ZA .u8 bits d) 1 = 0)) || (decide (x1 < 0)))∧fr' 11 = v'10∧fr' 12 = .n i1∧fr' 13 = .i .u8 bits∧fr' 14 = .n own∧fr' 15 = .n d∧fr' 16 = .n x1∧fr' 2 = .p r'1 0∧fr' 6 = v'4) ?_ ?_
     ·rcases bc (decide (Z2 .u8 (ZA .u8 bits d) 1 = 0)) with b'11 | b'11
      ·skip
       refine Zw rfl b'11 (Zw rfl b'11 (Zg (za (t:=(decide (Z2 .u8 (ZA .u8 bits d) 1 = 0))) (v:=.b ((decide (Z2 .u8 (ZA .u8 bits d) 1 = 0)) || (decide (x1 < 0)))) rfl b'11 (Eq.trans (b:=V.b true) rfl (Zbs b'11))) (Zc ?_)))
       exact ⟨rfl,rfl,q'10_11,q'10_12,q'10_13,q'10_14,q'10_15,rfl,q'10_2,q'10_6⟩
      ·skip
       refine Z7 rfl b'11 (Zd (.n x1) rfl (Z7 rfl b'11 (Zg (zO (a:=x1) (b:=0) rfl rfl) (Zg (ZU (t:=(decide (Z2 .u8 (ZA .u8 bits d) 1 = 0))) (v:=.b ((decide (Z2 .u8 (ZA .u8 bits d) 1 = 0)) || (decide (x1 < 0)))) rfl b'11 (Eq.trans (b:=V.b (decide (x1 < 0))) rfl (Zcc b'11))) (Zc ?_)))))
       exact ⟨rfl,rfl,q'10_11,q'10_12,q'10_13,q'10_14,q'10_15,rfl,q'10_2,q'10_6⟩
     rintro frg'3 _ ⟨rfl,g'3_119,g'3_11,g'3_12,g'3_13,g'3_14,g'3_15,g'3_16,g'3_2,g'3_6⟩
     refine Zc (Zb ?_)
     rcases Zt hp with ⟨b'12,hp⟩ | ⟨b'12,hp⟩
     ·refine zB (t:=((decide (Z2 .u8 (ZA .u8 bits d) 1 = 0)) || (decide (x1 < 0)))) g'3_119 b'12 ?_
      refine ZbM (Zak (ZaN (Zb (Zl (Zd (.n d) g'3_15 ?_)))))
      obtain ⟨c'14,hp⟩:=Zn hp
      refine Zg (zD (a:=d) (b:=1) rfl rfl c'14) (Zd (.n (d + 1)) rfl (Zc ?_))
      cases hp
      exact (Or.inl ⟨(l4,d + 1),rfl,rfl,v'10,g'3_2,g'3_6,g'3_11,g'3_12,g'3_13,g'3_14,rfl,(hO'20.pick [0,1,2] rfl (by decide))⟩)
     ·refine zz (t:=((decide (Z2 .u8 (ZA .u8 bits d) 1 = 0)) || (decide (x1 < 0)))) g'3_119 b'12 ?_
      refine zC (Zb (Zi (Zl (Zd v'4 g'3_6 (Zd v'10 g'3_11 (Zd (.n i1) g'3_12 (Zd (.n x1) g'3_16 ?_)))))))
      obtain ⟨x2,hx'3,hp⟩:=Zq hp
      obtain ⟨u'3,k'20,ca'3,rfl,hW'3⟩:=ZW.ok (h:=k'19)  (hO'20.sl 1 rfl) (hO'20.sl 2 rfl) hx'3
      refine Zai (id:=64) (caps:=[]) rfl (Zp (v:=v'4) rfl (Zp (v:=v'10) rfl (Zp (v:=.n i1) rfl (Zp (v:=.n x1) rfl ZK)))) ca'3 ?_
      have hO'21:=hO'20.call hW'3 rfl
      refine Zd (.b x2) rfl (Zc (Zb (Zi (Zl (Zd (.b x2) rfl (Zg (Zcp (t:=x2) rfl) (Zc ?_)))))))
      refine Zb ?_
      rcases Zt hp with ⟨b'13,hp⟩ | ⟨b'13,hp⟩
      ·refine zB (t:=(!x2)) rfl b'13 ?_
       refine Zl (Zd v'10 g'3_11 (Zd (.n i1) g'3_12 (Zd (.n d) g'3_15 (Zd (.n x1) g'3_16 (Zd (.n own) g'3_14 ?_)))))
       obtain ⟨x3,hx'4,hp⟩:=Zq hp
       obtain ⟨u'4,k'21,ca'4,v'12,rfl,hW'4⟩:=Zaf.ok (h:=k'20)  (hO'21.sl 2 rfl) hx'4
       refine Zai (id:=65) (caps:=[]) rfl (Zp (v:=v'10) rfl (Zp (v:=.n i1) rfl (Zp (v:=.n d) rfl (Zp (v:=.n x1) rfl (Zp (v:=.n own) rfl ZK))))) ca'4 ?_
       have hO'22:=hO'21.call hW'4 rfl
       refine Zd v'12 rfl (Zc (Zax (Zb (Zl (Zd (.n d) g'3_15 ?_)))))
       obtain ⟨c'15,hp⟩:=Zn hp
       refine Zg (zD (a:=d) (b:=1) rfl rfl c'15) (Zd (.n (d + 1)) rfl (Zc ?_))
       cases hp
       exact (Or.inl ⟨(x3,d + 1),rfl,rfl,v'12,g'3_2,g'3_6,rfl,g'3_12,g'3_13,g'3_14,rfl,(hO'22.pick [0,1,3] rfl (by decide))⟩)
      ·refine zz (t:=(!x2)) rfl b'13 ?_
       refine zC (Zax (Zb (Zl (Zd (.n d) g'3_15 ?_))))
       obtain ⟨c'16,hp⟩:=Zn hp
       refine Zg (zD (a:=d) (b:=1) rfl rfl c'16) (Zd (.n (d + 1)) rfl (Zc ?_))
       cases hp
       exact (Or.inl ⟨(l4,d + 1),rfl,rfl,v'10,g'3_2,g'3_6,g'3_11,g'3_12,g'3_13,g'3_14,rfl,(hO'21.pick [0,1,2] rfl (by decide))⟩)
    ·refine zz (t:=(decide (d < 2))) rfl b'10 ?_
     refine ZbM (Zak ?_)
     cases hp
     refine (Or.inr ⟨l4,rfl,(fun h=>nomatch h),(fun he=>?_)⟩)
     subst he; exact ⟨rfl,v'10,q'10_2,q'10_6,q'10_11,q'10_12,(hO'19.pick [0,1,2] rfl (by decide))⟩
   intro e'6 q'9 k'17 hJ'6
   obtain ⟨l5,rfl⟩:∃ x,x = o'9:=⟨_,rfl⟩
   obtain ⟨rfl,v'11,q'9_2,q'9_6,q'9_11,q'9_12,hO'18⟩:=hJ'6
   refine ZaN (Zax (Zb (Zl (Zd (.n i1) q'9_12 ?_))))
   obtain ⟨c'17,hp⟩:=Zn hp
   refine Zg (zD (a:=i1) (b:=1) rfl rfl c'17) (Zd (.n (i1 + 1)) rfl (Zc ?_))
   cases hp
   exact (Or.inl ⟨(at_6,l5,i1 + 1),rfl,rfl,v'11,q'9_2,q'9_6,q'9_11,rfl,(hO'18.pick [0,1,2] rfl (by decide))⟩)
  ·refine zz (t:=(decide (i1 < (at_3.length:Int)))) rfl b'6 ?_
   refine ZbM (Zak ?_)
   cases hp
   refine (Or.inr ⟨(at_3,l),rfl,(fun h=>nomatch h),(fun he=>?_)⟩)
   subst he; exact ⟨rfl,v'8,q'6_6,q'6_11,(hO'15.pick [1,2] rfl (by decide))⟩
 intro e'3 q'5 k'13 hJ'3
 obtain ⟨at_4,l1⟩:=o'5
 obtain ⟨rfl,v'9,q'5_6,q'5_11,hO'14⟩:=hJ'3
 refine ZaN (Zb (Zi (Zl (Zd v'9 q'5_11 (Zd v'4 q'5_6 (Zd v'9 rfl (Zd v'4 rfl ?_)))))))
 refine Zc (Zb (zL (zf (zl (n:=4) (v:=v'9) rfl (zl (n:=5) (v:=v'4) rfl ZD)) ?_)))
 cases hp
 exact ⟨v'9,v'4,rfl,(hO'14.pick [1,0] rfl (by decide))⟩

theorem ZaA.ok {h:Hp} {d:Int}   {r:Bool} (hp:ZaA d = some r) :
  ∃ u k',Is G 90 [.n d] h u k'∧V.b r = u∧Own (fun r=>r < h.n) h k' []:=by
 refine WC.is (Za7 Ze8 ?_)
 unfold ZaA at hp
 let B:Nat→Prop:=(fun r=>r < h.n)
 have hO:Own B h h []:=Own.start0 h
 refine Zi (Zl (Zd (.b false) rfl (Zc (Zb (Zi (Zl (Zd (.n d) rfl ?_)))))))
 refine Zg (ZcA (a:=d) (b:=0) rfl rfl) (Zd (.b (decide (0≤d))) rfl ?_)
 refine Zaa 3 (fun fr' k'=>h = k'∧fr' 8 = .b ((decide (0≤d)) && (decide (d≤3)))) ?_ ?_
 ·rcases bc (decide (0≤d)) with b'1 | b'1
  ·skip
   refine Z7 rfl b'1 (Zd (.n d) rfl (Z7 rfl b'1 (Zg (ZjW (a:=d) (b:=3) rfl rfl) (Zg (za (t:=(decide (0≤d))) (v:=.b ((decide (0≤d)) && (decide (d≤3)))) rfl b'1 (Eq.trans (b:=V.b (decide (d≤3))) rfl (Zcs b'1))) (Zc ?_)))))
   exact ⟨rfl,rfl⟩
  ·skip
   refine Zw rfl b'1 (Zw rfl b'1 (Zg (ZU (t:=(decide (0≤d))) (v:=.b ((decide (0≤d)) && (decide (d≤3)))) rfl b'1 (Eq.trans (b:=V.b false) rfl (ZbW b'1))) (Zc ?_)))
   exact ⟨rfl,rfl⟩
 rintro frg'1 _ ⟨rfl,g'1_8⟩
 refine Zd (.b ((decide (0≤d)) && (decide (d≤3)))) g'1_8 (Zc (Zb (zL (zf (zl (n:=2) (v:=.b ((decide (0≤d)) && (decide (d≤3)))) rfl ZD) ?_))))
 cases hp
 exact ⟨rfl,(hO.pick [] rfl (by decide))⟩

theorem ZaB.ok {h:Hp} {d:Int} {times:Int}   {r:Int} (hp:ZaB d times = some r) :
  ∃ u k',Is G 77 [.n d,.n times] h u k'∧V.n r = u∧Own (fun r=>r < h.n) h k' []:=by
 refine WC.is (Za7 Ze9 ?_)
 unfold ZaB at hp
 let B:Nat→Prop:=(fun r=>r < h.n)
 have hO:Own B h h []:=Own.start0 h
 refine Zi (Zl (Zd (.n 0) rfl (Zc (Zb (Zi (Zi (Zl ?_)))))))
 refine Zd (.n d) rfl ?_
 obtain ⟨x,hx'1,hp⟩:=Zq hp
 obtain ⟨u'1,k'1,ca'1,rfl,hW'1⟩:=ZaA.ok (h:=h)   hx'1
 refine Zai (id:=90) (caps:=[]) rfl (Zp (v:=.n d) rfl ZK) ca'1 ?_
 have hO'1:=hO.call hW'1 rfl
 refine Zg (Zcp (t:=x) rfl) (Zc (Zb ?_))
 rcases Zt hp with ⟨b'1,hp⟩ | ⟨b'1,hp⟩
 ·refine zB (t:=(!x)) rfl b'1 ?_
  refine Zi (Zl (Zd (.n 0) rfl (Zc (Zb (zL (zh (zf (zl (n:=4) (v:=.n 0) rfl ZD) ?_)))))))
  cases hp
  exact ⟨rfl,(hO'1.pick [] rfl (by decide))⟩
 ·refine zz (t:=(!x)) rfl b'1 ?_
  refine zC (Zb (Zi (Zl (Zd (.n d) rfl (Zd (.n times) rfl (Zg (Zd6 (a:=times) (b:=4) rfl rfl (by decide)) ?_))))))
  obtain ⟨c'1,hp⟩:=Zn hp
  refine Zg (zD (a:=d) (b:=(times.tmod 4)) rfl rfl c'1) ?_
  obtain ⟨c'2,hp⟩:=Zn hp
  refine Zg (zD (a:=(d + (times.tmod 4))) (b:=4) rfl rfl c'2) (Zg (Zd6 (a:=((d + (times.tmod 4)) + 4)) (b:=4) rfl rfl (by decide)) (Zd (.n (((d + (times.tmod 4)) + 4).tmod 4)) rfl (Zc (Zb (zL (zf (zl (n:=4) (v:=.n (((d + (times.tmod 4)) + 4).tmod 4)) rfl ZD) ?_))))))
  cases hp
  exact ⟨rfl,(hO'1.pick [] rfl (by decide))⟩

theorem ZcI.ok {h:Hp} {cells:List Za} {v:Int} {d:Int} {v_cells:V} (s_cells:Sl Ze h v_cells cells) {r:Int} (hp:ZcI cells v d = some r) :
  ∃ u k',Is G 82 [v_cells,.n v,.n d] h u k'∧V.n r = u∧Own (fun r=>r < h.n) h k' []:=by
 refine WC.is (Za7 ZfH ?_)
 unfold ZcI at hp
 let B:Nat→Prop:=(fun r=>r < h.n)
 have hO:Own B h h []:=Own.start0 h
 refine Zi (Zl (Zd (.n 0) rfl (Zc (Zb (Zi (ZgZ ?_))))))
 have hW:=hO.bump 16
 have hO'1:=hW
 refine Zah v_cells rfl (Zah (.n v) rfl (Zah (.n d) rfl ?_))
 obtain ⟨c'1,hp⟩:=Zn hp
 refine ZS rfl (zt (E:=Ze) (z:=v) (hO'1.rd0 s_cells.rd) rfl rfl c'1) (ZS rfl (ZaO (off':=0) (off2:=0) (hO'1.rd0 s_cells.rd) (Zj c'1) rfl rfl) ?_)
 obtain ⟨c'2,hp⟩:=Zn hp
 refine ZS rfl (ZaZ (off:=0) (off2:=(0 + d.toNat * 1)) (z:=d) (hO'1.rd0 s_cells.rd) (Zj c'1) rfl rfl c'2 rfl) (ZS rfl (zX (w:=.n (((gi cells v.toNat).Next).get d)) (hO'1.rd0 s_cells.rd) rfl (Zj c'1) (zr c'2)) (Zah v_cells rfl (Zah (.n v) rfl (Zah (.n d) rfl (ZS rfl (zt (E:=Ze) (z:=v) (hO'1.rd0 s_cells.rd) rfl rfl c'1) (ZS rfl (ZaO (off':=0) (off2:=4) (hO'1.rd0 s_cells.rd) (Zj c'1) rfl rfl) (ZS rfl (ZaZ (off:=4) (off2:=(4 + d.toNat * 1)) (z:=d) (hO'1.rd0 s_cells.rd) (Zj c'1) rfl rfl c'2 rfl) ?_)))))))
 refine ZS rfl (zX (w:=.n (((gi cells v.toNat).Owner).get d)) (hO'1.rd0 s_cells.rd) rfl (Zj c'1) (Zbo c'2)) (Zah (.n (((gi cells v.toNat).Next).get d)) rfl (Zah (.n (((gi cells v.toNat).Owner).get d)) rfl (Zaj (Zb (Zi (Zi (Zl ?_)))))))
 refine Zd (.n (((gi cells v.toNat).Next).get d)) rfl (Zg (ZbE (a:=(((gi cells v.toNat).Next).get d)) (b:=(-1)) rfl rfl) (Zc (Zb ?_)))
 rcases Zt hp with ⟨b'1,hp⟩ | ⟨b'1,hp⟩
 ·refine zB (t:=(decide (((gi cells v.toNat).Next).get d = (-1)))) rfl b'1 ?_
  refine Zi (Zi (Zl (Zd (.n (((gi cells v.toNat).Owner).get d)) rfl (Zg (ZbK (a:=(((gi cells v.toNat).Owner).get d)) (b:=0) rfl rfl) (Zc (Zb ?_))))))
  rcases Zt hp with ⟨b'2,hp⟩ | ⟨b'2,hp⟩
  ·refine zB (t:=(!(decide (((gi cells v.toNat).Owner).get d = 0)))) rfl b'2 ?_
   refine Zi (Zl (Zd (.n 9) rfl (Zc (Zb (zL (zh (zh ?_)))))))
   refine zf (zl (n:=6) (v:=.n 9) rfl ZD) ?_
   cases hp
   exact ⟨rfl,(hO'1.pick [] rfl (by decide))⟩
  ·refine zz (t:=(!(decide (((gi cells v.toNat).Owner).get d = 0)))) rfl b'2 ?_
   refine zC (Zb (Zi (Zl (Zd (.n 0) rfl (Zc (Zb (zL ?_)))))))
   refine zh (zf (zl (n:=6) (v:=.n 0) rfl ZD) ?_)
   cases hp
   exact ⟨rfl,(hO'1.pick [] rfl (by decide))⟩
 ·refine zz (t:=(decide (((gi cells v.toNat).Next).get d = (-1)))) rfl b'1 ?_
  refine zC (Zb (Zi (Zi (Zl (Zd (.n (((gi cells v.toNat).Next).get d)) rfl (Zg (zO (a:=(((gi cells v.toNat).Next).get d)) (b:=0) rfl rfl) (Zd (.b (decide ((((gi cells v.toNat).Next).get d) < 0))) rfl ?_)))))))
  refine Zaa 5 (fun fr' k'=>(h.bump 16) = k'∧fr' 35 = .b ((decide ((((gi cells v.toNat).Next).get d) < 0)) || (decide ((cells.length:Int)≤(((gi cells v.toNat).Next).get d))))∧fr' 0 = v_cells∧fr' 1 = .n v∧fr' 2 = .n d∧fr' 7 = .n (((gi cells v.toNat).Next).get d)∧fr' 8 = .n (((gi cells v.toNat).Owner).get d)) ?_ ?_
  ·rcases bc (decide ((((gi cells v.toNat).Next).get d) < 0)) with b'3 | b'3
   ·skip
    refine Zw rfl b'3 (Zw rfl b'3 (Zw rfl b'3 (Zw rfl b'3 (Zg (za (t:=(decide ((((gi cells v.toNat).Next).get d) < 0))) (v:=.b ((decide ((((gi cells v.toNat).Next).get d) < 0)) || (decide ((cells.length:Int)≤(((gi cells v.toNat).Next).get d))))) rfl b'3 (Eq.trans (b:=V.b true) rfl (Zbs b'3))) (Zc ?_)))))
    exact ⟨rfl,rfl,rfl,rfl,rfl,rfl,rfl⟩
   ·skip
    refine Z7 rfl b'3 (Zd (.n (((gi cells v.toNat).Next).get d)) rfl (Z7 rfl b'3 (Zd v_cells rfl (Z7 rfl b'3 (Zg (ZaC (hO'1.rd0 s_cells.rd) rfl) (Z7 rfl b'3 (Zg (ZcA (a:=(((gi cells v.toNat).Next).get d)) (b:=(cells.length:Int)) rfl rfl) ?_)))))))
    refine Zg (ZU (t:=(decide ((((gi cells v.toNat).Next).get d) < 0))) (v:=.b ((decide ((((gi cells v.toNat).Next).get d) < 0)) || (decide ((cells.length:Int)≤(((gi cells v.toNat).Next).get d))))) rfl b'3 (Eq.trans (b:=V.b (decide ((cells.length:Int)≤(((gi cells v.toNat).Next).get d)))) rfl (Zcc b'3))) (Zc ?_)
    exact ⟨rfl,rfl,rfl,rfl,rfl,rfl,rfl⟩
  rintro frg'1 _ ⟨rfl,g'1_35,g'1_0,g'1_1,g'1_2,g'1_7,g'1_8⟩
  refine Zd (.b ((decide ((((gi cells v.toNat).Next).get d) < 0)) || (decide ((cells.length:Int)≤(((gi cells v.toNat).Next).get d))))) g'1_35 ?_
  refine Zaa 4 (fun fr' k'=>(h.bump 16) = k'∧fr' 40 = .b (((decide ((((gi cells v.toNat).Next).get d) < 0)) || (decide ((cells.length:Int)≤(((gi cells v.toNat).Next).get d)))) || (decide (((gi cells v.toNat).Next).get d = v)))∧fr' 0 = v_cells∧fr' 1 = .n v∧fr' 2 = .n d∧fr' 7 = .n (((gi cells v.toNat).Next).get d)∧fr' 8 = .n (((gi cells v.toNat).Owner).get d)) ?_ ?_
  ·rcases bc ((decide ((((gi cells v.toNat).Next).get d) < 0)) || (decide ((cells.length:Int)≤(((gi cells v.toNat).Next).get d)))) with b'4 | b'4
   ·skip
    refine Zw rfl b'4 (Zw rfl b'4 (Zw rfl b'4 (Zg (za (t:=((decide ((((gi cells v.toNat).Next).get d) < 0)) || (decide ((cells.length:Int)≤(((gi cells v.toNat).Next).get d))))) (v:=.b (((decide ((((gi cells v.toNat).Next).get d) < 0)) || (decide ((cells.length:Int)≤(((gi cells v.toNat).Next).get d)))) || (decide (((gi cells v.toNat).Next).get d = v)))) rfl b'4 (Eq.trans (b:=V.b true) rfl (Zbs b'4))) (Zc ?_))))
    exact ⟨rfl,rfl,g'1_0,g'1_1,g'1_2,g'1_7,g'1_8⟩
   ·skip
    refine Z7 rfl b'4 (Zd (.n (((gi cells v.toNat).Next).get d)) g'1_7 (Z7 rfl b'4 (Zd (.n v) g'1_1 (Z7 rfl b'4 (Zg (ZbE (a:=(((gi cells v.toNat).Next).get d)) (b:=v) rfl rfl) (Zg (ZU (t:=((decide ((((gi cells v.toNat).Next).get d) < 0)) || (decide ((cells.length:Int)≤(((gi cells v.toNat).Next).get d))))) (v:=.b (((decide ((((gi cells v.toNat).Next).get d) < 0)) || (decide ((cells.length:Int)≤(((gi cells v.toNat).Next).get d)))) || (decide (((gi cells v.toNat).Next).get d = v)))) rfl b'4 (Eq.trans (b:=V.b (decide (((gi cells v.toNat).Next).get d = v))) rfl (Zcc b'4))) (Zc ?_)))))))
    exact ⟨rfl,rfl,g'1_0,g'1_1,g'1_2,g'1_7,g'1_8⟩
  rintro frg'2 _ ⟨rfl,g'2_40,g'2_0,g'2_1,g'2_2,g'2_7,g'2_8⟩
  refine Zc (Zb ?_)
  rcases Zt hp with ⟨b'5,hp⟩ | ⟨b'5,hp⟩
  ·refine zB (t:=(((decide ((((gi cells v.toNat).Next).get d) < 0)) || (decide ((cells.length:Int)≤(((gi cells v.toNat).Next).get d)))) || (decide (((gi cells v.toNat).Next).get d = v)))) g'2_40 b'5 ?_
   refine Zi (Zl (Zd (.n 3) rfl (Zc (Zb (zL (zh (zf (zl (n:=6) (v:=.n 3) rfl ZD) ?_)))))))
   cases hp
   exact ⟨rfl,(hO'1.pick [] rfl (by decide))⟩
  ·refine zz (t:=(((decide ((((gi cells v.toNat).Next).get d) < 0)) || (decide ((cells.length:Int)≤(((gi cells v.toNat).Next).get d)))) || (decide (((gi cells v.toNat).Next).get d = v)))) g'2_40 b'5 ?_
   refine zC (Zb (Zi (Zl (Zd (.n d) g'2_2 ?_))))
   obtain ⟨x,hx'1,hp⟩:=Zq hp
   obtain ⟨u'1,k'2,ca'1,rfl,hW'1⟩:=ZaB.ok (h:=(h.bump 16))   hx'1
   refine Zai (id:=77) (caps:=[]) rfl (Zp (v:=.n d) rfl (Zp (v:=.n 2) rfl ZK)) ca'1 ?_
   have hO'2:=hO'1.call hW'1 rfl
   refine Zd (.n x) rfl (Zc (Zb (Zi (Zi (Zl (Zd v_cells g'2_0 (Zd (.n (((gi cells v.toNat).Next).get d)) g'2_7 ?_)))))))
   refine Zd (.n x) rfl ?_
   obtain ⟨c'3,hp⟩:=Zn hp
   refine Zg (zt (E:=Ze) (z:=(((gi cells v.toNat).Next).get d)) (hO'2.rd0 s_cells.rd) rfl rfl c'3) (Zg (ZaO (off':=0) (off2:=0) (hO'2.rd0 s_cells.rd) (Zj c'3) rfl rfl) ?_)
   obtain ⟨c'4,hp⟩:=Zn hp
   refine Zg (ZaZ (off:=0) (off2:=(0 + x.toNat * 1)) (z:=x) (hO'2.rd0 s_cells.rd) (Zj c'3) rfl rfl c'4 rfl) (Zg (zX (w:=.n (((gi cells (((gi cells v.toNat).Next).get d:Int).toNat).Next).get x)) (hO'2.rd0 s_cells.rd) rfl (Zj c'3) (zr c'4)) (Zd (.n v) g'2_1 (Zg (ZbK (a:=(((gi cells (((gi cells v.toNat).Next).get d:Int).toNat).Next).get x)) (b:=v) rfl rfl) (Zd (.b (!(decide (((gi cells (((gi cells v.toNat).Next).get d:Int).toNat).Next).get x = v)))) rfl ?_))))
   refine Zaa 10 (fun fr' k'=>k'2 = k'∧fr' 62 = .b ((!(decide (((gi cells (((gi cells v.toNat).Next).get d:Int).toNat).Next).get x = v))) || (!(decide (((gi cells (((gi cells v.toNat).Next).get d:Int).toNat).Owner).get x = ((gi cells v.toNat).Owner).get d))))∧fr' 8 = .n (((gi cells v.toNat).Owner).get d)) ?_ ?_
   ·rcases bc (!(decide (((gi cells (((gi cells v.toNat).Next).get d:Int).toNat).Next).get x = v))) with b'6 | b'6
    ·skip
     refine Zw rfl b'6 (Zw rfl b'6 (Zw rfl b'6 (Zw rfl b'6 (Zw rfl b'6 (Zw rfl b'6 (Zw rfl b'6 (Zw rfl b'6 ?_)))))))
     refine Zw rfl b'6 (Zg (za (t:=(!(decide (((gi cells (((gi cells v.toNat).Next).get d:Int).toNat).Next).get x = v)))) (v:=.b ((!(decide (((gi cells (((gi cells v.toNat).Next).get d:Int).toNat).Next).get x = v))) || (!(decide (((gi cells (((gi cells v.toNat).Next).get d:Int).toNat).Owner).get x = ((gi cells v.toNat).Owner).get d))))) rfl b'6 (Eq.trans (b:=V.b true) rfl (Zbs b'6))) (Zc ?_))
     exact ⟨rfl,rfl,g'2_8⟩
    ·skip
     refine Z7 rfl b'6 (Zd v_cells g'2_0 (Z7 rfl b'6 (Zd (.n (((gi cells v.toNat).Next).get d)) g'2_7 (Z7 rfl b'6 (Zd (.n x) rfl (Z7 rfl b'6 (Zg (zt (E:=Ze) (z:=(((gi cells v.toNat).Next).get d)) (hO'2.rd0 s_cells.rd) rfl rfl c'3) ?_)))))))
     refine Z7 rfl b'6 (Zg (ZaO (off':=0) (off2:=4) (hO'2.rd0 s_cells.rd) (Zj c'3) rfl rfl) (Z7 rfl b'6 (Zg (ZaZ (off:=4) (off2:=(4 + x.toNat * 1)) (z:=x) (hO'2.rd0 s_cells.rd) (Zj c'3) rfl rfl c'4 rfl) (Z7 rfl b'6 (Zg (zX (w:=.n (((gi cells (((gi cells v.toNat).Next).get d:Int).toNat).Owner).get x)) (hO'2.rd0 s_cells.rd) rfl (Zj c'3) (Zbo c'4)) (Z7 rfl b'6 (Zd (.n (((gi cells v.toNat).Owner).get d)) g'2_8 ?_)))))))
     refine Z7 rfl b'6 (Zg (ZbK (a:=(((gi cells (((gi cells v.toNat).Next).get d:Int).toNat).Owner).get x)) (b:=(((gi cells v.toNat).Owner).get d)) rfl rfl) (Zg (ZU (t:=(!(decide (((gi cells (((gi cells v.toNat).Next).get d:Int).toNat).Next).get x = v)))) (v:=.b ((!(decide (((gi cells (((gi cells v.toNat).Next).get d:Int).toNat).Next).get x = v))) || (!(decide (((gi cells (((gi cells v.toNat).Next).get d:Int).toNat).Owner).get x = ((gi cells v.toNat).Owner).get d))))) rfl b'6 (Eq.trans (b:=V.b (!(decide (((gi cells (((gi cells v.toNat).Next).get d:Int).toNat).Owner).get x = ((gi cells v.toNat).Owner).get d)))) rfl (Zcc b'6))) (Zc ?_)))
     exact ⟨rfl,rfl,g'2_8⟩
   rintro frg'3 _ ⟨rfl,g'3_62,g'3_8⟩
   refine Zd (.b ((!(decide (((gi cells (((gi cells v.toNat).Next).get d:Int).toNat).Next).get x = v))) || (!(decide (((gi cells (((gi cells v.toNat).Next).get d:Int).toNat).Owner).get x = ((gi cells v.toNat).Owner).get d))))) g'3_62 ?_
   refine Zaa 3 (fun fr' k'=>k'2 = k'∧fr' 66 = .b (((!(decide (((gi cells (((gi cells v.toNat).Next).get d:Int).toNat).Next).get x = v))) || (!(decide (((gi cells (((gi cells v.toNat).Next).get d:Int).toNat).Owner).get x = ((gi cells v.toNat).Owner).get d)))) || (decide ((((gi cells v.toNat).Owner).get d) < (-2))))) ?_ ?_
   ·rcases bc ((!(decide (((gi cells (((gi cells v.toNat).Next).get d:Int).toNat).Next).get x = v))) || (!(decide (((gi cells (((gi cells v.toNat).Next).get d:Int).toNat).Owner).get x = ((gi cells v.toNat).Owner).get d)))) with b'7 | b'7
    ·skip
     refine Zw rfl b'7 (Zw rfl b'7 (Zg (za (t:=((!(decide (((gi cells (((gi cells v.toNat).Next).get d:Int).toNat).Next).get x = v))) || (!(decide (((gi cells (((gi cells v.toNat).Next).get d:Int).toNat).Owner).get x = ((gi cells v.toNat).Owner).get d))))) (v:=.b (((!(decide (((gi cells (((gi cells v.toNat).Next).get d:Int).toNat).Next).get x = v))) || (!(decide (((gi cells (((gi cells v.toNat).Next).get d:Int).toNat).Owner).get x = ((gi cells v.toNat).Owner).get d)))) || (decide ((((gi cells v.toNat).Owner).get d) < (-2))))) rfl b'7 (Eq.trans (b:=V.b true) rfl (Zbs b'7))) (Zc ?_)))
     exact ⟨rfl,rfl⟩
    ·skip
     refine Z7 rfl b'7 (Zd (.n (((gi cells v.toNat).Owner).get d)) g'3_8 (Z7 rfl b'7 (Zg (zO (a:=(((gi cells v.toNat).Owner).get d)) (b:=(-2)) rfl rfl) (Zg (ZU (t:=((!(decide (((gi cells (((gi cells v.toNat).Next).get d:Int).toNat).Next).get x = v))) || (!(decide (((gi cells (((gi cells v.toNat).Next).get d:Int).toNat).Owner).get x = ((gi cells v.toNat).Owner).get d))))) (v:=.b (((!(decide (((gi cells (((gi cells v.toNat).Next).get d:Int).toNat).Next).get x = v))) || (!(decide (((gi cells (((gi cells v.toNat).Next).get d:Int).toNat).Owner).get x = ((gi cells v.toNat).Owner).get d)))) || (decide ((((gi cells v.toNat).Owner).get d) < (-2))))) rfl b'7 (Eq.trans (b:=V.b (decide ((((gi cells v.toNat).Owner).get d) < (-2)))) rfl (Zcc b'7))) (Zc ?_)))))
     exact ⟨rfl,rfl⟩
   rintro frg'4 _ ⟨rfl,g'4_66⟩
   refine Zc (Zb ?_)
   rcases Zt hp with ⟨b'8,hp⟩ | ⟨b'8,hp⟩
   ·refine zB (t:=(((!(decide (((gi cells (((gi cells v.toNat).Next).get d:Int).toNat).Next).get x = v))) || (!(decide (((gi cells (((gi cells v.toNat).Next).get d:Int).toNat).Owner).get x = ((gi cells v.toNat).Owner).get d)))) || (decide ((((gi cells v.toNat).Owner).get d) < (-2))))) g'4_66 b'8 ?_
    refine Zi (Zl (Zd (.n 9) rfl (Zc (Zb (zL (zh (zf (zl (n:=6) (v:=.n 9) rfl ZD) ?_)))))))
    cases hp
    exact ⟨rfl,(hO'2.pick [] rfl (by decide))⟩
   ·refine zz (t:=(((!(decide (((gi cells (((gi cells v.toNat).Next).get d:Int).toNat).Next).get x = v))) || (!(decide (((gi cells (((gi cells v.toNat).Next).get d:Int).toNat).Owner).get x = ((gi cells v.toNat).Owner).get d)))) || (decide ((((gi cells v.toNat).Owner).get d) < (-2))))) g'4_66 b'8 ?_
    refine zC (Zb (Zi (Zl (Zd (.n 0) rfl (Zc (Zb (zL ?_)))))))
    refine zf (zl (n:=6) (v:=.n 0) rfl ZD) ?_
    cases hp
    exact ⟨rfl,(hO'2.pick [] rfl (by decide))⟩

theorem zE.ok {h:Hp} {cells:List Za} {v_cells:V} (s_cells:Sl Ze h v_cells cells) {r:Int} (hp:zE cells = some r) :
  ∃ u k',Is G 66 [v_cells] h u k'∧V.n r = u∧Own (fun r=>r < h.n) h k' []:=by
 refine WC.is (Za7 Zfo ?_)
 unfold zE at hp
 let B:Nat→Prop:=(fun r=>r < h.n)
 have hO:Own B h h []:=Own.start0 h
 refine Zi (Zl (Zd (.n 0) rfl (Zc (Zb (Zi (Zi (Zl ?_)))))))
 refine Zd v_cells rfl (Zg (ZaC (hO.rd0 s_cells.rd) rfl) (Zg (ZeF (a:=(cells.length:Int)) (b:=4096) rfl rfl) (Zc (Zb ?_))))
 rcases Zt hp with ⟨b'1,hp⟩ | ⟨b'1,hp⟩
 ·refine zB (t:=(decide (4096 < (cells.length:Int)))) rfl b'1 ?_
  refine Zi (Zl (Zd (.n 6) rfl (Zc (Zb (zL (zh (zf (zl (n:=2) (v:=.n 6) rfl ZD) ?_)))))))
  cases hp
  exact ⟨rfl,(hO.pick [] rfl (by decide))⟩
 ·refine zz (t:=(decide (4096 < (cells.length:Int)))) rfl b'1 ?_
  refine zC (Zb (Zi (Zi (Zl (Zd v_cells rfl (Zg (ZaC (hO.rd0 s_cells.rd) rfl) (Zd (.n 0) rfl ?_)))))))
  refine Zc (Zb (Zay ?_))
  obtain ⟨o'1,ho'1,hp⟩:=Zq hp
  refine W.mono (Q:=fun e fr k=>match (generalizing:=false) o'1 with
    | .inl _=>e = (.exit 0)∧Own B h k []
    | .inr x1=>e = .ret∧fr 2 = .n x1∧Own B h k []) ?_ ?_
  ·clear hp
   refine zU (fun st fr k=>match st with | x=>fr 0 = v_cells∧fr 10 = .n (cells.length:Int)∧fr 11 = .n x∧Own B h k []) ho'1 (s:=0) ⟨rfl,rfl,rfl,(hO.pick [] rfl (by decide))⟩ ?_
   rintro x q'2 k'2 ⟨q'2_0,q'2_10,q'2_11,hO'2⟩ o'2 hp
   dsimp only [zE.s0] at hp
   refine Zi (Zl (Zg (zO (a:=x) (b:=(cells.length:Int)) q'2_11 q'2_10) (Zc (Zb (Zi ?_)))))
   rcases Zt hp with ⟨b'2,hp⟩ | ⟨b'2,hp⟩
   ·refine zB (t:=(decide (x < (cells.length:Int)))) rfl b'2 ?_
    refine zC (Zb (Zi (Zay (Zi (Zl (Zd (.n x) q'2_11 (Zd (.n x) rfl ?_)))))))
    refine Zc (Zb (Zi (Zl (Zd (.n 0) rfl (Zc (Zb (Zay ?_)))))))
    obtain ⟨o'3,ho'2,hp⟩:=Zq hp
    refine W.mono (Q:=fun e fr k=>match (generalizing:=false) o'3 with
      | .inl _=>e = (.exit 2)∧fr 0 = v_cells∧fr 10 = .n (cells.length:Int)∧fr 11 = .n x∧Own B h k []
      | .inr x3=>e = .ret∧fr 2 = .n x3∧Own B h k []) ?_ ?_
    ·clear hp
     refine zU (fun st fr k=>match st with | x2=>fr 0 = v_cells∧fr 3 = .n x∧fr 10 = .n (cells.length:Int)∧fr 11 = .n x∧fr 14 = .n x2∧Own B h k []) ho'2 (s:=0) ⟨q'2_0,rfl,q'2_10,q'2_11,rfl,(hO'2.pick [] rfl (by decide))⟩ ?_
     rintro x2 q'4 k'4 ⟨q'4_0,q'4_3,q'4_10,q'4_11,q'4_14,hO'4⟩ o'4 hp
     dsimp only [zE.s1] at hp
     refine Zi (Zl (Zg (zO (a:=x2) (b:=4) q'4_14 rfl) (Zc (Zb (Zi ?_)))))
     rcases Zt hp with ⟨b'3,hp⟩ | ⟨b'3,hp⟩
     ·refine zB (t:=(decide (x2 < 4))) rfl b'3 ?_
      refine zC (Zb (Zi (Zay (Zi (Zl (Zd (.n x2) q'4_14 (Zd (.n x2) rfl ?_)))))))
      refine Zc (Zb (Zi (Zl (Zd v_cells q'4_0 (Zd (.n x) q'4_3 (Zd (.n x2) rfl ?_))))))
      obtain ⟨x4,hx'1,hp⟩:=Zq hp
      obtain ⟨u'1,k'5,ca'1,rfl,hW'1⟩:=ZcI.ok (h:=k'4)  (hO'4.rd0 s_cells.rd) hx'1
      refine Zai (id:=82) (caps:=[]) rfl (Zp (v:=v_cells) rfl (Zp (v:=.n x) rfl (Zp (v:=.n x2) rfl ZK))) ca'1 ?_
      have hO'5:=hO'4.call hW'1 rfl
      refine Zd (.n x4) rfl (Zc (Zb (Zi (Zl (Zd (.n x4) rfl (Zg (ZbK (a:=x4) (b:=0) rfl rfl) (Zc ?_)))))))
      refine Zb ?_
      rcases Zt hp with ⟨b'4,hp⟩ | ⟨b'4,hp⟩
      ·refine zB (t:=(!(decide (x4 = 0)))) rfl b'4 ?_
       refine Zi (Zl (Zd (.n x4) rfl (Zd (.n x4) rfl (Zc (Zb (zL (Zbd ?_)))))))
       refine zh ?_
       cases hp
       refine (Or.inr ⟨.inr x4,rfl,(fun h=>nomatch h),(fun he=>?_)⟩)
       subst he; exact ⟨rfl,rfl,(hO'5.pick [] rfl (by decide))⟩
      ·refine zz (t:=(!(decide (x4 = 0)))) rfl b'4 ?_
       refine zC (Zax (Zb (Zl ?_)))
       obtain ⟨c'1,hp⟩:=Zn hp
       refine Zg (zD (a:=x2) (b:=1) q'4_14 rfl c'1) (Zd (.n (x2 + 1)) rfl (Zc ?_))
       cases hp
       exact (Or.inl ⟨x2 + 1,rfl,rfl,q'4_0,q'4_3,q'4_10,q'4_11,rfl,(hO'5.pick [] rfl (by decide))⟩)
     ·refine zz (t:=(decide (x2 < 4))) rfl b'3 ?_
      refine ZbM (Zak ?_)
      cases hp
      refine (Or.inr ⟨.inl (),rfl,(fun h=>nomatch h),(fun he=>?_)⟩)
      subst he; exact ⟨rfl,q'4_0,q'4_10,q'4_11,(hO'4.pick [] rfl (by decide))⟩
    intro e'2 q'3 k'3 hJ'2
    rcases o'3 with _ | x3
    ·obtain ⟨rfl,q'3_0,q'3_10,q'3_11,hO'3⟩:=hJ'2
     refine ZaN (Zax (Zb (Zl ?_)))
     obtain ⟨c'2,hp⟩:=Zn hp
     refine Zg (zD (a:=x) (b:=1) q'3_11 rfl c'2) (Zd (.n (x + 1)) rfl (Zc ?_))
     cases hp
     exact (Or.inl ⟨x + 1,rfl,rfl,q'3_0,q'3_10,rfl,(hO'3.pick [] rfl (by decide))⟩)
    ·obtain ⟨rfl,q'3_2,hO'3⟩:=hJ'2
     refine Zbd (Zbd (zh ?_))
     cases hp
     refine (Or.inr ⟨.inr x3,rfl,(fun h=>nomatch h),(fun he=>?_)⟩)
     subst he; exact ⟨rfl,q'3_2,(hO'3.pick [] rfl (by decide))⟩
   ·refine zz (t:=(decide (x < (cells.length:Int)))) rfl b'2 ?_
    refine ZbM (Zak ?_)
    cases hp
    refine (Or.inr ⟨.inl (),rfl,(fun h=>nomatch h),(fun he=>?_)⟩)
    subst he; exact ⟨rfl,(hO'2.pick [] rfl (by decide))⟩
  intro e'1 q'1 k'1 hJ'1
  rcases o'1 with _ | x1
  ·obtain ⟨rfl,hO'1⟩:=hJ'1
   refine ZaN (Zb (Zi (Zl (Zd (.n 0) rfl (Zc (Zb (zL ?_)))))))
   refine zf (zl (n:=2) (v:=.n 0) rfl ZD) ?_
   cases hp
   exact ⟨rfl,(hO'1.pick [] rfl (by decide))⟩
  ·obtain ⟨rfl,q'1_2,hO'1⟩:=hJ'1
   refine Zbd (zh (zf (zl (n:=2) (v:=.n x1) q'1_2 ZD) ?_))
   cases hp
   exact ⟨rfl,(hO'1.pick [] rfl (by decide))⟩

theorem Zdu.ok {h:Hp} {x:Int} {y:Int}   {r:Int × Int} (hp:Zdu x y = some r) :
  ∃ u k',Is G 98 [.i .u64 x,.i .u64 y] h u k'∧V.tu [.i .u64 r.1,.i .u64 r.2] = u∧Own (fun r=>r < h.n) h k' []:=by
 refine WC.is (Za7 Zfk ?_)
 unfold Zdu at hp
 let B:Nat→Prop:=(fun r=>r < h.n)
 have hO:Own B h h []:=Own.start0 h
 refine Zi (Zl (Zd (.i .u64 0) rfl (Zd (.i .u64 0) rfl (Zc (Zb (Zi (Zl ?_)))))))
 refine Zd (.i .u64 x) rfl (Zg (ZeE (a:=x) (b:=4294967295) (v:=.i .u64 (Z2 .u64 x 4294967295)) rfl rfl (by decide) rfl) (Zd (.i .u64 (Z2 .u64 x 4294967295)) rfl (Zc (Zb (Zi (Zl (Zd (.i .u64 x) rfl ?_)))))))
 refine Zg (Zf7 (a:=x) (b:=32) (v:=.i .u64 (ZA .u64 x 32)) rfl rfl (by decide) (Zeg (by decide))) (Zd (.i .u64 (ZA .u64 x 32)) rfl (Zc (Zb (Zi (Zl (Zd (.i .u64 y) rfl (Zg (ZeE (a:=y) (b:=4294967295) (v:=.i .u64 (Z2 .u64 y 4294967295)) rfl rfl (by decide) rfl) ?_)))))))
 refine Zd (.i .u64 (Z2 .u64 y 4294967295)) rfl (Zc (Zb (Zi (Zl (Zd (.i .u64 y) rfl (Zg (Zf7 (a:=y) (b:=32) (v:=.i .u64 (ZA .u64 y 32)) rfl rfl (by decide) (Zeg (by decide))) (Zd (.i .u64 (ZA .u64 y 32)) rfl ?_)))))))
 refine Zc (Zb (Zi (Zl (Zd (.i .u64 (Z2 .u64 x 4294967295)) rfl (Zd (.i .u64 (Z2 .u64 y 4294967295)) rfl (Zg (ZeE (a:=(Z2 .u64 x 4294967295)) (b:=(Z2 .u64 y 4294967295)) (v:=.i .u64 (ZR .u64 (Z2 .u64 x 4294967295) (Z2 .u64 y 4294967295))) rfl rfl (by decide) rfl) (Zd (.i .u64 (ZR .u64 (Z2 .u64 x 4294967295) (Z2 .u64 y 4294967295))) rfl ?_)))))))
 refine Zc (Zb (Zi (Zl (Zd (.i .u64 (ZA .u64 x 32)) rfl (Zd (.i .u64 (Z2 .u64 y 4294967295)) rfl (Zg (ZeE (a:=(ZA .u64 x 32)) (b:=(Z2 .u64 y 4294967295)) (v:=.i .u64 (ZR .u64 (ZA .u64 x 32) (Z2 .u64 y 4294967295))) rfl rfl (by decide) rfl) (Zd (.i .u64 (ZR .u64 (Z2 .u64 x 4294967295) (Z2 .u64 y 4294967295))) rfl ?_)))))))
 refine Zg (Zf7 (a:=(ZR .u64 (Z2 .u64 x 4294967295) (Z2 .u64 y 4294967295))) (b:=32) (v:=.i .u64 (ZA .u64 (ZR .u64 (Z2 .u64 x 4294967295) (Z2 .u64 y 4294967295)) 32)) rfl rfl (by decide) (Zeg (by decide))) (Zg (ZeE (a:=(ZR .u64 (ZA .u64 x 32) (Z2 .u64 y 4294967295))) (b:=(ZA .u64 (ZR .u64 (Z2 .u64 x 4294967295) (Z2 .u64 y 4294967295)) 32)) (v:=.i .u64 (zV .u64 (ZR .u64 (ZA .u64 x 32) (Z2 .u64 y 4294967295)) (ZA .u64 (ZR .u64 (Z2 .u64 x 4294967295) (Z2 .u64 y 4294967295)) 32))) rfl rfl (by decide) rfl) (Zd (.i .u64 (zV .u64 (ZR .u64 (ZA .u64 x 32) (Z2 .u64 y 4294967295)) (ZA .u64 (ZR .u64 (Z2 .u64 x 4294967295) (Z2 .u64 y 4294967295)) 32))) rfl (Zc (Zb (Zi (Zl (Zd (.i .u64 (zV .u64 (ZR .u64 (ZA .u64 x 32) (Z2 .u64 y 4294967295)) (ZA .u64 (ZR .u64 (Z2 .u64 x 4294967295) (Z2 .u64 y 4294967295)) 32))) rfl ?_)))))))
 refine Zg (ZeE (a:=(zV .u64 (ZR .u64 (ZA .u64 x 32) (Z2 .u64 y 4294967295)) (ZA .u64 (ZR .u64 (Z2 .u64 x 4294967295) (Z2 .u64 y 4294967295)) 32))) (b:=4294967295) (v:=.i .u64 (Z2 .u64 (zV .u64 (ZR .u64 (ZA .u64 x 32) (Z2 .u64 y 4294967295)) (ZA .u64 (ZR .u64 (Z2 .u64 x 4294967295) (Z2 .u64 y 4294967295)) 32)) 4294967295)) rfl rfl (by decide) rfl) (Zd (.i .u64 (Z2 .u64 (zV .u64 (ZR .u64 (ZA .u64 x 32) (Z2 .u64 y 4294967295)) (ZA .u64 (ZR .u64 (Z2 .u64 x 4294967295) (Z2 .u64 y 4294967295)) 32)) 4294967295)) rfl (Zc (Zb (Zi (Zl (Zd (.i .u64 (zV .u64 (ZR .u64 (ZA .u64 x 32) (Z2 .u64 y 4294967295)) (ZA .u64 (ZR .u64 (Z2 .u64 x 4294967295) (Z2 .u64 y 4294967295)) 32))) rfl (Zg (Zf7 (a:=(zV .u64 (ZR .u64 (ZA .u64 x 32) (Z2 .u64 y 4294967295)) (ZA .u64 (ZR .u64 (Z2 .u64 x 4294967295) (Z2 .u64 y 4294967295)) 32))) (b:=32) (v:=.i .u64 (ZA .u64 (zV .u64 (ZR .u64 (ZA .u64 x 32) (Z2 .u64 y 4294967295)) (ZA .u64 (ZR .u64 (Z2 .u64 x 4294967295) (Z2 .u64 y 4294967295)) 32)) 32)) rfl rfl (by decide) (Zeg (by decide))) ?_)))))))
 refine Zd (.i .u64 (ZA .u64 (zV .u64 (ZR .u64 (ZA .u64 x 32) (Z2 .u64 y 4294967295)) (ZA .u64 (ZR .u64 (Z2 .u64 x 4294967295) (Z2 .u64 y 4294967295)) 32)) 32)) rfl (Zc (Zb (Zi (Zl (Zd (.i .u64 (Z2 .u64 (zV .u64 (ZR .u64 (ZA .u64 x 32) (Z2 .u64 y 4294967295)) (ZA .u64 (ZR .u64 (Z2 .u64 x 4294967295) (Z2 .u64 y 4294967295)) 32)) 4294967295)) rfl (Zd (.i .u64 (Z2 .u64 x 4294967295)) rfl (Zd (.i .u64 (ZA .u64 y 32)) rfl ?_)))))))
 refine Zg (ZeE (a:=(Z2 .u64 x 4294967295)) (b:=(ZA .u64 y 32)) (v:=.i .u64 (ZR .u64 (Z2 .u64 x 4294967295) (ZA .u64 y 32))) rfl rfl (by decide) rfl) (Zg (ZeE (a:=(Z2 .u64 (zV .u64 (ZR .u64 (ZA .u64 x 32) (Z2 .u64 y 4294967295)) (ZA .u64 (ZR .u64 (Z2 .u64 x 4294967295) (Z2 .u64 y 4294967295)) 32)) 4294967295)) (b:=(ZR .u64 (Z2 .u64 x 4294967295) (ZA .u64 y 32))) (v:=.i .u64 (zV .u64 (Z2 .u64 (zV .u64 (ZR .u64 (ZA .u64 x 32) (Z2 .u64 y 4294967295)) (ZA .u64 (ZR .u64 (Z2 .u64 x 4294967295) (Z2 .u64 y 4294967295)) 32)) 4294967295) (ZR .u64 (Z2 .u64 x 4294967295) (ZA .u64 y 32)))) rfl rfl (by decide) rfl) (Zd (.i .u64 (zV .u64 (Z2 .u64 (zV .u64 (ZR .u64 (ZA .u64 x 32) (Z2 .u64 y 4294967295)) (ZA .u64 (ZR .u64 (Z2 .u64 x 4294967295) (Z2 .u64 y 4294967295)) 32)) 4294967295) (ZR .u64 (Z2 .u64 x 4294967295) (ZA .u64 y 32)))) rfl (Zc (Zb (Zi (Zl (Zd (.i .u64 (ZA .u64 x 32)) rfl ?_)))))))
 refine Zd (.i .u64 (ZA .u64 y 32)) rfl (Zg (ZeE (a:=(ZA .u64 x 32)) (b:=(ZA .u64 y 32)) (v:=.i .u64 (ZR .u64 (ZA .u64 x 32) (ZA .u64 y 32))) rfl rfl (by decide) rfl) (Zd (.i .u64 (ZA .u64 (zV .u64 (ZR .u64 (ZA .u64 x 32) (Z2 .u64 y 4294967295)) (ZA .u64 (ZR .u64 (Z2 .u64 x 4294967295) (Z2 .u64 y 4294967295)) 32)) 32)) rfl (Zg (ZeE (a:=(ZR .u64 (ZA .u64 x 32) (ZA .u64 y 32))) (b:=(ZA .u64 (zV .u64 (ZR .u64 (ZA .u64 x 32) (Z2 .u64 y 4294967295)) (ZA .u64 (ZR .u64 (Z2 .u64 x 4294967295) (Z2 .u64 y 4294967295)) 32)) 32)) (v:=.i .u64 (zV .u64 (ZR .u64 (ZA .u64 x 32) (ZA .u64 y 32)) (ZA .u64 (zV .u64 (ZR .u64 (ZA .u64 x 32) (Z2 .u64 y 4294967295)) (ZA .u64 (ZR .u64 (Z2 .u64 x 4294967295) (Z2 .u64 y 4294967295)) 32)) 32))) rfl rfl (by decide) rfl) (Zd (.i .u64 (zV .u64 (Z2 .u64 (zV .u64 (ZR .u64 (ZA .u64 x 32) (Z2 .u64 y 4294967295)) (ZA .u64 (ZR .u64 (Z2 .u64 x 4294967295) (Z2 .u64 y 4294967295)) 32)) 4294967295) (ZR .u64 (Z2 .u64 x 4294967295) (ZA .u64 y 32)))) rfl (Zg (Zf7 (a:=(zV .u64 (Z2 .u64 (zV .u64 (ZR .u64 (ZA .u64 x 32) (Z2 .u64 y 4294967295)) (ZA .u64 (ZR .u64 (Z2 .u64 x 4294967295) (Z2 .u64 y 4294967295)) 32)) 4294967295) (ZR .u64 (Z2 .u64 x 4294967295) (ZA .u64 y 32)))) (b:=32) (v:=.i .u64 (ZA .u64 (zV .u64 (Z2 .u64 (zV .u64 (ZR .u64 (ZA .u64 x 32) (Z2 .u64 y 4294967295)) (ZA .u64 (ZR .u64 (Z2 .u64 x 4294967295) (Z2 .u64 y 4294967295)) 32)) 4294967295) (ZR .u64 (Z2 .u64 x 4294967295) (ZA .u64 y 32))) 32)) rfl rfl (by decide) (Zeg (by decide))) (Zg (ZeE (a:=(zV .u64 (ZR .u64 (ZA .u64 x 32) (ZA .u64 y 32)) (ZA .u64 (zV .u64 (ZR .u64 (ZA .u64 x 32) (Z2 .u64 y 4294967295)) (ZA .u64 (ZR .u64 (Z2 .u64 x 4294967295) (Z2 .u64 y 4294967295)) 32)) 32))) (b:=(ZA .u64 (zV .u64 (Z2 .u64 (zV .u64 (ZR .u64 (ZA .u64 x 32) (Z2 .u64 y 4294967295)) (ZA .u64 (ZR .u64 (Z2 .u64 x 4294967295) (Z2 .u64 y 4294967295)) 32)) 4294967295) (ZR .u64 (Z2 .u64 x 4294967295) (ZA .u64 y 32))) 32)) (v:=.i .u64 (zV .u64 (zV .u64 (ZR .u64 (ZA .u64 x 32) (ZA .u64 y 32)) (ZA .u64 (zV .u64 (ZR .u64 (ZA .u64 x 32) (Z2 .u64 y 4294967295)) (ZA .u64 (ZR .u64 (Z2 .u64 x 4294967295) (Z2 .u64 y 4294967295)) 32)) 32)) (ZA .u64 (zV .u64 (Z2 .u64 (zV .u64 (ZR .u64 (ZA .u64 x 32) (Z2 .u64 y 4294967295)) (ZA .u64 (ZR .u64 (Z2 .u64 x 4294967295) (Z2 .u64 y 4294967295)) 32)) 4294967295) (ZR .u64 (Z2 .u64 x 4294967295) (ZA .u64 y 32))) 32))) rfl rfl (by decide) rfl) (Zd (.i .u64 (zV .u64 (zV .u64 (ZR .u64 (ZA .u64 x 32) (ZA .u64 y 32)) (ZA .u64 (zV .u64 (ZR .u64 (ZA .u64 x 32) (Z2 .u64 y 4294967295)) (ZA .u64 (ZR .u64 (Z2 .u64 x 4294967295) (Z2 .u64 y 4294967295)) 32)) 32)) (ZA .u64 (zV .u64 (Z2 .u64 (zV .u64 (ZR .u64 (ZA .u64 x 32) (Z2 .u64 y 4294967295)) (ZA .u64 (ZR .u64 (Z2 .u64 x 4294967295) (Z2 .u64 y 4294967295)) 32)) 4294967295) (ZR .u64 (Z2 .u64 x 4294967295) (ZA .u64 y 32))) 32))) rfl ?_)))))))
 refine Zc (Zb (Zi (Zl (Zd (.i .u64 x) rfl (Zd (.i .u64 y) rfl (Zg (ZeE (a:=x) (b:=y) (v:=.i .u64 (ZR .u64 x y)) rfl rfl (by decide) rfl) (Zd (.i .u64 (ZR .u64 x y)) rfl ?_)))))))
 refine Zc (Zb (zL (zf (zl (n:=4) (v:=.i .u64 (zV .u64 (zV .u64 (ZR .u64 (ZA .u64 x 32) (ZA .u64 y 32)) (ZA .u64 (zV .u64 (ZR .u64 (ZA .u64 x 32) (Z2 .u64 y 4294967295)) (ZA .u64 (ZR .u64 (Z2 .u64 x 4294967295) (Z2 .u64 y 4294967295)) 32)) 32)) (ZA .u64 (zV .u64 (Z2 .u64 (zV .u64 (ZR .u64 (ZA .u64 x 32) (Z2 .u64 y 4294967295)) (ZA .u64 (ZR .u64 (Z2 .u64 x 4294967295) (Z2 .u64 y 4294967295)) 32)) 4294967295) (ZR .u64 (Z2 .u64 x 4294967295) (ZA .u64 y 32))) 32))) rfl (zl (n:=5) (v:=.i .u64 (ZR .u64 x y)) rfl ZD)) ?_)))
 cases hp
 exact ⟨rfl,(hO.pick [] rfl (by decide))⟩

theorem Zdc.ok {h:Hp} {x:Int} {y:Int}   {r:Int × Int} (hp:Zdc x y = some r) :
  ∃ u k',Is G 89 [.i .u64 x,.i .u64 y] h u k'∧V.tu [.i .u64 r.1,.i .u64 r.2] = u∧Own (fun r=>r < h.n) h k' []:=by
 refine WC.is (Za7 ZfY ?_)
 unfold Zdc at hp
 let B:Nat→Prop:=(fun r=>r < h.n)
 have hO:Own B h h []:=Own.start0 h
 refine Zi (Zl (Zd (.i .u64 0) rfl (Zd (.i .u64 0) rfl (Zc (Zb (Zi (zz (t:=false) rfl rfl ?_)))))))
 refine zC (Zb (Zi (Zl (Zd (.i .u64 x) rfl (Zd (.i .u64 y) rfl ?_)))))
 obtain ⟨⟨x1,x2⟩,hx'1,hp⟩:=Zq hp
 obtain ⟨u'1,k'1,ca'1,rfl,hW'1⟩:=Zdu.ok (h:=h)   hx'1
 refine Zai (id:=98) (caps:=[]) rfl (Zp (v:=.i .u64 x) rfl (Zp (v:=.i .u64 y) rfl ZK)) ca'1 ?_
 have hO'1:=hO.call hW'1 rfl
 refine Zd (.tu [.i .u64 x1,.i .u64 x2]) rfl (Zg (Zad (vs:=[.i .u64 x1,.i .u64 x2]) (v:=.i .u64 x1) rfl rfl) (Zg (Zad (vs:=[.i .u64 x1,.i .u64 x2]) (v:=.i .u64 x2) rfl rfl) (Zd (.i .u64 x1) rfl (Zd (.i .u64 x2) rfl (Zc (Zb (Zi ?_)))))))
 refine Zl (Zd (.i .u64 x1) rfl (Zd (.i .u64 x2) rfl (Zd (.i .u64 x1) rfl (Zd (.i .u64 x2) rfl (Zc (Zb (zL ?_)))))))
 refine zf (zl (n:=4) (v:=.i .u64 x1) rfl (zl (n:=5) (v:=.i .u64 x2) rfl ZD)) ?_
 cases hp
 exact ⟨rfl,(hO'1.pick [] rfl (by decide))⟩

end Mu
