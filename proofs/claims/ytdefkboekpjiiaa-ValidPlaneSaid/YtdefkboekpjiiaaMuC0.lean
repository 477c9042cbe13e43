/- The code comes to what was worked out. -/
import Derived.Test.YtdefkboekpjiiaaMuDf
import Derived.Test.YtdefkboekpjiiaaMuPa
set_option linter.unusedVariables false
set_option linter.unnecessarySimpa false
set_option linter.unusedSimpArgs false
set_option maxHeartbeats 2000000
set_option maxRecDepth 10000
namespace Mu
open Go (IntKind BinOp UnOp)
theorem z7 {x:Za} {i:Int} (h:0≤i∧i < 4):(Zh.c x)[0 + i.toNat * 1]? = some (.n ((x.Next).get i)):=by
 rcases (show i = 0∨i = 1∨i = 2∨i = 3 by omega) with rfl | rfl | rfl | rfl <;> rfl
theorem Zbh {x:Za} {i:Int} {w:Int} (h:0≤i∧i < 4):over (Zh.c x) (0 + i.toNat * 1) [.n w] = Zh.c ({ x with Next:=(x.Next).set i w }):=by
 rcases (show i = 0∨i = 1∨i = 2∨i = 3 by omega) with rfl | rfl | rfl | rfl <;> rfl
theorem ZbS {x:Za} {i:Int} (h:0≤i∧i < 4):(Zh.c x)[4 + i.toNat * 1]? = some (.n ((x.Owner).get i)):=by
 rcases (show i = 0∨i = 1∨i = 2∨i = 3 by omega) with rfl | rfl | rfl | rfl <;> rfl
theorem ZbT {x:Za} {i:Int} {w:Int} (h:0≤i∧i < 4):over (Zh.c x) (4 + i.toNat * 1) [.n w] = Zh.c ({ x with Owner:=(x.Owner).set i w }):=by
 rcases (show i = 0∨i = 1∨i = 2∨i = 3 by omega) with rfl | rfl | rfl | rfl <;> rfl
theorem ZkC {x:A4 Int} {i:Int} (h:0≤i∧i < 4):(ZaP.c x)[0 + i.toNat * 1]? = some (.n ((x).get i)):=by
 rcases (show i = 0∨i = 1∨i = 2∨i = 3 by omega) with rfl | rfl | rfl | rfl <;> rfl
theorem Zfk {x:A4 Int} {i:Int} (h:0≤i∧i < 4):ZaT false (ZaP.c x) (i.toNat * 1) 1 = some (.n ((x).get i)):=by
 rcases (show i = 0∨i = 1∨i = 2∨i = 3 by omega) with rfl | rfl | rfl | rfl <;> rfl
theorem ZkD {x:A4 Int} {i:Int} {w:Int} (h:0≤i∧i < 4):over (ZaP.c x) (0 + i.toNat * 1) [.n w] = ZaP.c ((x).set i w):=by
 rcases (show i = 0∨i = 1∨i = 2∨i = 3 by omega) with rfl | rfl | rfl | rfl <;> rfl
theorem Zid (cs:List Go.Value) (h:OkL [some .u8] cs):∃ x:Int,Zeq.c x = cs.map toV∧Zfc x:=by
 obtain ⟨n0,cs0,rfl,w0,h0⟩:=h.inv_i
 obtain rfl:=h0.inv_n
 exact ⟨n0,rfl,w0⟩
theorem Zkd (cs:List Go.Value) (h:OkL [some .i8] cs):∃ x:Int,Zg7.c x = cs.map toV∧ZgW x:=by
 obtain ⟨n0,cs0,rfl,w0,h0⟩:=h.inv_i
 obtain rfl:=h0.inv_n
 exact ⟨n0,rfl,w0⟩
theorem ZE.ok {h:Hp} {n:Int}   {r:(List Za)} (hp:ZE n = some r) :
  ∃ u k',Is G 46 [.n n] h u k'∧∃ (v'1:V),v'1 = u∧Own (fun r=>r < h.n) h k' [eSl Zh v'1 r]:=by
 refine WC.is (Za0 ZbO ?_)
 unfold ZE at hp
 let B:Nat→Prop:=(fun r=>r < h.n)
 have hO:Own B h h []:=Own.start0 h
 refine Zm (Zs (Zd (.sn) rfl (Zc (Zb (Zm (Zs (Zd (.n n) rfl ?_)))))))
 obtain ⟨c'1,hp⟩:=Zp hp
 refine zK (hO.mks (E:=Zh) (y:=(⟨⟨0,0,0,0⟩,⟨0,0,0,0⟩⟩:Za)) (bytes:=64) (z:=n) hO.fr rfl rfl rfl c'1 (by decide)) ?_
 rintro v'2 k'1 ⟨r'1,f'1,hW⟩
 have hO'1:=hW
 refine Zd v'2 rfl (Zc (Zb (Zm (Zm (Zs (Zd (.n 0) rfl (Zc ?_)))))))
 refine Zb (Zae ?_)
 obtain ⟨o'1,ho'1,hp⟩:=Zv hp
 refine W.mono (Q:=fun e fr k=>match (generalizing:=false) o'1 with
   | l1=>e = (.exit 0)∧fr 3 = v'2∧Own B h k [eSl Zh v'2 l1]) ?_ ?_
 ·clear hp
  refine zE (fun st fr k=>match st with | (l,v)=>fr 0 = .n n∧fr 3 = v'2∧fr 4 = .n v∧Own B h k [eSl Zh v'2 l]) ho'1 (s:=(List.replicate n.toNat (⟨⟨0,0,0,0⟩,⟨0,0,0,0⟩⟩:Za),0)) ⟨rfl,rfl,rfl,(hO'1.pick [0] rfl (by decide))⟩ ?_
  rintro ⟨l,v⟩ q'2 k'3 ⟨q'2_0,q'2_3,q'2_4,hO'3⟩ o'2 hp
  dsimp only [ZE.s0] at hp
  refine Zm (Zm (Zs (Zd (.n v) q'2_4 (Zd (.n n) q'2_0 (Zi (z4 (a:=v) (b:=n) rfl rfl) (Zc (Zb ?_)))))))
  rcases Zy hp with ⟨b'1,hp⟩ | ⟨b'1,hp⟩
  ·refine zA (t:=(decide (v < n))) rfl b'1 ?_
   refine zB (Zb (Zm (Zae (Zm (Zs (Zd (.n 0) rfl (Zc ?_)))))))
   refine Zb (Zae ?_)
   obtain ⟨o'3,ho'2,hp⟩:=Zv hp
   refine W.mono (Q:=fun e fr k=>match (generalizing:=false) o'3 with
     | l3=>e = (.exit 2)∧fr 0 = .n n∧fr 3 = v'2∧fr 4 = .n v∧Own B h k [eSl Zh v'2 l3]) ?_ ?_
   ·clear hp
    refine zE (fun st fr k=>match st with | (l2,d)=>fr 0 = .n n∧fr 3 = v'2∧fr 4 = .n v∧fr 5 = .n d∧Own B h k [eSl Zh v'2 l2]) ho'2 (s:=(l,0)) ⟨q'2_0,q'2_3,q'2_4,rfl,(hO'3.pick [0] rfl (by decide))⟩ ?_
    rintro ⟨l2,d⟩ q'4 k'5 ⟨q'4_0,q'4_3,q'4_4,q'4_5,hO'5⟩ o'4 hp
    dsimp only [ZE.s1] at hp
    refine Zm (Zm (Zs (Zd (.n d) q'4_5 (Zi (z4 (a:=d) (b:=4) rfl rfl) (Zc (Zb ?_))))))
    rcases Zy hp with ⟨b'2,hp⟩ | ⟨b'2,hp⟩
    ·refine zA (t:=(decide (d < 4))) rfl b'2 ?_
     refine zB (Zb (Zm (Zae (Zs (Zd v'2 q'4_3 (Zd (.n v) q'4_4 (Zd (.n d) q'4_5 ?_)))))))
     obtain ⟨c'2,hp⟩:=Zp hp
     refine Zi (zn (E:=Zh) (z:=v) (hO'5.sl 0 rfl) rfl rfl c'2) (Zi (Zar (off':=0) (off2:=0) (hO'5.sl 0 rfl) (Zr c'2) rfl rfl) ?_)
     obtain ⟨c'3,hp⟩:=Zp hp
     refine Zi (Zbd (off:=0) (off2:=(0 + d.toNat * 1)) (z:=d) (hO'5.sl 0 rfl) (Zr c'2) rfl rfl c'3 rfl) (zK (hO'5.ste (E:=Zh) (y:=({ gi l2 v.toNat with Next:=((gi l2 v.toNat).Next).set d (-1) })) (ws:=[.n (-1)]) 0 rfl rfl (Zr c'2) rfl rfl ⟨rfl,(by have:=c'3; exact (show 0 + d.toNat * 1 + 1≤8 by omega)),rfl⟩ (Zbh c'3)) ?_)
     rintro _ k'6 ⟨rfl,f'2,m'1,hW⟩
     have hO'6:=hW
     refine Zc (zV (Zb (Zs (Zd (.n d) q'4_5 ?_))))
     obtain ⟨c'4,hp⟩:=Zp hp
     refine Zi (z8 (a:=d) (b:=1) rfl rfl c'4) (Zd (.n (d + 1)) rfl (Zc ?_))
     cases hp
     exact (Or.inl ⟨(l2.set v.toNat ({ gi l2 v.toNat with Next:=((gi l2 v.toNat).Next).set d (-1) }),d + 1),rfl,rfl,q'4_0,q'4_3,q'4_4,rfl,(hO'6.pick [0] rfl (by decide))⟩)
    ·refine z9 (t:=(decide (d < 4))) rfl b'2 ?_
     refine ZaL (zO ?_)
     cases hp
     refine (Or.inr ⟨l2,rfl,(fun h=>nomatch h),(fun he=>?_)⟩)
     subst he; exact ⟨rfl,q'4_0,q'4_3,q'4_4,(hO'5.pick [0] rfl (by decide))⟩
   intro e'2 q'3 k'4 hJ'2
   obtain ⟨l3,rfl⟩:∃ x,x = o'3:=⟨_,rfl⟩
   obtain ⟨rfl,q'3_0,q'3_3,q'3_4,hO'4⟩:=hJ'2
   refine Zav (zV (Zb (Zs (Zd (.n v) q'3_4 ?_))))
   obtain ⟨c'5,hp⟩:=Zp hp
   refine Zi (z8 (a:=v) (b:=1) rfl rfl c'5) (Zd (.n (v + 1)) rfl (Zc ?_))
   cases hp
   exact (Or.inl ⟨(l3,v + 1),rfl,rfl,q'3_0,q'3_3,rfl,(hO'4.pick [0] rfl (by decide))⟩)
  ·refine z9 (t:=(decide (v < n))) rfl b'1 ?_
   refine ZaL (zO ?_)
   cases hp
   refine (Or.inr ⟨l,rfl,(fun h=>nomatch h),(fun he=>?_)⟩)
   subst he; exact ⟨rfl,q'2_3,(hO'3.pick [0] rfl (by decide))⟩
 intro e'1 q'1 k'2 hJ'1
 obtain ⟨l1,rfl⟩:∃ x,x = o'1:=⟨_,rfl⟩
 obtain ⟨rfl,q'1_3,hO'2⟩:=hJ'1
 refine Zav (Zb (Zm (Zs (Zd v'2 q'1_3 (Zd v'2 rfl (Zc (Zb ?_)))))))
 refine Zao (z6 (zR (n:=2) (v:=v'2) rfl zj) ?_)
 cases hp
 exact ⟨v'2,rfl,(hO'2.pick [0] rfl (by decide))⟩

theorem Z9.ok {h:Hp} {at_:List Zk} {i:Int} {d:Int} {v_at_:V} (s_at_:Sl Zg h v_at_ at_) {r:Int} (hp:Z9 at_ i d = some r) :
  ∃ u k',Is G 63 [v_at_,.n i,.n d] h u k'∧V.n r = u∧Own (fun r=>r < h.n) h k' []:=by
 refine WC.is (Za0 Zbj ?_)
 unfold Z9 at hp
 let B:Nat→Prop:=(fun r=>r < h.n)
 have hO:Own B h h []:=Own.start0 h
 refine Zm (Zs (Zd (.n 0) rfl (Zc (Zb (Zm (Zs (Zd (.n (-1)) rfl ?_)))))))
 refine Zc (Zb (Zm (Zm (Zs (Zd (.n 0) rfl (Zc (Zb ?_)))))))
 refine Zae ?_
 obtain ⟨o'1,ho'1,hp⟩:=Zv hp
 refine W.mono (Q:=fun e fr k=>match (generalizing:=false) o'1 with
   | best1=>e = (.exit 0)∧fr 7 = .n best1∧Own B h k []) ?_ ?_
 ·clear hp
  refine zE (fun st fr k=>match st with | (best,k_)=>fr 0 = v_at_∧fr 1 = .n i∧fr 2 = .n d∧fr 7 = .n best∧fr 8 = .n k_∧Own B h k []) ho'1 (s:=((-1),0)) ⟨rfl,rfl,rfl,rfl,rfl,(hO.pick [] rfl (by decide))⟩ ?_
  rintro ⟨best,k_⟩ q'2 k'2 ⟨q'2_0,q'2_1,q'2_2,q'2_7,q'2_8,hO'2⟩ o'2 hp
  dsimp only [Z9.s0] at hp
  refine Zm (Zm (Zs (Zd (.n k_) q'2_8 (Zd v_at_ q'2_0 (Zi (Zam (hO'2.rd0 s_at_.rd) rfl) (Zi (z4 (a:=k_) (b:=(at_.length:Int)) rfl rfl) (Zc ?_)))))))
  refine Zb ?_
  rcases Zy hp with ⟨b'1,hp⟩ | ⟨b'1,hp⟩
  ·refine zA (t:=(decide (k_ < (at_.length:Int)))) rfl b'1 ?_
   refine zB (Zb (Zm (Zae (Zm (Zm (Zg0 ?_))))))
   have hW:=hO'2.bump 45
   have hO'3:=hW
   refine zx (.n d) q'2_2 (ZJ rfl (Za7 (a:=d) (b:=0) rfl rfl) (zx (.b (decide (d = 0))) rfl ?_))
   obtain ⟨t,hv'1,hp⟩:=Zv hp
   refine ZaD 12 (fun fr' k'=>(k'2.bump 45) = k'∧fr' 29 = .b t∧fr' 0 = v_at_∧fr' 1 = .n i∧fr' 2 = .n d∧fr' 7 = .n best∧fr' 8 = .n k_) ?_ ?_
   ·clear hp; rcases Zy hv'1 with ⟨b'2,hp⟩ | ⟨b'2,hp⟩
    ·skip
     refine Z3 rfl b'2 (zx v_at_ q'2_0 (Z3 rfl b'2 (zx (.n k_) q'2_8 (Z3 rfl b'2 ?_))))
     obtain ⟨c'1,hp⟩:=Zp hp
     refine ZJ rfl (zn (E:=Zg) (z:=k_) (hO'3.rd0 s_at_.rd) rfl rfl c'1) (Z3 rfl b'2 (ZJ rfl (Zar (off':=0) (off2:=1) (hO'3.rd0 s_at_.rd) (Zr c'1) rfl rfl) (Z3 rfl b'2 (ZJ rfl (zI (w:=.n ((gi at_ k_.toNat).Y)) (hO'3.rd0 s_at_.rd) rfl (Zr c'1) rfl) (Z3 rfl b'2 (zx v_at_ q'2_0 (Z3 rfl b'2 ?_)))))))
     refine zx (.n i) q'2_1 (Z3 rfl b'2 ?_)
     obtain ⟨c'2,hp⟩:=Zp hp
     refine ZJ rfl (zn (E:=Zg) (z:=i) (hO'3.rd0 s_at_.rd) rfl rfl c'2) (Z3 rfl b'2 (ZJ rfl (Zar (off':=0) (off2:=1) (hO'3.rd0 s_at_.rd) (Zr c'2) rfl rfl) (Z3 rfl b'2 (ZJ rfl (zI (w:=.n ((gi at_ i.toNat).Y)) (hO'3.rd0 s_at_.rd) rfl (Zr c'2) rfl) (Z3 rfl b'2 (ZJ rfl (Za7 (a:=((gi at_ k_.toNat).Y)) (b:=((gi at_ i.toNat).Y)) rfl rfl) (ZJ rfl (ZV (t:=(decide (d = 0))) (v:=.b t) rfl b'2 (Eq.trans (b:=V.b (decide ((gi at_ k_.toNat).Y = (gi at_ i.toNat).Y))) rfl (congrArg V.b (Option.some.inj hp)))) ?_)))))))
     refine zr ?_
     exact ⟨rfl,rfl,q'2_0,q'2_1,q'2_2,q'2_7,q'2_8⟩
    ·skip
     refine Zt rfl b'2 (Zt rfl b'2 (Zt rfl b'2 (Zt rfl b'2 (Zt rfl b'2 (Zt rfl b'2 (Zt rfl b'2 (Zt rfl b'2 ?_)))))))
     refine Zt rfl b'2 (Zt rfl b'2 (Zt rfl b'2 (ZJ rfl (ZT (t:=(decide (d = 0))) (v:=.b t) rfl b'2 (Eq.trans (b:=V.b false) rfl (congrArg V.b (Option.some.inj hp)))) (zr ?_))))
     exact ⟨rfl,rfl,q'2_0,q'2_1,q'2_2,q'2_7,q'2_8⟩
   rintro frg'1 _ ⟨rfl,g'1_29,g'1_0,g'1_1,g'1_2,g'1_7,g'1_8⟩
   refine zx (.b t) g'1_29 ?_
   obtain ⟨t1,hv'2,hp⟩:=Zv hp
   refine ZaD 12 (fun fr' k'=>(k'2.bump 45) = k'∧fr' 42 = .b t1∧fr' 0 = v_at_∧fr' 1 = .n i∧fr' 2 = .n d∧fr' 7 = .n best∧fr' 8 = .n k_) ?_ ?_
   ·clear hp; rcases Zy hv'2 with ⟨b'3,hp⟩ | ⟨b'3,hp⟩
    ·skip
     refine Z3 rfl b'3 (zx v_at_ g'1_0 (Z3 rfl b'3 (zx (.n k_) g'1_8 (Z3 rfl b'3 ?_))))
     obtain ⟨c'3,hp⟩:=Zp hp
     refine ZJ rfl (zn (E:=Zg) (z:=k_) (hO'3.rd0 s_at_.rd) rfl rfl c'3) (Z3 rfl b'3 (ZJ rfl (Zar (off':=0) (off2:=0) (hO'3.rd0 s_at_.rd) (Zr c'3) rfl rfl) (Z3 rfl b'3 (ZJ rfl (zI (w:=.n ((gi at_ k_.toNat).X)) (hO'3.rd0 s_at_.rd) rfl (Zr c'3) rfl) (Z3 rfl b'3 (zx v_at_ g'1_0 (Z3 rfl b'3 ?_)))))))
     refine zx (.n i) g'1_1 (Z3 rfl b'3 ?_)
     obtain ⟨c'4,hp⟩:=Zp hp
     refine ZJ rfl (zn (E:=Zg) (z:=i) (hO'3.rd0 s_at_.rd) rfl rfl c'4) (Z3 rfl b'3 (ZJ rfl (Zar (off':=0) (off2:=0) (hO'3.rd0 s_at_.rd) (Zr c'4) rfl rfl) (Z3 rfl b'3 (ZJ rfl (zI (w:=.n ((gi at_ i.toNat).X)) (hO'3.rd0 s_at_.rd) rfl (Zr c'4) rfl) (Z3 rfl b'3 (ZJ rfl (Zec (a:=((gi at_ k_.toNat).X)) (b:=((gi at_ i.toNat).X)) rfl rfl) (ZJ rfl (ZV (t:=t) (v:=.b t1) rfl b'3 (Eq.trans (b:=V.b (decide (((gi at_ i.toNat).X) < ((gi at_ k_.toNat).X)))) rfl (congrArg V.b (Option.some.inj hp)))) ?_)))))))
     refine zr ?_
     exact ⟨rfl,rfl,g'1_0,g'1_1,g'1_2,g'1_7,g'1_8⟩
    ·skip
     refine Zt rfl b'3 (Zt rfl b'3 (Zt rfl b'3 (Zt rfl b'3 (Zt rfl b'3 (Zt rfl b'3 (Zt rfl b'3 (Zt rfl b'3 ?_)))))))
     refine Zt rfl b'3 (Zt rfl b'3 (Zt rfl b'3 (ZJ rfl (ZT (t:=t) (v:=.b t1) rfl b'3 (Eq.trans (b:=V.b false) rfl (congrArg V.b (Option.some.inj hp)))) (zr ?_))))
     exact ⟨rfl,rfl,g'1_0,g'1_1,g'1_2,g'1_7,g'1_8⟩
   rintro frg'2 _ ⟨rfl,g'2_42,g'2_0,g'2_1,g'2_2,g'2_7,g'2_8⟩
   refine zx (.b t1) g'2_42 ?_
   obtain ⟨t2,hv'3,hp⟩:=Zv hp
   refine ZaD 16 (fun fr' k'=>(k'2.bump 45) = k'∧fr' 59 = .b t2∧fr' 0 = v_at_∧fr' 1 = .n i∧fr' 2 = .n d∧fr' 7 = .n best∧fr' 8 = .n k_) ?_ ?_
   ·clear hp; rcases Zy hv'3 with ⟨b'4,hp⟩ | ⟨b'4,hp⟩
    ·skip
     refine Z3 rfl b'4 (zx (.n best) g'2_7 (Z3 rfl b'4 (ZJ rfl (z4 (a:=best) (b:=0) rfl rfl) (Z3 rfl b'4 (zx (.b (decide (best < 0))) rfl ?_)))))
     obtain ⟨t3,hv'4,hp⟩:=Zv hp
     refine ZaD 12 (fun fr' k'=>(k'2.bump 45) = k'∧fr' 58 = .b t3∧fr' 0 = v_at_∧fr' 1 = .n i∧fr' 2 = .n d∧fr' 43 = .b t1∧fr' 7 = .n best∧fr' 8 = .n k_) ?_ ?_
     ·clear hp; rcases Zy hv'4 with ⟨b'5,hp⟩ | ⟨b'5,hp⟩
      ·skip
       refine Zt rfl b'5 (Zt rfl b'5 (Zt rfl b'5 (Zt rfl b'5 (Zt rfl b'5 (Zt rfl b'5 (Zt rfl b'5 (Zt rfl b'5 ?_)))))))
       refine Zt rfl b'5 (Zt rfl b'5 (Zt rfl b'5 (Z3 rfl b'4 (ZJ rfl (ZV (t:=(decide (best < 0))) (v:=.b t3) rfl b'5 (Eq.trans (b:=V.b true) rfl (congrArg V.b (Option.some.inj hp)))) (zr ?_)))))
       exact ⟨rfl,rfl,g'2_0,g'2_1,g'2_2,rfl,g'2_7,g'2_8⟩
      ·skip
       refine Z3 rfl b'5 (zx v_at_ g'2_0 (Z3 rfl b'5 (zx (.n k_) g'2_8 (Z3 rfl b'5 ?_))))
       obtain ⟨c'5,hp⟩:=Zp hp
       refine ZJ rfl (zn (E:=Zg) (z:=k_) (hO'3.rd0 s_at_.rd) rfl rfl c'5) (Z3 rfl b'5 (ZJ rfl (Zar (off':=0) (off2:=0) (hO'3.rd0 s_at_.rd) (Zr c'5) rfl rfl) (Z3 rfl b'5 (ZJ rfl (zI (w:=.n ((gi at_ k_.toNat).X)) (hO'3.rd0 s_at_.rd) rfl (Zr c'5) rfl) (Z3 rfl b'5 (zx v_at_ g'2_0 (Z3 rfl b'5 ?_)))))))
       refine zx (.n best) g'2_7 (Z3 rfl b'5 ?_)
       obtain ⟨c'6,hp⟩:=Zp hp
       refine ZJ rfl (zn (E:=Zg) (z:=best) (hO'3.rd0 s_at_.rd) rfl rfl c'6) (Z3 rfl b'5 (ZJ rfl (Zar (off':=0) (off2:=0) (hO'3.rd0 s_at_.rd) (Zr c'6) rfl rfl) (Z3 rfl b'5 (ZJ rfl (zI (w:=.n ((gi at_ best.toNat).X)) (hO'3.rd0 s_at_.rd) rfl (Zr c'6) rfl) (Z3 rfl b'5 (ZJ rfl (z4 (a:=((gi at_ k_.toNat).X)) (b:=((gi at_ best.toNat).X)) rfl rfl) (Z3 rfl b'4 ?_)))))))
       refine ZJ rfl (ZT (t:=(decide (best < 0))) (v:=.b t3) rfl b'5 (Eq.trans (b:=V.b (decide (((gi at_ k_.toNat).X) < ((gi at_ best.toNat).X)))) rfl (congrArg V.b (Option.some.inj hp)))) (zr ?_)
       exact ⟨rfl,rfl,g'2_0,g'2_1,g'2_2,rfl,g'2_7,g'2_8⟩
     rintro frg'3 _ ⟨rfl,g'3_58,g'3_0,g'3_1,g'3_2,g'3_43,g'3_7,g'3_8⟩
     refine ZJ rfl (ZV (t:=t1) (v:=.b t2) g'3_43 b'4 (Eq.trans (b:=V.b t3) g'3_58 (congrArg V.b (Option.some.inj hp)))) (zr ?_)
     exact ⟨rfl,rfl,g'3_0,g'3_1,g'3_2,g'3_7,g'3_8⟩
    ·skip
     refine Zt rfl b'4 (Zt rfl b'4 (Zt rfl b'4 (ZaX rfl (ZaX rfl (ZaX rfl (ZaX rfl (ZaX rfl ?_)))))))
     refine ZaX rfl (ZaX rfl (ZaX rfl (ZaX rfl (ZaX rfl (ZaX rfl (Zt rfl b'4 (ZJ rfl (ZT (t:=t1) (v:=.b t2) rfl b'4 (Eq.trans (b:=V.b false) rfl (congrArg V.b (Option.some.inj hp)))) ?_)))))))
     refine zr ?_
     exact ⟨rfl,rfl,g'2_0,g'2_1,g'2_2,g'2_7,g'2_8⟩
   rintro frg'4 _ ⟨rfl,g'4_59,g'4_0,g'4_1,g'4_2,g'4_7,g'4_8⟩
   refine zr (Zb ?_)
   obtain ⟨o'3,ho'2,hp⟩:=Zv hp
   refine W.mono (Q:=fun e fr k=>match (generalizing:=false) o'3 with
     | best2=>e = .normal∧fr 0 = v_at_∧fr 1 = .n i∧fr 2 = .n d∧fr 7 = .n best2∧fr 8 = .n k_∧Own B h k []) ?_ ?_
   ·clear hp; have hp:=ho'2; clear ho'2
    rcases Zy hp with ⟨b'6,hp⟩ | ⟨b'6,hp⟩
    ·refine zA (t:=t2) g'4_59 b'6 ?_
     refine Zs (Zd (.n k_) g'4_8 (Zd (.n k_) rfl (Zc ?_)))
     cases hp
     exact ⟨rfl,g'4_0,g'4_1,g'4_2,rfl,g'4_8,(hO'3.pick [] rfl (by decide))⟩
    ·refine z9 (t:=t2) g'4_59 b'6 ?_
     refine zB ?_
     cases hp
     exact ⟨rfl,g'4_0,g'4_1,g'4_2,g'4_7,g'4_8,(hO'3.pick [] rfl (by decide))⟩
   intro e'2 q'3 k'4 hJ'2
   obtain ⟨best2,rfl⟩:∃ x,x = o'3:=⟨_,rfl⟩
   obtain ⟨rfl,q'3_0,q'3_1,q'3_2,q'3_7,q'3_8,hO'4⟩:=hJ'2
   refine Zb (Zm (Zg0 ?_))
   have hW:=hO'4.bump 45
   have hO'5:=hW
   refine zx (.n d) q'3_2 (ZJ rfl (Za7 (a:=d) (b:=1) rfl rfl) (zx (.b (decide (d = 1))) rfl ?_))
   obtain ⟨t4,hv'5,hp⟩:=Zv hp
   refine ZaD 12 (fun fr' k'=>(k'4.bump 45) = k'∧fr' 75 = .b t4∧fr' 0 = v_at_∧fr' 1 = .n i∧fr' 2 = .n d∧fr' 7 = .n best2∧fr' 8 = .n k_) ?_ ?_
   ·clear hp; rcases Zy hv'5 with ⟨b'7,hp⟩ | ⟨b'7,hp⟩
    ·skip
     refine Z3 rfl b'7 (zx v_at_ q'3_0 (Z3 rfl b'7 (zx (.n k_) q'3_8 (Z3 rfl b'7 ?_))))
     obtain ⟨c'7,hp⟩:=Zp hp
     refine ZJ rfl (zn (E:=Zg) (z:=k_) (hO'5.rd0 s_at_.rd) rfl rfl c'7) (Z3 rfl b'7 (ZJ rfl (Zar (off':=0) (off2:=0) (hO'5.rd0 s_at_.rd) (Zr c'7) rfl rfl) (Z3 rfl b'7 (ZJ rfl (zI (w:=.n ((gi at_ k_.toNat).X)) (hO'5.rd0 s_at_.rd) rfl (Zr c'7) rfl) (Z3 rfl b'7 (zx v_at_ q'3_0 (Z3 rfl b'7 ?_)))))))
     refine zx (.n i) q'3_1 (Z3 rfl b'7 ?_)
     obtain ⟨c'8,hp⟩:=Zp hp
     refine ZJ rfl (zn (E:=Zg) (z:=i) (hO'5.rd0 s_at_.rd) rfl rfl c'8) (Z3 rfl b'7 (ZJ rfl (Zar (off':=0) (off2:=0) (hO'5.rd0 s_at_.rd) (Zr c'8) rfl rfl) (Z3 rfl b'7 (ZJ rfl (zI (w:=.n ((gi at_ i.toNat).X)) (hO'5.rd0 s_at_.rd) rfl (Zr c'8) rfl) (Z3 rfl b'7 (ZJ rfl (Za7 (a:=((gi at_ k_.toNat).X)) (b:=((gi at_ i.toNat).X)) rfl rfl) (ZJ rfl (ZV (t:=(decide (d = 1))) (v:=.b t4) rfl b'7 (Eq.trans (b:=V.b (decide ((gi at_ k_.toNat).X = (gi at_ i.toNat).X))) rfl (congrArg V.b (Option.some.inj hp)))) ?_)))))))
     refine zr ?_
     exact ⟨rfl,rfl,q'3_0,q'3_1,q'3_2,q'3_7,q'3_8⟩
    ·skip
     refine Zt rfl b'7 (Zt rfl b'7 (Zt rfl b'7 (Zt rfl b'7 (Zt rfl b'7 (Zt rfl b'7 (Zt rfl b'7 (Zt rfl b'7 ?_)))))))
     refine Zt rfl b'7 (Zt rfl b'7 (Zt rfl b'7 (ZJ rfl (ZT (t:=(decide (d = 1))) (v:=.b t4) rfl b'7 (Eq.trans (b:=V.b false) rfl (congrArg V.b (Option.some.inj hp)))) (zr ?_))))
     exact ⟨rfl,rfl,q'3_0,q'3_1,q'3_2,q'3_7,q'3_8⟩
   rintro frg'5 _ ⟨rfl,g'5_75,g'5_0,g'5_1,g'5_2,g'5_7,g'5_8⟩
   refine zx (.b t4) g'5_75 ?_
   obtain ⟨t5,hv'6,hp⟩:=Zv hp
   refine ZaD 12 (fun fr' k'=>(k'4.bump 45) = k'∧fr' 88 = .b t5∧fr' 0 = v_at_∧fr' 1 = .n i∧fr' 2 = .n d∧fr' 7 = .n best2∧fr' 8 = .n k_) ?_ ?_
   ·clear hp; rcases Zy hv'6 with ⟨b'8,hp⟩ | ⟨b'8,hp⟩
    ·skip
     refine Z3 rfl b'8 (zx v_at_ g'5_0 (Z3 rfl b'8 (zx (.n k_) g'5_8 (Z3 rfl b'8 ?_))))
     obtain ⟨c'9,hp⟩:=Zp hp
     refine ZJ rfl (zn (E:=Zg) (z:=k_) (hO'5.rd0 s_at_.rd) rfl rfl c'9) (Z3 rfl b'8 (ZJ rfl (Zar (off':=0) (off2:=1) (hO'5.rd0 s_at_.rd) (Zr c'9) rfl rfl) (Z3 rfl b'8 (ZJ rfl (zI (w:=.n ((gi at_ k_.toNat).Y)) (hO'5.rd0 s_at_.rd) rfl (Zr c'9) rfl) (Z3 rfl b'8 (zx v_at_ g'5_0 (Z3 rfl b'8 ?_)))))))
     refine zx (.n i) g'5_1 (Z3 rfl b'8 ?_)
     obtain ⟨c'10,hp⟩:=Zp hp
     refine ZJ rfl (zn (E:=Zg) (z:=i) (hO'5.rd0 s_at_.rd) rfl rfl c'10) (Z3 rfl b'8 (ZJ rfl (Zar (off':=0) (off2:=1) (hO'5.rd0 s_at_.rd) (Zr c'10) rfl rfl) (Z3 rfl b'8 (ZJ rfl (zI (w:=.n ((gi at_ i.toNat).Y)) (hO'5.rd0 s_at_.rd) rfl (Zr c'10) rfl) (Z3 rfl b'8 (ZJ rfl (Zec (a:=((gi at_ k_.toNat).Y)) (b:=((gi at_ i.toNat).Y)) rfl rfl) (ZJ rfl (ZV (t:=t4) (v:=.b t5) rfl b'8 (Eq.trans (b:=V.b (decide (((gi at_ i.toNat).Y) < ((gi at_ k_.toNat).Y)))) rfl (congrArg V.b (Option.some.inj hp)))) ?_)))))))
     refine zr ?_
     exact ⟨rfl,rfl,g'5_0,g'5_1,g'5_2,g'5_7,g'5_8⟩
    ·skip
     refine Zt rfl b'8 (Zt rfl b'8 (Zt rfl b'8 (Zt rfl b'8 (Zt rfl b'8 (Zt rfl b'8 (Zt rfl b'8 (Zt rfl b'8 ?_)))))))
     refine Zt rfl b'8 (Zt rfl b'8 (Zt rfl b'8 (ZJ rfl (ZT (t:=t4) (v:=.b t5) rfl b'8 (Eq.trans (b:=V.b false) rfl (congrArg V.b (Option.some.inj hp)))) (zr ?_))))
     exact ⟨rfl,rfl,g'5_0,g'5_1,g'5_2,g'5_7,g'5_8⟩
   rintro frg'6 _ ⟨rfl,g'6_88,g'6_0,g'6_1,g'6_2,g'6_7,g'6_8⟩
   refine zx (.b t5) g'6_88 ?_
   obtain ⟨t6,hv'7,hp⟩:=Zv hp
   refine ZaD 16 (fun fr' k'=>(k'4.bump 45) = k'∧fr' 105 = .b t6∧fr' 0 = v_at_∧fr' 1 = .n i∧fr' 2 = .n d∧fr' 7 = .n best2∧fr' 8 = .n k_) ?_ ?_
   ·clear hp; rcases Zy hv'7 with ⟨b'9,hp⟩ | ⟨b'9,hp⟩
    ·skip
     refine Z3 rfl b'9 (zx (.n best2) g'6_7 (Z3 rfl b'9 (ZJ rfl (z4 (a:=best2) (b:=0) rfl rfl) (Z3 rfl b'9 (zx (.b (decide (best2 < 0))) rfl ?_)))))
     obtain ⟨t7,hv'8,hp⟩:=Zv hp
     refine ZaD 12 (fun fr' k'=>(k'4.bump 45) = k'∧fr' 104 = .b t7∧fr' 0 = v_at_∧fr' 1 = .n i∧fr' 2 = .n d∧fr' 7 = .n best2∧fr' 8 = .n k_∧fr' 89 = .b t5) ?_ ?_
     ·clear hp; rcases Zy hv'8 with ⟨b'10,hp⟩ | ⟨b'10,hp⟩
      ·skip
       refine Zt rfl b'10 (Zt rfl b'10 (Zt rfl b'10 (Zt rfl b'10 (Zt rfl b'10 (Zt rfl b'10 (Zt rfl b'10 (Zt rfl b'10 ?_)))))))
       refine Zt rfl b'10 (Zt rfl b'10 (Zt rfl b'10 (Z3 rfl b'9 (ZJ rfl (ZV (t:=(decide (best2 < 0))) (v:=.b t7) rfl b'10 (Eq.trans (b:=V.b true) rfl (congrArg V.b (Option.some.inj hp)))) (zr ?_)))))
       exact ⟨rfl,rfl,g'6_0,g'6_1,g'6_2,g'6_7,g'6_8,rfl⟩
      ·skip
       refine Z3 rfl b'10 (zx v_at_ g'6_0 (Z3 rfl b'10 (zx (.n k_) g'6_8 (Z3 rfl b'10 ?_))))
       obtain ⟨c'11,hp⟩:=Zp hp
       refine ZJ rfl (zn (E:=Zg) (z:=k_) (hO'5.rd0 s_at_.rd) rfl rfl c'11) (Z3 rfl b'10 (ZJ rfl (Zar (off':=0) (off2:=1) (hO'5.rd0 s_at_.rd) (Zr c'11) rfl rfl) (Z3 rfl b'10 (ZJ rfl (zI (w:=.n ((gi at_ k_.toNat).Y)) (hO'5.rd0 s_at_.rd) rfl (Zr c'11) rfl) (Z3 rfl b'10 (zx v_at_ g'6_0 (Z3 rfl b'10 ?_)))))))
       refine zx (.n best2) g'6_7 (Z3 rfl b'10 ?_)
       obtain ⟨c'12,hp⟩:=Zp hp
       refine ZJ rfl (zn (E:=Zg) (z:=best2) (hO'5.rd0 s_at_.rd) rfl rfl c'12) (Z3 rfl b'10 (ZJ rfl (Zar (off':=0) (off2:=1) (hO'5.rd0 s_at_.rd) (Zr c'12) rfl rfl) (Z3 rfl b'10 (ZJ rfl (zI (w:=.n ((gi at_ best2.toNat).Y)) (hO'5.rd0 s_at_.rd) rfl (Zr c'12) rfl) (Z3 rfl b'10 (ZJ rfl (z4 (a:=((gi at_ k_.toNat).Y)) (b:=((gi at_ best2.toNat).Y)) rfl rfl) (Z3 rfl b'9 ?_)))))))
       refine ZJ rfl (ZT (t:=(decide (best2 < 0))) (v:=.b t7) rfl b'10 (Eq.trans (b:=V.b (decide (((gi at_ k_.toNat).Y) < ((gi at_ best2.toNat).Y)))) rfl (congrArg V.b (Option.some.inj hp)))) (zr ?_)
       exact ⟨rfl,rfl,g'6_0,g'6_1,g'6_2,g'6_7,g'6_8,rfl⟩
     rintro frg'7 _ ⟨rfl,g'7_104,g'7_0,g'7_1,g'7_2,g'7_7,g'7_8,g'7_89⟩
     refine ZJ rfl (ZV (t:=t5) (v:=.b t6) g'7_89 b'9 (Eq.trans (b:=V.b t7) g'7_104 (congrArg V.b (Option.some.inj hp)))) (zr ?_)
     exact ⟨rfl,rfl,g'7_0,g'7_1,g'7_2,g'7_7,g'7_8⟩
    ·skip
     refine Zt rfl b'9 (Zt rfl b'9 (Zt rfl b'9 (ZaX rfl (ZaX rfl (ZaX rfl (ZaX rfl (ZaX rfl ?_)))))))
     refine ZaX rfl (ZaX rfl (ZaX rfl (ZaX rfl (ZaX rfl (ZaX rfl (Zt rfl b'9 (ZJ rfl (ZT (t:=t5) (v:=.b t6) rfl b'9 (Eq.trans (b:=V.b false) rfl (congrArg V.b (Option.some.inj hp)))) ?_)))))))
     refine zr ?_
     exact ⟨rfl,rfl,g'6_0,g'6_1,g'6_2,g'6_7,g'6_8⟩
   rintro frg'8 _ ⟨rfl,g'8_105,g'8_0,g'8_1,g'8_2,g'8_7,g'8_8⟩
   refine zr (Zb ?_)
   rcases Zy hp with ⟨b'11,hp⟩ | ⟨b'11,hp⟩
   ·refine zA (t:=t6) g'8_105 b'11 ?_
    refine Zs (Zd (.n k_) g'8_8 (Zd (.n k_) rfl (Zc (zV (Zb (Zs (Zd (.n k_) g'8_8 ?_)))))))
    obtain ⟨c'13,hp⟩:=Zp hp
    refine Zi (z8 (a:=k_) (b:=1) rfl rfl c'13) (Zd (.n (k_ + 1)) rfl (Zc ?_))
    cases hp
    exact (Or.inl ⟨(k_,k_ + 1),rfl,rfl,g'8_0,g'8_1,g'8_2,rfl,rfl,(hO'5.pick [] rfl (by decide))⟩)
   ·refine z9 (t:=t6) g'8_105 b'11 ?_
    refine zB (zV (Zb (Zs (Zd (.n k_) g'8_8 ?_))))
    obtain ⟨c'14,hp⟩:=Zp hp
    refine Zi (z8 (a:=k_) (b:=1) rfl rfl c'14) (Zd (.n (k_ + 1)) rfl (Zc ?_))
    cases hp
    exact (Or.inl ⟨(best2,k_ + 1),rfl,rfl,g'8_0,g'8_1,g'8_2,g'8_7,rfl,(hO'5.pick [] rfl (by decide))⟩)
  ·refine z9 (t:=(decide (k_ < (at_.length:Int)))) rfl b'1 ?_
   refine ZaL (zO ?_)
   cases hp
   refine (Or.inr ⟨best,rfl,(fun h=>nomatch h),(fun he=>?_)⟩)
   subst he; exact ⟨rfl,q'2_7,(hO'2.pick [] rfl (by decide))⟩
 intro e'1 q'1 k'1 hJ'1
 obtain ⟨best1,rfl⟩:∃ x,x = o'1:=⟨_,rfl⟩
 obtain ⟨rfl,q'1_7,hO'1⟩:=hJ'1
 refine Zav (Zb (Zm (Zs (Zd (.n best1) q'1_7 (Zd (.n best1) rfl (Zc (Zb ?_)))))))
 refine Zao (z6 (zR (n:=6) (v:=.n best1) rfl zj) ?_)
 cases hp
 exact ⟨rfl,(hO'1.pick [] rfl (by decide))⟩

theorem Z8.ok {h:Hp} {at_:List Zk} {l:List Za} {i:Int} {w:Int} {v_at_:V} {v_l:V} (s_at_:Sl Zg h v_at_ at_) (s_l:Sl Zh h v_l l) {r:Bool} (hp:Z8 at_ l i w = some r) :
  ∃ u k',Is G 64 [v_at_,v_l,.n i,.n w] h u k'∧V.b r = u∧Own (fun r=>r < h.n) h k' []:=by
 refine WC.is (Za0 Zbi ?_)
 unfold Z8 at hp
 let B:Nat→Prop:=(fun r=>r < h.n)
 have hO:Own B h h []:=Own.start0 h
 refine Zm (Zs (Zd (.b false) rfl (Zc (Zb (Zm (Zm (Zs ?_)))))))
 refine Zd (.n 0) rfl (Zc (Zb (Zae ?_)))
 obtain ⟨o'1,ho'1,hp⟩:=Zv hp
 refine W.mono (Q:=fun e fr k=>match (generalizing:=false) o'1 with
   | .inl _=>e = (.exit 0)∧Own B h k []
   | .inr _=>e = .ret∧fr 8 = .b true∧Own B h k []) ?_ ?_
 ·clear hp
  refine zE (fun st fr k=>match st with | a=>fr 0 = v_at_∧fr 1 = v_l∧fr 2 = .n i∧fr 3 = .n w∧fr 9 = .n a∧Own B h k []) ho'1 (s:=0) ⟨rfl,rfl,rfl,rfl,rfl,(hO.pick [] rfl (by decide))⟩ ?_
  rintro a q'2 k'2 ⟨q'2_0,q'2_1,q'2_2,q'2_3,q'2_9,hO'2⟩ o'2 hp
  dsimp only [Z8.s0] at hp
  refine Zm (Zm (Zs (Zd (.n a) q'2_9 (Zd v_l q'2_1 (Zi (Zam (hO'2.rd0 s_l.rd) rfl) (Zi (z4 (a:=a) (b:=(l.length:Int)) rfl rfl) (Zc ?_)))))))
  refine Zb ?_
  rcases Zy hp with ⟨b'1,hp⟩ | ⟨b'1,hp⟩
  ·refine zA (t:=(decide (a < (l.length:Int)))) rfl b'1 ?_
   refine zB (Zb (Zm (Zae (Zm (Zs (Zd (.n 0) rfl (Zc ?_)))))))
   refine Zb (Zae ?_)
   obtain ⟨o'3,ho'2,hp⟩:=Zv hp
   refine W.mono (Q:=fun e fr k=>match (generalizing:=false) o'3 with
     | .inl _=>e = (.exit 2)∧fr 0 = v_at_∧fr 1 = v_l∧fr 2 = .n i∧fr 3 = .n w∧fr 9 = .n a∧Own B h k []
     | .inr _=>e = .ret∧fr 8 = .b true∧Own B h k []) ?_ ?_
   ·clear hp
    refine zE (fun st fr k=>match st with | d=>fr 0 = v_at_∧fr 1 = v_l∧fr 2 = .n i∧fr 3 = .n w∧fr 9 = .n a∧fr 10 = .n d∧Own B h k []) ho'2 (s:=0) ⟨q'2_0,q'2_1,q'2_2,q'2_3,q'2_9,rfl,(hO'2.pick [] rfl (by decide))⟩ ?_
    rintro d q'4 k'4 ⟨q'4_0,q'4_1,q'4_2,q'4_3,q'4_9,q'4_10,hO'4⟩ o'4 hp
    dsimp only [Z8.s1] at hp
    refine Zm (Zm (Zs (Zd (.n d) q'4_10 (Zi (z4 (a:=d) (b:=2) rfl rfl) (Zc (Zb ?_))))))
    rcases Zy hp with ⟨b'2,hp⟩ | ⟨b'2,hp⟩
    ·refine zA (t:=(decide (d < 2))) rfl b'2 ?_
     refine zB (Zb (Zm (Zae (Zm (Zs (Zd v_l q'4_1 (Zd (.n a) q'4_9 ?_)))))))
     refine Zd (.n d) q'4_10 ?_
     obtain ⟨c'1,hp⟩:=Zp hp
     refine Zi (zn (E:=Zh) (z:=a) (hO'4.rd0 s_l.rd) rfl rfl c'1) (Zi (Zar (off':=0) (off2:=0) (hO'4.rd0 s_l.rd) (Zr c'1) rfl rfl) ?_)
     obtain ⟨c'2,hp⟩:=Zp hp
     refine Zi (Zbd (off:=0) (off2:=(0 + d.toNat * 1)) (z:=d) (hO'4.rd0 s_l.rd) (Zr c'1) rfl rfl c'2 rfl) (Zi (zI (w:=.n (((gi l a.toNat).Next).get d)) (hO'4.rd0 s_l.rd) rfl (Zr c'1) (z7 c'2)) (Zd (.n (((gi l a.toNat).Next).get d)) rfl (Zc (Zb (Zm (Zm (Zs ?_)))))))
     refine Zd (.n (((gi l a.toNat).Next).get d)) rfl (Zi (z4 (a:=(((gi l a.toNat).Next).get d)) (b:=0) rfl rfl) (Zc (Zb ?_)))
     rcases Zy hp with ⟨b'3,hp⟩ | ⟨b'3,hp⟩
     ·refine zA (t:=(decide ((((gi l a.toNat).Next).get d) < 0))) rfl b'3 ?_
      refine ZaL (zO (Zav (Zb (Zs (Zd (.n d) q'4_10 ?_)))))
      obtain ⟨c'3,hp⟩:=Zp hp
      refine Zi (z8 (a:=d) (b:=1) rfl rfl c'3) (Zd (.n (d + 1)) rfl (Zc ?_))
      cases hp
      exact (Or.inl ⟨d + 1,rfl,rfl,q'4_0,q'4_1,q'4_2,q'4_3,q'4_9,rfl,(hO'4.pick [] rfl (by decide))⟩)
     ·refine z9 (t:=(decide ((((gi l a.toNat).Next).get d) < 0))) rfl b'3 ?_
      refine zB (Zb (Zm (Zs (Zd v_at_ q'4_0 (Zd (.n a) q'4_9 ?_)))))
      obtain ⟨c'4,hp⟩:=Zp hp
      refine Zi (zn (E:=Zg) (z:=a) (hO'4.rd0 s_at_.rd) rfl rfl c'4) (Zi (ZfY (E:=Zg) (hO'4.rd0 s_at_.rd) rfl (Zr c'4)) (zK (hO'4.alloc (cs:=Zg.c (⟨0,0⟩:Zk)) hO'4.fr) ?_))
      rintro _ k'5 ⟨r'1,rfl,n'1,f'1,hW⟩
      have hO'5:=hW
      refine zK (hO'5.stb (ws:=Zg.c (gi at_ a.toNat)) (cs':=Zg.c (gi at_ a.toNat)) (v:=.ag (Zg.c (gi at_ a.toNat))) 0 rfl rfl rfl rfl ⟨rfl,Nat.le_of_ble_eq_true rfl,rfl⟩ rfl) ?_
      rintro _ k'6 ⟨rfl,f'2,m'1,hW⟩
      have hO'6:=hW
      refine Zc (Zb (Zm (Zs (Zd v_at_ q'4_0 (Zd (.n (((gi l a.toNat).Next).get d)) rfl ?_)))))
      obtain ⟨c'5,hp⟩:=Zp hp
      refine Zi (zn (E:=Zg) (z:=(((gi l a.toNat).Next).get d)) (hO'6.rd0 s_at_.rd) rfl rfl c'5) (Zi (ZfY (E:=Zg) (hO'6.rd0 s_at_.rd) rfl (Zr c'5)) (zK (hO'6.alloc (cs:=Zg.c (⟨0,0⟩:Zk)) hO'6.fr) ?_))
      rintro _ k'7 ⟨r'2,rfl,n'2,f'3,hW⟩
      have hO'7:=hW
      refine zK (hO'7.stb (ws:=Zg.c (gi at_ (((gi l a.toNat).Next).get d:Int).toNat)) (cs':=Zg.c (gi at_ (((gi l a.toNat).Next).get d:Int).toNat)) (v:=.ag (Zg.c (gi at_ (((gi l a.toNat).Next).get d:Int).toNat))) 1 rfl rfl rfl rfl ⟨rfl,Nat.le_of_ble_eq_true rfl,rfl⟩ rfl) ?_
      rintro _ k'8 ⟨rfl,f'4,m'2,hW⟩
      have hO'8:=hW
      refine Zc (Zb (Zm (Zm (Zg0 ?_))))
      have hW:=hO'8.bump 58
      have hO'9:=hW
      refine ZJ rfl (Zbb (r:=r'1) (o:=0) (o':=1) rfl rfl) (ZJ rfl (Za9 (cs:=(Zg.c (gi at_ a.toNat))) (v:=.n ((gi at_ a.toNat).Y)) (hO'9.box 0 rfl) rfl rfl) (ZJ rfl (Zbb (r:=r'2) (o:=0) (o':=1) rfl rfl) (ZJ rfl (Za9 (cs:=(Zg.c (gi at_ (((gi l a.toNat).Next).get d:Int).toNat))) (v:=.n ((gi at_ (((gi l a.toNat).Next).get d:Int).toNat).Y)) (hO'9.box 1 rfl) rfl rfl) (ZJ rfl (Za7 (a:=((gi at_ a.toNat).Y)) (b:=((gi at_ (((gi l a.toNat).Next).get d:Int).toNat).Y)) rfl rfl) (zx (.b (decide ((gi at_ a.toNat).Y = (gi at_ (((gi l a.toNat).Next).get d:Int).toNat).Y))) rfl ?_)))))
      obtain ⟨t,hv'1,hp⟩:=Zv hp
      refine ZaD 12 (fun fr' k'=>(k'8.bump 58) = k'∧fr' 58 = .b t∧fr' 0 = v_at_∧fr' 1 = v_l∧fr' 10 = .n d∧fr' 12 = .p r'1 0∧fr' 13 = .p r'2 0∧fr' 2 = .n i∧fr' 3 = .n w∧fr' 9 = .n a) ?_ ?_
      ·clear hp; rcases Zy hv'1 with ⟨b'4,hp⟩ | ⟨b'4,hp⟩
       ·skip
        refine Z3 rfl b'4 (zx v_at_ q'4_0 (Z3 rfl b'4 (zx (.n i) q'4_2 (Z3 rfl b'4 ?_))))
        obtain ⟨c'6,hp⟩:=Zp hp
        refine ZJ rfl (zn (E:=Zg) (z:=i) (hO'9.rd0 s_at_.rd) rfl rfl c'6) (Z3 rfl b'4 (ZJ rfl (Zar (off':=0) (off2:=0) (hO'9.rd0 s_at_.rd) (Zr c'6) rfl rfl) (Z3 rfl b'4 (ZJ rfl (zI (w:=.n ((gi at_ i.toNat).X)) (hO'9.rd0 s_at_.rd) rfl (Zr c'6) rfl) (Z3 rfl b'4 (zx v_at_ q'4_0 (Z3 rfl b'4 ?_)))))))
        refine zx (.n w) q'4_3 (Z3 rfl b'4 ?_)
        obtain ⟨c'7,hp⟩:=Zp hp
        refine ZJ rfl (zn (E:=Zg) (z:=w) (hO'9.rd0 s_at_.rd) rfl rfl c'7) (Z3 rfl b'4 (ZJ rfl (Zar (off':=0) (off2:=0) (hO'9.rd0 s_at_.rd) (Zr c'7) rfl rfl) (Z3 rfl b'4 (ZJ rfl (zI (w:=.n ((gi at_ w.toNat).X)) (hO'9.rd0 s_at_.rd) rfl (Zr c'7) rfl) (Z3 rfl b'4 (ZJ rfl (Za7 (a:=((gi at_ i.toNat).X)) (b:=((gi at_ w.toNat).X)) rfl rfl) (ZJ rfl (ZV (t:=(decide ((gi at_ a.toNat).Y = (gi at_ (((gi l a.toNat).Next).get d:Int).toNat).Y))) (v:=.b t) rfl b'4 (Eq.trans (b:=V.b (decide ((gi at_ i.toNat).X = (gi at_ w.toNat).X))) rfl (congrArg V.b (Option.some.inj hp)))) ?_)))))))
        refine zr ?_
        exact ⟨rfl,rfl,q'4_0,q'4_1,q'4_10,rfl,rfl,q'4_2,q'4_3,q'4_9⟩
       ·skip
        refine Zt rfl b'4 (Zt rfl b'4 (Zt rfl b'4 (Zt rfl b'4 (Zt rfl b'4 (Zt rfl b'4 (Zt rfl b'4 (Zt rfl b'4 ?_)))))))
        refine Zt rfl b'4 (Zt rfl b'4 (Zt rfl b'4 (ZJ rfl (ZT (t:=(decide ((gi at_ a.toNat).Y = (gi at_ (((gi l a.toNat).Next).get d:Int).toNat).Y))) (v:=.b t) rfl b'4 (Eq.trans (b:=V.b false) rfl (congrArg V.b (Option.some.inj hp)))) (zr ?_))))
        exact ⟨rfl,rfl,q'4_0,q'4_1,q'4_10,rfl,rfl,q'4_2,q'4_3,q'4_9⟩
      rintro frg'1 _ ⟨rfl,g'1_58,g'1_0,g'1_1,g'1_10,g'1_12,g'1_13,g'1_2,g'1_3,g'1_9⟩
      refine zx (.b t) g'1_58 ?_
      obtain ⟨t1,hv'2,hp⟩:=Zv hp
      refine ZaD 9 (fun fr' k'=>(k'8.bump 58) = k'∧fr' 68 = .b t1∧fr' 0 = v_at_∧fr' 1 = v_l∧fr' 10 = .n d∧fr' 12 = .p r'1 0∧fr' 13 = .p r'2 0∧fr' 2 = .n i∧fr' 3 = .n w∧fr' 9 = .n a) ?_ ?_
      ·clear hp; rcases Zy hv'2 with ⟨b'5,hp⟩ | ⟨b'5,hp⟩
       ·skip
        refine Z3 rfl b'5 (ZJ rfl (Zbb (r:=r'1) (o:=0) (o':=0) g'1_12 rfl) (Z3 rfl b'5 (ZJ rfl (Za9 (cs:=(Zg.c (gi at_ a.toNat))) (v:=.n ((gi at_ a.toNat).X)) (hO'9.box 0 rfl) rfl rfl) (Z3 rfl b'5 (zx v_at_ g'1_0 (Z3 rfl b'5 (zx (.n i) g'1_2 ?_)))))))
        refine Z3 rfl b'5 ?_
        obtain ⟨c'8,hp⟩:=Zp hp
        refine ZJ rfl (zn (E:=Zg) (z:=i) (hO'9.rd0 s_at_.rd) rfl rfl c'8) (Z3 rfl b'5 (ZJ rfl (Zar (off':=0) (off2:=0) (hO'9.rd0 s_at_.rd) (Zr c'8) rfl rfl) (Z3 rfl b'5 (ZJ rfl (zI (w:=.n ((gi at_ i.toNat).X)) (hO'9.rd0 s_at_.rd) rfl (Zr c'8) rfl) (Z3 rfl b'5 (ZJ rfl (z4 (a:=((gi at_ a.toNat).X)) (b:=((gi at_ i.toNat).X)) rfl rfl) (ZJ rfl (ZV (t:=t) (v:=.b t1) rfl b'5 (Eq.trans (b:=V.b (decide (((gi at_ a.toNat).X) < ((gi at_ i.toNat).X)))) rfl (congrArg V.b (Option.some.inj hp)))) ?_)))))))
        refine zr ?_
        exact ⟨rfl,rfl,g'1_0,g'1_1,g'1_10,g'1_12,g'1_13,g'1_2,g'1_3,g'1_9⟩
       ·skip
        refine Zt rfl b'5 (Zt rfl b'5 (Zt rfl b'5 (Zt rfl b'5 (Zt rfl b'5 (Zt rfl b'5 (Zt rfl b'5 (Zt rfl b'5 ?_)))))))
        refine ZJ rfl (ZT (t:=t) (v:=.b t1) rfl b'5 (Eq.trans (b:=V.b false) rfl (congrArg V.b (Option.some.inj hp)))) (zr ?_)
        exact ⟨rfl,rfl,g'1_0,g'1_1,g'1_10,g'1_12,g'1_13,g'1_2,g'1_3,g'1_9⟩
      rintro frg'2 _ ⟨rfl,g'2_68,g'2_0,g'2_1,g'2_10,g'2_12,g'2_13,g'2_2,g'2_3,g'2_9⟩
      refine zx (.b t1) g'2_68 ?_
      obtain ⟨t2,hv'3,hp⟩:=Zv hp
      refine ZaD 9 (fun fr' k'=>(k'8.bump 58) = k'∧fr' 78 = .b t2∧fr' 0 = v_at_∧fr' 1 = v_l∧fr' 10 = .n d∧fr' 12 = .p r'1 0∧fr' 13 = .p r'2 0∧fr' 2 = .n i∧fr' 3 = .n w∧fr' 9 = .n a) ?_ ?_
      ·clear hp; rcases Zy hv'3 with ⟨b'6,hp⟩ | ⟨b'6,hp⟩
       ·skip
        refine Z3 rfl b'6 (zx v_at_ g'2_0 (Z3 rfl b'6 (zx (.n i) g'2_2 (Z3 rfl b'6 ?_))))
        obtain ⟨c'9,hp⟩:=Zp hp
        refine ZJ rfl (zn (E:=Zg) (z:=i) (hO'9.rd0 s_at_.rd) rfl rfl c'9) (Z3 rfl b'6 (ZJ rfl (Zar (off':=0) (off2:=0) (hO'9.rd0 s_at_.rd) (Zr c'9) rfl rfl) (Z3 rfl b'6 (ZJ rfl (zI (w:=.n ((gi at_ i.toNat).X)) (hO'9.rd0 s_at_.rd) rfl (Zr c'9) rfl) (Z3 rfl b'6 (ZJ rfl (Zbb (r:=r'2) (o:=0) (o':=0) g'2_13 rfl) (Z3 rfl b'6 ?_)))))))
        refine ZJ rfl (Za9 (cs:=(Zg.c (gi at_ (((gi l a.toNat).Next).get d:Int).toNat))) (v:=.n ((gi at_ (((gi l a.toNat).Next).get d:Int).toNat).X)) (hO'9.box 1 rfl) rfl rfl) (Z3 rfl b'6 (ZJ rfl (z4 (a:=((gi at_ i.toNat).X)) (b:=((gi at_ (((gi l a.toNat).Next).get d:Int).toNat).X)) rfl rfl) (ZJ rfl (ZV (t:=t1) (v:=.b t2) rfl b'6 (Eq.trans (b:=V.b (decide (((gi at_ i.toNat).X) < ((gi at_ (((gi l a.toNat).Next).get d:Int).toNat).X)))) rfl (congrArg V.b (Option.some.inj hp)))) (zr ?_))))
        exact ⟨rfl,rfl,g'2_0,g'2_1,g'2_10,g'2_12,g'2_13,g'2_2,g'2_3,g'2_9⟩
       ·skip
        refine Zt rfl b'6 (Zt rfl b'6 (Zt rfl b'6 (Zt rfl b'6 (Zt rfl b'6 (Zt rfl b'6 (Zt rfl b'6 (Zt rfl b'6 ?_)))))))
        refine ZJ rfl (ZT (t:=t1) (v:=.b t2) rfl b'6 (Eq.trans (b:=V.b false) rfl (congrArg V.b (Option.some.inj hp)))) (zr ?_)
        exact ⟨rfl,rfl,g'2_0,g'2_1,g'2_10,g'2_12,g'2_13,g'2_2,g'2_3,g'2_9⟩
      rintro frg'3 _ ⟨rfl,g'3_78,g'3_0,g'3_1,g'3_10,g'3_12,g'3_13,g'3_2,g'3_3,g'3_9⟩
      refine zx (.b t2) g'3_78 ?_
      obtain ⟨t3,hv'4,hp⟩:=Zv hp
      refine ZaD 9 (fun fr' k'=>(k'8.bump 58) = k'∧fr' 88 = .b t3∧fr' 0 = v_at_∧fr' 1 = v_l∧fr' 10 = .n d∧fr' 12 = .p r'1 0∧fr' 13 = .p r'2 0∧fr' 2 = .n i∧fr' 3 = .n w∧fr' 9 = .n a) ?_ ?_
      ·clear hp; rcases Zy hv'4 with ⟨b'7,hp⟩ | ⟨b'7,hp⟩
       ·skip
        refine Z3 rfl b'7 (zx v_at_ g'3_0 (Z3 rfl b'7 (zx (.n i) g'3_2 (Z3 rfl b'7 ?_))))
        obtain ⟨c'10,hp⟩:=Zp hp
        refine ZJ rfl (zn (E:=Zg) (z:=i) (hO'9.rd0 s_at_.rd) rfl rfl c'10) (Z3 rfl b'7 (ZJ rfl (Zar (off':=0) (off2:=1) (hO'9.rd0 s_at_.rd) (Zr c'10) rfl rfl) (Z3 rfl b'7 (ZJ rfl (zI (w:=.n ((gi at_ i.toNat).Y)) (hO'9.rd0 s_at_.rd) rfl (Zr c'10) rfl) (Z3 rfl b'7 (ZJ rfl (Zbb (r:=r'1) (o:=0) (o':=1) g'3_12 rfl) (Z3 rfl b'7 ?_)))))))
        refine ZJ rfl (Za9 (cs:=(Zg.c (gi at_ a.toNat))) (v:=.n ((gi at_ a.toNat).Y)) (hO'9.box 0 rfl) rfl rfl) (Z3 rfl b'7 (ZJ rfl (z4 (a:=((gi at_ i.toNat).Y)) (b:=((gi at_ a.toNat).Y)) rfl rfl) (ZJ rfl (ZV (t:=t2) (v:=.b t3) rfl b'7 (Eq.trans (b:=V.b (decide (((gi at_ i.toNat).Y) < ((gi at_ a.toNat).Y)))) rfl (congrArg V.b (Option.some.inj hp)))) (zr ?_))))
        exact ⟨rfl,rfl,g'3_0,g'3_1,g'3_10,g'3_12,g'3_13,g'3_2,g'3_3,g'3_9⟩
       ·skip
        refine Zt rfl b'7 (Zt rfl b'7 (Zt rfl b'7 (Zt rfl b'7 (Zt rfl b'7 (Zt rfl b'7 (Zt rfl b'7 (Zt rfl b'7 ?_)))))))
        refine ZJ rfl (ZT (t:=t2) (v:=.b t3) rfl b'7 (Eq.trans (b:=V.b false) rfl (congrArg V.b (Option.some.inj hp)))) (zr ?_)
        exact ⟨rfl,rfl,g'3_0,g'3_1,g'3_10,g'3_12,g'3_13,g'3_2,g'3_3,g'3_9⟩
      rintro frg'4 _ ⟨rfl,g'4_88,g'4_0,g'4_1,g'4_10,g'4_12,g'4_13,g'4_2,g'4_3,g'4_9⟩
      refine zx (.b t3) g'4_88 ?_
      obtain ⟨t4,hv'5,hp⟩:=Zv hp
      refine ZaD 9 (fun fr' k'=>(k'8.bump 58) = k'∧fr' 98 = .b t4∧fr' 0 = v_at_∧fr' 1 = v_l∧fr' 10 = .n d∧fr' 12 = .p r'1 0∧fr' 13 = .p r'2 0∧fr' 2 = .n i∧fr' 3 = .n w∧fr' 9 = .n a) ?_ ?_
      ·clear hp; rcases Zy hv'5 with ⟨b'8,hp⟩ | ⟨b'8,hp⟩
       ·skip
        refine Z3 rfl b'8 (ZJ rfl (Zbb (r:=r'1) (o:=0) (o':=1) g'4_12 rfl) (Z3 rfl b'8 (ZJ rfl (Za9 (cs:=(Zg.c (gi at_ a.toNat))) (v:=.n ((gi at_ a.toNat).Y)) (hO'9.box 0 rfl) rfl rfl) (Z3 rfl b'8 (zx v_at_ g'4_0 (Z3 rfl b'8 (zx (.n w) g'4_3 ?_)))))))
        refine Z3 rfl b'8 ?_
        obtain ⟨c'11,hp⟩:=Zp hp
        refine ZJ rfl (zn (E:=Zg) (z:=w) (hO'9.rd0 s_at_.rd) rfl rfl c'11) (Z3 rfl b'8 (ZJ rfl (Zar (off':=0) (off2:=1) (hO'9.rd0 s_at_.rd) (Zr c'11) rfl rfl) (Z3 rfl b'8 (ZJ rfl (zI (w:=.n ((gi at_ w.toNat).Y)) (hO'9.rd0 s_at_.rd) rfl (Zr c'11) rfl) (Z3 rfl b'8 (ZJ rfl (z4 (a:=((gi at_ a.toNat).Y)) (b:=((gi at_ w.toNat).Y)) rfl rfl) (ZJ rfl (ZV (t:=t3) (v:=.b t4) rfl b'8 (Eq.trans (b:=V.b (decide (((gi at_ a.toNat).Y) < ((gi at_ w.toNat).Y)))) rfl (congrArg V.b (Option.some.inj hp)))) ?_)))))))
        refine zr ?_
        exact ⟨rfl,rfl,g'4_0,g'4_1,g'4_10,g'4_12,g'4_13,g'4_2,g'4_3,g'4_9⟩
       ·skip
        refine Zt rfl b'8 (Zt rfl b'8 (Zt rfl b'8 (Zt rfl b'8 (Zt rfl b'8 (Zt rfl b'8 (Zt rfl b'8 (Zt rfl b'8 ?_)))))))
        refine ZJ rfl (ZT (t:=t3) (v:=.b t4) rfl b'8 (Eq.trans (b:=V.b false) rfl (congrArg V.b (Option.some.inj hp)))) (zr ?_)
        exact ⟨rfl,rfl,g'4_0,g'4_1,g'4_10,g'4_12,g'4_13,g'4_2,g'4_3,g'4_9⟩
      rintro frg'5 _ ⟨rfl,g'5_98,g'5_0,g'5_1,g'5_10,g'5_12,g'5_13,g'5_2,g'5_3,g'5_9⟩
      refine zr (Zb ?_)
      rcases Zy hp with ⟨b'9,hp⟩ | ⟨b'9,hp⟩
      ·refine zA (t:=t4) g'5_98 b'9 ?_
       refine Zm (Zs (Zd (.b true) rfl (Zc (Zb (Zao (zX (ZbQ ?_)))))))
       refine zX ?_
       cases hp
       refine (Or.inr ⟨.inr (),rfl,(fun h=>nomatch h),(fun he=>?_)⟩)
       subst he; exact ⟨rfl,rfl,(hO'9.pick [] rfl (by decide))⟩
      ·refine z9 (t:=t4) g'5_98 b'9 ?_
       refine zB (Zb (Zm (Zg0 ?_)))
       have hW:=hO'9.bump 58
       have hO'10:=hW
       refine ZJ rfl (Zbb (r:=r'1) (o:=0) (o':=0) g'5_12 rfl) (ZJ rfl (Za9 (cs:=(Zg.c (gi at_ a.toNat))) (v:=.n ((gi at_ a.toNat).X)) (hO'10.box 0 rfl) rfl rfl) (ZJ rfl (Zbb (r:=r'2) (o:=0) (o':=0) g'5_13 rfl) (ZJ rfl (Za9 (cs:=(Zg.c (gi at_ (((gi l a.toNat).Next).get d:Int).toNat))) (v:=.n ((gi at_ (((gi l a.toNat).Next).get d:Int).toNat).X)) (hO'10.box 1 rfl) rfl rfl) (ZJ rfl (Za7 (a:=((gi at_ a.toNat).X)) (b:=((gi at_ (((gi l a.toNat).Next).get d:Int).toNat).X)) rfl rfl) (zx (.b (decide ((gi at_ a.toNat).X = (gi at_ (((gi l a.toNat).Next).get d:Int).toNat).X))) rfl ?_)))))
       obtain ⟨t5,hv'6,hp⟩:=Zv hp
       refine ZaD 12 (fun fr' k'=>((k'8.bump 58).bump 58) = k'∧fr' 116 = .b t5∧fr' 0 = v_at_∧fr' 1 = v_l∧fr' 10 = .n d∧fr' 12 = .p r'1 0∧fr' 13 = .p r'2 0∧fr' 2 = .n i∧fr' 3 = .n w∧fr' 9 = .n a) ?_ ?_
       ·clear hp; rcases Zy hv'6 with ⟨b'10,hp⟩ | ⟨b'10,hp⟩
        ·skip
         refine Z3 rfl b'10 (zx v_at_ g'5_0 (Z3 rfl b'10 (zx (.n i) g'5_2 (Z3 rfl b'10 ?_))))
         obtain ⟨c'12,hp⟩:=Zp hp
         refine ZJ rfl (zn (E:=Zg) (z:=i) (hO'10.rd0 s_at_.rd:Sl Zg ((k'8.bump 58).bump 58) v_at_ at_) rfl rfl c'12) (Z3 rfl b'10 (ZJ rfl (Zar (off':=0) (off2:=1) (hO'10.rd0 s_at_.rd:Sl Zg ((k'8.bump 58).bump 58) v_at_ at_) (Zr c'12) rfl rfl) (Z3 rfl b'10 (ZJ rfl (zI (w:=.n ((gi at_ i.toNat).Y)) (hO'10.rd0 s_at_.rd:Sl Zg ((k'8.bump 58).bump 58) v_at_ at_) rfl (Zr c'12) rfl) (Z3 rfl b'10 (zx v_at_ g'5_0 (Z3 rfl b'10 ?_)))))))
         refine zx (.n w) g'5_3 (Z3 rfl b'10 ?_)
         obtain ⟨c'13,hp⟩:=Zp hp
         refine ZJ rfl (zn (E:=Zg) (z:=w) (hO'10.rd0 s_at_.rd:Sl Zg ((k'8.bump 58).bump 58) v_at_ at_) rfl rfl c'13) (Z3 rfl b'10 (ZJ rfl (Zar (off':=0) (off2:=1) (hO'10.rd0 s_at_.rd:Sl Zg ((k'8.bump 58).bump 58) v_at_ at_) (Zr c'13) rfl rfl) (Z3 rfl b'10 (ZJ rfl (zI (w:=.n ((gi at_ w.toNat).Y)) (hO'10.rd0 s_at_.rd:Sl Zg ((k'8.bump 58).bump 58) v_at_ at_) rfl (Zr c'13) rfl) (Z3 rfl b'10 (ZJ rfl (Za7 (a:=((gi at_ i.toNat).Y)) (b:=((gi at_ w.toNat).Y)) rfl rfl) (ZJ rfl (ZV (t:=(decide ((gi at_ a.toNat).X = (gi at_ (((gi l a.toNat).Next).get d:Int).toNat).X))) (v:=.b t5) rfl b'10 (Eq.trans (b:=V.b (decide ((gi at_ i.toNat).Y = (gi at_ w.toNat).Y))) rfl (congrArg V.b (Option.some.inj hp)))) ?_)))))))
         refine zr ?_
         exact ⟨rfl,rfl,g'5_0,g'5_1,g'5_10,g'5_12,g'5_13,g'5_2,g'5_3,g'5_9⟩
        ·skip
         refine Zt rfl b'10 (Zt rfl b'10 (Zt rfl b'10 (Zt rfl b'10 (Zt rfl b'10 (Zt rfl b'10 (Zt rfl b'10 (Zt rfl b'10 ?_)))))))
         refine Zt rfl b'10 (Zt rfl b'10 (Zt rfl b'10 (ZJ rfl (ZT (t:=(decide ((gi at_ a.toNat).X = (gi at_ (((gi l a.toNat).Next).get d:Int).toNat).X))) (v:=.b t5) rfl b'10 (Eq.trans (b:=V.b false) rfl (congrArg V.b (Option.some.inj hp)))) (zr ?_))))
         exact ⟨rfl,rfl,g'5_0,g'5_1,g'5_10,g'5_12,g'5_13,g'5_2,g'5_3,g'5_9⟩
       rintro frg'6 _ ⟨rfl,g'6_116,g'6_0,g'6_1,g'6_10,g'6_12,g'6_13,g'6_2,g'6_3,g'6_9⟩
       refine zx (.b t5) g'6_116 ?_
       obtain ⟨t6,hv'7,hp⟩:=Zv hp
       refine ZaD 9 (fun fr' k'=>((k'8.bump 58).bump 58) = k'∧fr' 126 = .b t6∧fr' 0 = v_at_∧fr' 1 = v_l∧fr' 10 = .n d∧fr' 12 = .p r'1 0∧fr' 13 = .p r'2 0∧fr' 2 = .n i∧fr' 3 = .n w∧fr' 9 = .n a) ?_ ?_
       ·clear hp; rcases Zy hv'7 with ⟨b'11,hp⟩ | ⟨b'11,hp⟩
        ·skip
         refine Z3 rfl b'11 (zx v_at_ g'6_0 (Z3 rfl b'11 (zx (.n i) g'6_2 (Z3 rfl b'11 ?_))))
         obtain ⟨c'14,hp⟩:=Zp hp
         refine ZJ rfl (zn (E:=Zg) (z:=i) (hO'10.rd0 s_at_.rd:Sl Zg ((k'8.bump 58).bump 58) v_at_ at_) rfl rfl c'14) (Z3 rfl b'11 (ZJ rfl (Zar (off':=0) (off2:=0) (hO'10.rd0 s_at_.rd:Sl Zg ((k'8.bump 58).bump 58) v_at_ at_) (Zr c'14) rfl rfl) (Z3 rfl b'11 (ZJ rfl (zI (w:=.n ((gi at_ i.toNat).X)) (hO'10.rd0 s_at_.rd:Sl Zg ((k'8.bump 58).bump 58) v_at_ at_) rfl (Zr c'14) rfl) (Z3 rfl b'11 (ZJ rfl (Zbb (r:=r'1) (o:=0) (o':=0) g'6_12 rfl) (Z3 rfl b'11 ?_)))))))
         refine ZJ rfl (Za9 (cs:=(Zg.c (gi at_ a.toNat))) (v:=.n ((gi at_ a.toNat).X)) (hO'10.box 0 rfl) rfl rfl) (Z3 rfl b'11 (ZJ rfl (z4 (a:=((gi at_ i.toNat).X)) (b:=((gi at_ a.toNat).X)) rfl rfl) (ZJ rfl (ZV (t:=t5) (v:=.b t6) rfl b'11 (Eq.trans (b:=V.b (decide (((gi at_ i.toNat).X) < ((gi at_ a.toNat).X)))) rfl (congrArg V.b (Option.some.inj hp)))) (zr ?_))))
         exact ⟨rfl,rfl,g'6_0,g'6_1,g'6_10,g'6_12,g'6_13,g'6_2,g'6_3,g'6_9⟩
        ·skip
         refine Zt rfl b'11 (Zt rfl b'11 (Zt rfl b'11 (Zt rfl b'11 (Zt rfl b'11 (Zt rfl b'11 (Zt rfl b'11 (Zt rfl b'11 ?_)))))))
         refine ZJ rfl (ZT (t:=t5) (v:=.b t6) rfl b'11 (Eq.trans (b:=V.b false) rfl (congrArg V.b (Option.some.inj hp)))) (zr ?_)
         exact ⟨rfl,rfl,g'6_0,g'6_1,g'6_10,g'6_12,g'6_13,g'6_2,g'6_3,g'6_9⟩
       rintro frg'7 _ ⟨rfl,g'7_126,g'7_0,g'7_1,g'7_10,g'7_12,g'7_13,g'7_2,g'7_3,g'7_9⟩
       refine zx (.b t6) g'7_126 ?_
       obtain ⟨t7,hv'8,hp⟩:=Zv hp
       refine ZaD 9 (fun fr' k'=>((k'8.bump 58).bump 58) = k'∧fr' 136 = .b t7∧fr' 0 = v_at_∧fr' 1 = v_l∧fr' 10 = .n d∧fr' 12 = .p r'1 0∧fr' 13 = .p r'2 0∧fr' 2 = .n i∧fr' 3 = .n w∧fr' 9 = .n a) ?_ ?_
       ·clear hp; rcases Zy hv'8 with ⟨b'12,hp⟩ | ⟨b'12,hp⟩
        ·skip
         refine Z3 rfl b'12 (ZJ rfl (Zbb (r:=r'1) (o:=0) (o':=0) g'7_12 rfl) (Z3 rfl b'12 (ZJ rfl (Za9 (cs:=(Zg.c (gi at_ a.toNat))) (v:=.n ((gi at_ a.toNat).X)) (hO'10.box 0 rfl) rfl rfl) (Z3 rfl b'12 (zx v_at_ g'7_0 (Z3 rfl b'12 (zx (.n w) g'7_3 ?_)))))))
         refine Z3 rfl b'12 ?_
         obtain ⟨c'15,hp⟩:=Zp hp
         refine ZJ rfl (zn (E:=Zg) (z:=w) (hO'10.rd0 s_at_.rd:Sl Zg ((k'8.bump 58).bump 58) v_at_ at_) rfl rfl c'15) (Z3 rfl b'12 (ZJ rfl (Zar (off':=0) (off2:=0) (hO'10.rd0 s_at_.rd:Sl Zg ((k'8.bump 58).bump 58) v_at_ at_) (Zr c'15) rfl rfl) (Z3 rfl b'12 (ZJ rfl (zI (w:=.n ((gi at_ w.toNat).X)) (hO'10.rd0 s_at_.rd:Sl Zg ((k'8.bump 58).bump 58) v_at_ at_) rfl (Zr c'15) rfl) (Z3 rfl b'12 (ZJ rfl (z4 (a:=((gi at_ a.toNat).X)) (b:=((gi at_ w.toNat).X)) rfl rfl) (ZJ rfl (ZV (t:=t6) (v:=.b t7) rfl b'12 (Eq.trans (b:=V.b (decide (((gi at_ a.toNat).X) < ((gi at_ w.toNat).X)))) rfl (congrArg V.b (Option.some.inj hp)))) ?_)))))))
         refine zr ?_
         exact ⟨rfl,rfl,g'7_0,g'7_1,g'7_10,g'7_12,g'7_13,g'7_2,g'7_3,g'7_9⟩
        ·skip
         refine Zt rfl b'12 (Zt rfl b'12 (Zt rfl b'12 (Zt rfl b'12 (Zt rfl b'12 (Zt rfl b'12 (Zt rfl b'12 (Zt rfl b'12 ?_)))))))
         refine ZJ rfl (ZT (t:=t6) (v:=.b t7) rfl b'12 (Eq.trans (b:=V.b false) rfl (congrArg V.b (Option.some.inj hp)))) (zr ?_)
         exact ⟨rfl,rfl,g'7_0,g'7_1,g'7_10,g'7_12,g'7_13,g'7_2,g'7_3,g'7_9⟩
       rintro frg'8 _ ⟨rfl,g'8_136,g'8_0,g'8_1,g'8_10,g'8_12,g'8_13,g'8_2,g'8_3,g'8_9⟩
       refine zx (.b t7) g'8_136 ?_
       obtain ⟨t8,hv'9,hp⟩:=Zv hp
       refine ZaD 9 (fun fr' k'=>((k'8.bump 58).bump 58) = k'∧fr' 146 = .b t8∧fr' 0 = v_at_∧fr' 1 = v_l∧fr' 10 = .n d∧fr' 13 = .p r'2 0∧fr' 2 = .n i∧fr' 3 = .n w∧fr' 9 = .n a) ?_ ?_
       ·clear hp; rcases Zy hv'9 with ⟨b'13,hp⟩ | ⟨b'13,hp⟩
        ·skip
         refine Z3 rfl b'13 (ZJ rfl (Zbb (r:=r'1) (o:=0) (o':=1) g'8_12 rfl) (Z3 rfl b'13 (ZJ rfl (Za9 (cs:=(Zg.c (gi at_ a.toNat))) (v:=.n ((gi at_ a.toNat).Y)) (hO'10.box 0 rfl) rfl rfl) (Z3 rfl b'13 (zx v_at_ g'8_0 (Z3 rfl b'13 (zx (.n i) g'8_2 ?_)))))))
         refine Z3 rfl b'13 ?_
         obtain ⟨c'16,hp⟩:=Zp hp
         refine ZJ rfl (zn (E:=Zg) (z:=i) (hO'10.rd0 s_at_.rd:Sl Zg ((k'8.bump 58).bump 58) v_at_ at_) rfl rfl c'16) (Z3 rfl b'13 (ZJ rfl (Zar (off':=0) (off2:=1) (hO'10.rd0 s_at_.rd:Sl Zg ((k'8.bump 58).bump 58) v_at_ at_) (Zr c'16) rfl rfl) (Z3 rfl b'13 (ZJ rfl (zI (w:=.n ((gi at_ i.toNat).Y)) (hO'10.rd0 s_at_.rd:Sl Zg ((k'8.bump 58).bump 58) v_at_ at_) rfl (Zr c'16) rfl) (Z3 rfl b'13 (ZJ rfl (z4 (a:=((gi at_ a.toNat).Y)) (b:=((gi at_ i.toNat).Y)) rfl rfl) (ZJ rfl (ZV (t:=t7) (v:=.b t8) rfl b'13 (Eq.trans (b:=V.b (decide (((gi at_ a.toNat).Y) < ((gi at_ i.toNat).Y)))) rfl (congrArg V.b (Option.some.inj hp)))) ?_)))))))
         refine zr ?_
         exact ⟨rfl,rfl,g'8_0,g'8_1,g'8_10,g'8_13,g'8_2,g'8_3,g'8_9⟩
        ·skip
         refine Zt rfl b'13 (Zt rfl b'13 (Zt rfl b'13 (Zt rfl b'13 (Zt rfl b'13 (Zt rfl b'13 (Zt rfl b'13 (Zt rfl b'13 ?_)))))))
         refine ZJ rfl (ZT (t:=t7) (v:=.b t8) rfl b'13 (Eq.trans (b:=V.b false) rfl (congrArg V.b (Option.some.inj hp)))) (zr ?_)
         exact ⟨rfl,rfl,g'8_0,g'8_1,g'8_10,g'8_13,g'8_2,g'8_3,g'8_9⟩
       rintro frg'9 _ ⟨rfl,g'9_146,g'9_0,g'9_1,g'9_10,g'9_13,g'9_2,g'9_3,g'9_9⟩
       refine zx (.b t8) g'9_146 ?_
       obtain ⟨t9,hv'10,hp⟩:=Zv hp
       refine ZaD 9 (fun fr' k'=>((k'8.bump 58).bump 58) = k'∧fr' 156 = .b t9∧fr' 0 = v_at_∧fr' 1 = v_l∧fr' 10 = .n d∧fr' 2 = .n i∧fr' 3 = .n w∧fr' 9 = .n a) ?_ ?_
       ·clear hp; rcases Zy hv'10 with ⟨b'14,hp⟩ | ⟨b'14,hp⟩
        ·skip
         refine Z3 rfl b'14 (zx v_at_ g'9_0 (Z3 rfl b'14 (zx (.n i) g'9_2 (Z3 rfl b'14 ?_))))
         obtain ⟨c'17,hp⟩:=Zp hp
         refine ZJ rfl (zn (E:=Zg) (z:=i) (hO'10.rd0 s_at_.rd:Sl Zg ((k'8.bump 58).bump 58) v_at_ at_) rfl rfl c'17) (Z3 rfl b'14 (ZJ rfl (Zar (off':=0) (off2:=1) (hO'10.rd0 s_at_.rd:Sl Zg ((k'8.bump 58).bump 58) v_at_ at_) (Zr c'17) rfl rfl) (Z3 rfl b'14 (ZJ rfl (zI (w:=.n ((gi at_ i.toNat).Y)) (hO'10.rd0 s_at_.rd:Sl Zg ((k'8.bump 58).bump 58) v_at_ at_) rfl (Zr c'17) rfl) (Z3 rfl b'14 (ZJ rfl (Zbb (r:=r'2) (o:=0) (o':=1) g'9_13 rfl) (Z3 rfl b'14 ?_)))))))
         refine ZJ rfl (Za9 (cs:=(Zg.c (gi at_ (((gi l a.toNat).Next).get d:Int).toNat))) (v:=.n ((gi at_ (((gi l a.toNat).Next).get d:Int).toNat).Y)) (hO'10.box 1 rfl) rfl rfl) (Z3 rfl b'14 (ZJ rfl (z4 (a:=((gi at_ i.toNat).Y)) (b:=((gi at_ (((gi l a.toNat).Next).get d:Int).toNat).Y)) rfl rfl) (ZJ rfl (ZV (t:=t8) (v:=.b t9) rfl b'14 (Eq.trans (b:=V.b (decide (((gi at_ i.toNat).Y) < ((gi at_ (((gi l a.toNat).Next).get d:Int).toNat).Y)))) rfl (congrArg V.b (Option.some.inj hp)))) (zr ?_))))
         exact ⟨rfl,rfl,g'9_0,g'9_1,g'9_10,g'9_2,g'9_3,g'9_9⟩
        ·skip
         refine Zt rfl b'14 (Zt rfl b'14 (Zt rfl b'14 (Zt rfl b'14 (Zt rfl b'14 (Zt rfl b'14 (Zt rfl b'14 (Zt rfl b'14 ?_)))))))
         refine ZJ rfl (ZT (t:=t8) (v:=.b t9) rfl b'14 (Eq.trans (b:=V.b false) rfl (congrArg V.b (Option.some.inj hp)))) (zr ?_)
         exact ⟨rfl,rfl,g'9_0,g'9_1,g'9_10,g'9_2,g'9_3,g'9_9⟩
       rintro frg'10 _ ⟨rfl,g'10_156,g'10_0,g'10_1,g'10_10,g'10_2,g'10_3,g'10_9⟩
       refine zr (Zb ?_)
       rcases Zy hp with ⟨b'15,hp⟩ | ⟨b'15,hp⟩
       ·refine zA (t:=t9) g'10_156 b'15 ?_
        refine Zm (Zs (Zd (.b true) rfl (Zc (Zb (Zao (ZbQ (zX ?_)))))))
        cases hp
        refine (Or.inr ⟨.inr (),rfl,(fun h=>nomatch h),(fun he=>?_)⟩)
        subst he; exact ⟨rfl,rfl,(hO'10.pick [] rfl (by decide))⟩
       ·refine z9 (t:=t9) g'10_156 b'15 ?_
        refine zB (zV (Zb (Zs (Zd (.n d) g'10_10 ?_))))
        obtain ⟨c'18,hp⟩:=Zp hp
        refine Zi (z8 (a:=d) (b:=1) rfl rfl c'18) (Zd (.n (d + 1)) rfl (Zc ?_))
        cases hp
        exact (Or.inl ⟨d + 1,rfl,rfl,g'10_0,g'10_1,g'10_2,g'10_3,g'10_9,rfl,(hO'10.pick [] rfl (by decide))⟩)
    ·refine z9 (t:=(decide (d < 2))) rfl b'2 ?_
     refine ZaL (zO ?_)
     cases hp
     refine (Or.inr ⟨.inl (),rfl,(fun h=>nomatch h),(fun he=>?_)⟩)
     subst he; exact ⟨rfl,q'4_0,q'4_1,q'4_2,q'4_3,q'4_9,(hO'4.pick [] rfl (by decide))⟩
   intro e'2 q'3 k'3 hJ'2
   rcases o'3 with _ | _
   ·obtain ⟨rfl,q'3_0,q'3_1,q'3_2,q'3_3,q'3_9,hO'3⟩:=hJ'2
    refine Zav (zV (Zb (Zs (Zd (.n a) q'3_9 ?_))))
    obtain ⟨c'19,hp⟩:=Zp hp
    refine Zi (z8 (a:=a) (b:=1) rfl rfl c'19) (Zd (.n (a + 1)) rfl (Zc ?_))
    cases hp
    exact (Or.inl ⟨a + 1,rfl,rfl,q'3_0,q'3_1,q'3_2,q'3_3,rfl,(hO'3.pick [] rfl (by decide))⟩)
   ·obtain ⟨rfl,q'3_8,hO'3⟩:=hJ'2
    refine ZbQ (ZbQ (zX ?_))
    cases hp
    refine (Or.inr ⟨.inr (),rfl,(fun h=>nomatch h),(fun he=>?_)⟩)
    subst he; exact ⟨rfl,q'3_8,(hO'3.pick [] rfl (by decide))⟩
  ·refine z9 (t:=(decide (a < (l.length:Int)))) rfl b'1 ?_
   refine ZaL (zO ?_)
   cases hp
   refine (Or.inr ⟨.inl (),rfl,(fun h=>nomatch h),(fun he=>?_)⟩)
   subst he; exact ⟨rfl,(hO'2.pick [] rfl (by decide))⟩
 intro e'1 q'1 k'1 hJ'1
 rcases o'1 with _ | _
 ·obtain ⟨rfl,hO'1⟩:=hJ'1
  refine Zav (Zb (Zm (Zs (Zd (.b false) rfl (Zc (Zb (Zao ?_)))))))
  refine z6 (zR (n:=8) (v:=.b false) rfl zj) ?_
  cases hp
  exact ⟨rfl,(hO'1.pick [] rfl (by decide))⟩
 ·obtain ⟨rfl,q'1_8,hO'1⟩:=hJ'1
  refine ZbQ (zX (z6 (zR (n:=8) (v:=.b true) q'1_8 zj) ?_))
  cases hp
  exact ⟨rfl,(hO'1.pick [] rfl (by decide))⟩

theorem zf.ok {h:Hp} {l:List Za} {v:Int} {d:Int} {w:Int} {o:Int} {v_l:V} (s_l:Sl Zh h v_l l) {r:(List Za)} (hp:zf l v d w o = some r) :
  ∃ u k',Is G 65 [v_l,.n v,.n d,.n w,.n o] h u k'∧∃ (v'1:V),v'1 = u∧Own (fun r=>r < h.n) h k' [eSl Zh v'1 r]:=by
 refine WC.is (Za0 ZbF ?_)
 unfold zf at hp
 let B:Nat→Prop:=(fun r=>r < h.n)
 have hO:Own B h h []:=Own.start0 h
 refine Zm (Zs (Zd (.sn) rfl (Zc (Zb (Zm (Zs (Zd (.sn) rfl ?_)))))))
 refine Zc (Zb (Zm (Zm (Zs (Zd (.n 0) rfl (Zc (Zb ?_)))))))
 refine Zae ?_
 obtain ⟨o'1,ho'1,hp⟩:=Zv hp
 refine W.mono (Q:=fun e fr k=>match (generalizing:=false) o'1 with
   | out1=>e = (.exit 0)∧∃ (v'3:V),fr 11 = v'3∧Own B h k [eSl Zh v'3 out1]) ?_ ?_
 ·clear hp
  have hO'2:=hO.nil Zh
  refine zE (fun st fr k=>match st with | (out,i)=>∃ (v'2:V),fr 0 = v_l∧fr 1 = .n v∧fr 2 = .n d∧fr 3 = .n w∧fr 4 = .n o∧fr 11 = v'2∧fr 12 = .n i∧Own B h k [eSl Zh v'2 out]) ho'1 (s:=(([]:List Za),0)) ⟨V.sn,rfl,rfl,rfl,rfl,rfl,rfl,rfl,(hO'2.pick [0] rfl (by decide))⟩ ?_
  rintro ⟨out,i⟩ q'2 k'2 ⟨v'2,q'2_0,q'2_1,q'2_2,q'2_3,q'2_4,q'2_11,q'2_12,hO'3⟩ o'2 hp
  dsimp only [zf.s0] at hp
  refine Zm (Zm (Zs (Zd (.n i) q'2_12 (Zd v_l q'2_0 (Zi (Zam (hO'3.rd0 s_l.rd) rfl) (Zi (z4 (a:=i) (b:=(l.length:Int)) rfl rfl) (Zc ?_)))))))
  refine Zb ?_
  rcases Zy hp with ⟨b'1,hp⟩ | ⟨b'1,hp⟩
  ·refine zA (t:=(decide (i < (l.length:Int)))) rfl b'1 ?_
   refine zB (Zb (Zm (Zae (Zm (Zs (Zd v_l q'2_0 (Zd (.n i) q'2_12 ?_)))))))
   obtain ⟨c'1,hp⟩:=Zp hp
   refine Zi (zn (E:=Zh) (z:=i) (hO'3.rd0 s_l.rd) rfl rfl c'1) (Zi (ZfY (E:=Zh) (hO'3.rd0 s_l.rd) rfl (Zr c'1)) (zK (hO'3.alloc (cs:=Zh.c (⟨⟨0,0,0,0⟩,⟨0,0,0,0⟩⟩:Za)) hO'3.fr) ?_))
   rintro _ k'3 ⟨r'1,rfl,n'1,f'1,hW⟩
   have hO'4:=hW
   refine zK (hO'4.stb (ws:=Zh.c (gi l i.toNat)) (cs':=Zh.c (gi l i.toNat)) (v:=.ag (Zh.c (gi l i.toNat))) 1 rfl rfl rfl rfl ⟨rfl,Nat.le_of_ble_eq_true rfl,rfl⟩ rfl) ?_
   rintro _ k'4 ⟨rfl,f'2,m'1,hW⟩
   have hO'5:=hW
   refine Zc (Zb (Zm (Zm (Zs (Zd (.n i) q'2_12 (Zd (.n v) q'2_1 (Zi (Za7 (a:=i) (b:=v) rfl rfl) ?_)))))))
   refine Zc (Zb ?_)
   obtain ⟨o'3,ho'2,hp⟩:=Zv hp
   refine W.mono (Q:=fun e fr k=>match (generalizing:=false) o'3 with
     | c=>e = .normal∧fr 0 = v_l∧fr 1 = .n v∧fr 2 = .n d∧fr 3 = .n w∧fr 4 = .n o∧fr 11 = v'2∧fr 12 = .n i∧fr 13 = .p r'1 0∧Own B h k [eSl Zh v'2 out,Zbs r'1 (Zh.c c)]) ?_ ?_
   ·clear hp; have hp:=ho'2; clear ho'2
    rcases Zy hp with ⟨b'2,hp⟩ | ⟨b'2,hp⟩
    ·refine zA (t:=(decide (i = v))) rfl b'2 ?_
     refine Zm (Zs (Zd (.n d) q'2_2 (Zd (.n w) q'2_3 (Zi (Zbb (r:=r'1) (o:=0) (o':=0) rfl rfl) ?_))))
     obtain ⟨c'2,hp⟩:=Zp hp
     refine Zi (Zfx (o:=0) (o':=(0 + d.toNat * 1)) (z:=d) rfl rfl c'2 rfl) (zK (hO'5.stb (ws:=[.n w]) (cs':=Zh.c ({ gi l i.toNat with Next:=((gi l i.toNat).Next).set d w })) (v:=.n w) 1 rfl rfl rfl rfl ⟨rfl,(by have:=c'2; exact (show 0 + d.toNat * 1 + 1≤8 by omega)),rfl⟩ (Zbh c'2)) ?_)
     rintro _ k'6 ⟨rfl,f'3,m'2,hW⟩
     have hO'7:=hW
     refine Zc (Zb (Zs (Zd (.n d) q'2_2 (Zd (.n o) q'2_4 (Zi (Zbb (r:=r'1) (o:=0) (o':=4) rfl rfl) (Zi (Zfx (o:=4) (o':=(4 + d.toNat * 1)) (z:=d) rfl rfl c'2 rfl) (zK (hO'7.stb (ws:=[.n o]) (cs':=Zh.c ({ { gi l i.toNat with Next:=((gi l i.toNat).Next).set d w } with Owner:=(({ gi l i.toNat with Next:=((gi l i.toNat).Next).set d w }).Owner).set d o })) (v:=.n o) 1 rfl rfl rfl rfl ⟨rfl,(by have:=c'2; exact (show 4 + d.toNat * 1 + 1≤8 by omega)),rfl⟩ (ZbT c'2)) ?_)))))))
     rintro _ k'7 ⟨rfl,f'4,m'3,hW⟩
     have hO'8:=hW
     refine Zc ?_
     cases hp
     exact ⟨rfl,q'2_0,q'2_1,q'2_2,q'2_3,q'2_4,q'2_11,q'2_12,rfl,(hO'8.pick [0,1] rfl (by decide))⟩
    ·refine z9 (t:=(decide (i = v))) rfl b'2 ?_
     refine zB ?_
     cases hp
     exact ⟨rfl,q'2_0,q'2_1,q'2_2,q'2_3,q'2_4,q'2_11,q'2_12,rfl,(hO'5.pick [0,1] rfl (by decide))⟩
   intro e'2 q'3 k'5 hJ'2
   obtain ⟨c,rfl⟩:∃ x,x = o'3:=⟨_,rfl⟩
   obtain ⟨rfl,q'3_0,q'3_1,q'3_2,q'3_3,q'3_4,q'3_11,q'3_12,q'3_13,hO'6⟩:=hJ'2
   refine Zb (Zm (Zm (Zs (Zd (.n i) q'3_12 (Zd (.n w) q'3_3 (Zi (Za7 (a:=i) (b:=w) rfl rfl) (Zc ?_)))))))
   refine Zb ?_
   rcases Zy hp with ⟨b'3,hp⟩ | ⟨b'3,hp⟩
   ·refine zA (t:=(decide (i = w))) rfl b'3 ?_
    refine Zm (Zs (Zd (.n d) q'3_2 ?_))
    obtain ⟨c'3,hp⟩:=Zp hp
    refine Zi (z8 (a:=d) (b:=2) rfl rfl c'3) (Zi (Zed (a:=(d + 2)) (b:=4) rfl rfl (by decide)) (Zd (.n v) q'3_1 (Zi (Zbb (r:=r'1) (o:=0) (o':=0) q'3_13 rfl) ?_)))
    obtain ⟨c'4,hp⟩:=Zp hp
    refine Zi (Zfx (o:=0) (o':=(0 + ((d + 2).tmod 4:Int).toNat * 1)) (z:=((d + 2).tmod 4)) rfl rfl c'4 rfl) (zK (hO'6.stb (ws:=[.n v]) (cs':=Zh.c ({ c with Next:=c.Next.set ((d + 2).tmod 4) v })) (v:=.n v) 1 rfl rfl rfl rfl ⟨rfl,(by have:=c'4; exact (show 0 + ((d + 2).tmod 4:Int).toNat * 1 + 1≤8 by omega)),rfl⟩ (Zbh c'4)) ?_)
    rintro _ k'8 ⟨rfl,f'5,m'4,hW⟩
    have hO'9:=hW
    refine Zc (Zb (Zs (Zd (.n d) q'3_2 (Zi (z8 (a:=d) (b:=2) rfl rfl c'3) (Zi (Zed (a:=(d + 2)) (b:=4) rfl rfl (by decide)) (Zd (.n o) q'3_4 (Zi (Zbb (r:=r'1) (o:=0) (o':=4) q'3_13 rfl) ?_)))))))
    refine Zi (Zfx (o:=4) (o':=(4 + ((d + 2).tmod 4:Int).toNat * 1)) (z:=((d + 2).tmod 4)) rfl rfl c'4 rfl) (zK (hO'9.stb (ws:=[.n o]) (cs':=Zh.c ({ { c with Next:=c.Next.set ((d + 2).tmod 4) v } with Owner:=(({ c with Next:=c.Next.set ((d + 2).tmod 4) v }).Owner).set ((d + 2).tmod 4) o })) (v:=.n o) 1 rfl rfl rfl rfl ⟨rfl,(by have:=c'4; exact (show 4 + ((d + 2).tmod 4:Int).toNat * 1 + 1≤8 by omega)),rfl⟩ (ZbT c'4)) ?_)
    rintro _ k'9 ⟨rfl,f'6,m'5,hW⟩
    have hO'10:=hW
    refine Zc (Zb (Zs (Zd v'2 q'3_11 (Zi (ZaI (cs:=(Zh.c ({ { c with Next:=c.Next.set ((d + 2).tmod 4) v } with Owner:=(({ c with Next:=c.Next.set ((d + 2).tmod 4) v }).Owner).set ((d + 2).tmod 4) o }))) (ws:=Zh.c ({ { c with Next:=c.Next.set ((d + 2).tmod 4) v } with Owner:=(({ c with Next:=c.Next.set ((d + 2).tmod 4) v }).Owner).set ((d + 2).tmod 4) o })) (hO'10.box 1 rfl) q'3_13 rfl) (zK (hO'10.bsl (E:=Zh) (l:=[{ { c with Next:=c.Next.set ((d + 2).tmod 4) v } with Owner:=(({ c with Next:=c.Next.set ((d + 2).tmod 4) v }).Owner).set ((d + 2).tmod 4) o }]) hO'10.fr (by rw [(zP (v:=.ag (Zh.c ({ { c with Next:=c.Next.set ((d + 2).tmod 4) v } with Owner:=(({ c with Next:=c.Next.set ((d + 2).tmod 4) v }).Owner).set ((d + 2).tmod 4) o }))) rfl ZaF)]; rfl) rfl) ?_)))))
    rintro v'4 k'10 ⟨r'2,f'7,hW⟩
    have hO'11:=hW
    obtain ⟨c'5,hp⟩:=Zp hp
    refine zK (hO'11.app (E:=Zh) (bytes:=64) 0 hO'11.fr rfl (hO'11.sl 2 rfl:Sl Zh k'10 v'4 [{ { c with Next:=c.Next.set ((d + 2).tmod 4) v } with Owner:=(({ c with Next:=c.Next.set ((d + 2).tmod 4) v }).Owner).set ((d + 2).tmod 4) o }]) rfl rfl (fun _=>rfl) c'5 (by decide)) ?_
    rintro v'5 k'11 ⟨f'8,hW⟩
    have hO'12:=hW
    refine Zd v'5 rfl (Zc (zV (Zb (Zs (Zd (.n i) q'3_12 ?_)))))
    obtain ⟨c'6,hp⟩:=Zp hp
    refine Zi (z8 (a:=i) (b:=1) rfl rfl c'6) (Zd (.n (i + 1)) rfl (Zc ?_))
    cases hp
    exact (Or.inl ⟨(out++[{ { c with Next:=c.Next.set ((d + 2).tmod 4) v } with Owner:=(({ c with Next:=c.Next.set ((d + 2).tmod 4) v }).Owner).set ((d + 2).tmod 4) o }],i + 1),rfl,rfl,v'5,q'3_0,q'3_1,q'3_2,q'3_3,q'3_4,rfl,rfl,(hO'12.pick [0] rfl (by decide))⟩)
   ·refine z9 (t:=(decide (i = w))) rfl b'3 ?_
    refine zB (Zb (Zs (Zd v'2 q'3_11 (Zi (ZaI (cs:=(Zh.c c)) (ws:=Zh.c c) (hO'6.box 1 rfl) q'3_13 rfl) (zK (hO'6.bsl (E:=Zh) (l:=[c]) hO'6.fr (by rw [(zP (v:=.ag (Zh.c c)) rfl ZaF)]; rfl) rfl) ?_)))))
    rintro v'6 k'12 ⟨r'3,f'9,hW⟩
    have hO'13:=hW
    obtain ⟨c'7,hp⟩:=Zp hp
    refine zK (hO'13.app (E:=Zh) (bytes:=64) 0 hO'13.fr rfl (hO'13.sl 2 rfl) rfl rfl (fun _=>rfl) c'7 (by decide)) ?_
    rintro v'7 k'13 ⟨f'10,hW⟩
    have hO'14:=hW
    refine Zd v'7 rfl (Zc (zV (Zb (Zs (Zd (.n i) q'3_12 ?_)))))
    obtain ⟨c'8,hp⟩:=Zp hp
    refine Zi (z8 (a:=i) (b:=1) rfl rfl c'8) (Zd (.n (i + 1)) rfl (Zc ?_))
    cases hp
    exact (Or.inl ⟨(out++[c],i + 1),rfl,rfl,v'7,q'3_0,q'3_1,q'3_2,q'3_3,q'3_4,rfl,rfl,(hO'14.pick [0] rfl (by decide))⟩)
  ·refine z9 (t:=(decide (i < (l.length:Int)))) rfl b'1 ?_
   refine ZaL (zO ?_)
   cases hp
   refine (Or.inr ⟨out,rfl,(fun h=>nomatch h),(fun he=>?_)⟩)
   subst he; exact ⟨rfl,v'2,q'2_11,(hO'3.pick [0] rfl (by decide))⟩
 intro e'1 q'1 k'1 hJ'1
 obtain ⟨out1,rfl⟩:∃ x,x = o'1:=⟨_,rfl⟩
 obtain ⟨rfl,v'3,q'1_11,hO'1⟩:=hJ'1
 refine Zav (Zb (Zm (Zs (Zd v'3 q'1_11 (Zd v'3 rfl (Zc (Zb ?_)))))))
 refine Zao (z6 (zR (n:=10) (v:=v'3) rfl zj) ?_)
 cases hp
 exact ⟨v'3,rfl,(hO'1.pick [0] rfl (by decide))⟩

theorem Z1.ok {h:Hp} {z:ZQ} {most:Int} {v_z_At:V} {v_z_Bits:V} {v_z_Own:V} (s_z_At:Sl Zeq h v_z_At z.At) (s_z_Bits:Sl Zeq h v_z_Bits z.Bits) (s_z_Own:Sl Zg7 h v_z_Own z.Own) {r:(List Za) × (List Zk)} (hp:Z1 z most = some r) :
  ∃ u k',Is G 28 [.ag [v_z_At,v_z_Bits,v_z_Own],.n most] h u k'∧∃ (v'1:V),∃ (v'2:V),V.tu [v'1,v'2] = u∧Own (fun r=>r < h.n) h k' [eSl Zh v'1 r.1,eSl Zg v'2 r.2]:=by
 refine WC.is (Za0 ZbE ?_)
 unfold Z1 at hp
 let B:Nat→Prop:=(fun r=>r < h.n)
 have hO:Own B h h []:=Own.start0 h
 refine Zm (Zs (zK (hO.boxd (v:=.ag [v_z_At,v_z_Bits,v_z_Own]) (cs:=[v_z_At,v_z_Bits,v_z_Own]) hO.fr rfl rfl) ?_))
 rintro _ k'1 ⟨r'1,rfl,n'1,f'1,hW⟩
 have hO'1:=hW
 refine Zd (.sn) rfl (Zd (.sn) rfl (Zc (Zb (Zm (Zs (Zd (.sn) rfl (Zc ?_)))))))
 refine Zb (Zm (Zm (Zs (Zd (.n 0) rfl (Zc (Zb (Zae ?_)))))))
 obtain ⟨o'1,ho'1,hp⟩:=Zv hp
 refine W.mono (Q:=fun e fr k=>match (generalizing:=false) o'1 with
   | at_1=>e = (.exit 0)∧∃ (v'4:V),fr 2 = .p r'1 0∧fr 6 = v'4∧Own B h k [Zbs r'1 [v_z_At,v_z_Bits,v_z_Own],eSl Zg v'4 at_1]) ?_ ?_
 ·clear hp
  have hO'3:=hO'1.nil Zg
  refine zE (fun st fr k=>match st with | (at_,i)=>∃ (v'3:V),fr 1 = .n most∧fr 2 = .p r'1 0∧fr 6 = v'3∧fr 7 = .n i∧Own B h k [Zbs r'1 [v_z_At,v_z_Bits,v_z_Own],eSl Zg v'3 at_]) ho'1 (s:=(([]:List Zk),0)) ⟨V.sn,rfl,rfl,rfl,rfl,(hO'3.pick [0,1] rfl (by decide))⟩ ?_
  rintro ⟨at_,i⟩ q'2 k'3 ⟨v'3,q'2_1,q'2_2,q'2_6,q'2_7,hO'4⟩ o'2 hp
  dsimp only [Z1.s0] at hp
  refine Zm (Zm (Zs (Zd (.n i) q'2_7 (Zi (Zbb (r:=r'1) (o:=0) (o':=0) q'2_2 rfl) (Zi (Za9 (cs:=[v_z_At,v_z_Bits,v_z_Own]) (v:=v_z_At) (hO'4.box 0 rfl) rfl rfl) (Zi (Zam (hO'4.rd0 s_z_At.rd) rfl) (Zi (z4 (a:=i) (b:=(z.At.length:Int)) rfl rfl) ?_)))))))
  refine Zd (.b (decide (i < (z.At.length:Int)))) rfl ?_
  refine zU 5 (fun fr' k'=>k'3 = k'∧fr' 28 = .b ((decide (i < (z.At.length:Int))) && (decide ((at_.length:Int) < most)))∧fr' 1 = .n most∧fr' 2 = .p r'1 0∧fr' 6 = v'3∧fr' 7 = .n i) ?_ ?_
  ·rcases bc (decide (i < (z.At.length:Int))) with b'1 | b'1
   ·skip
    refine ZO rfl b'1 (Zd v'3 q'2_6 (ZO rfl b'1 (Zi (Zam (hO'4.sl 1 rfl) rfl) (ZO rfl b'1 (Zd (.n most) q'2_1 (ZO rfl b'1 (Zi (z4 (a:=(at_.length:Int)) (b:=most) rfl rfl) ?_)))))))
    refine Zi (ZV (t:=(decide (i < (z.At.length:Int)))) (v:=.b ((decide (i < (z.At.length:Int))) && (decide ((at_.length:Int) < most)))) rfl b'1 (Eq.trans (b:=V.b (decide ((at_.length:Int) < most))) rfl (Zc7 b'1))) (Zc ?_)
    exact ⟨rfl,rfl,q'2_1,q'2_2,q'2_6,q'2_7⟩
   ·skip
    refine ZC rfl b'1 (ZC rfl b'1 (ZC rfl b'1 (ZC rfl b'1 (Zi (ZT (t:=(decide (i < (z.At.length:Int)))) (v:=.b ((decide (i < (z.At.length:Int))) && (decide ((at_.length:Int) < most)))) rfl b'1 (Eq.trans (b:=V.b false) rfl (ZbU b'1))) (Zc ?_)))))
    exact ⟨rfl,rfl,q'2_1,q'2_2,q'2_6,q'2_7⟩
  rintro frg'1 _ ⟨rfl,g'1_28,g'1_1,g'1_2,g'1_6,g'1_7⟩
  refine Zc (Zb ?_)
  rcases Zy hp with ⟨b'2,hp⟩ | ⟨b'2,hp⟩
  ·refine zA (t:=((decide (i < (z.At.length:Int))) && (decide ((at_.length:Int) < most)))) g'1_28 b'2 ?_
   refine zB (Zb (Zm (Zae (Zm (ZiH ?_)))))
   have hW:=hO'4.bump 18
   have fr'1:=Fresh.start k'3 18
   have nb'1:∀ {i:Nat},h.n≤k'3.n + i:=Nat.le_trans hO'4.n (Nat.le_add_right _ _)
   have hO'5:=hW
   refine Zax (Zbb (r:=r'1) (o:=0) (o':=0) g'1_2 rfl) (Zax (Za9 (cs:=[v_z_At,v_z_Bits,v_z_Own]) (v:=v_z_At) (hO'5.box 0 rfl) rfl rfl) (ZbX (.n i) g'1_7 ?_))
   obtain ⟨c'1,hp⟩:=Zp hp
   refine Zax (zn (E:=Zeq) (z:=i) (hO'5.rd0 s_z_At.rd) rfl rfl c'1) (Zax (zI (w:=.i .u8 (gi z.At i.toNat)) (hO'5.rd0 s_z_At.rd) rfl (Zr c'1) rfl) ?_)
   obtain ⟨c'2,hp⟩:=Zp hp
   refine Zax (ZdP (a:=(gi z.At i.toNat)) rfl c'2) (Zax (Zed (a:=(gi z.At i.toNat)) (b:=8) rfl rfl (by decide)) (Zax (Zbb (r:=r'1) (o:=0) (o':=0) g'1_2 rfl) (Zax (Za9 (cs:=[v_z_At,v_z_Bits,v_z_Own]) (v:=v_z_At) (hO'5.box 0 rfl) rfl rfl) (ZbX (.n i) g'1_7 (Zax (zn (E:=Zeq) (z:=i) (hO'5.rd0 s_z_At.rd) rfl rfl c'1) (Zax (zI (w:=.i .u8 (gi z.At i.toNat)) (hO'5.rd0 s_z_At.rd) rfl (Zr c'1) rfl) (Zax (ZdP (a:=(gi z.At i.toNat)) rfl c'2) ?_)))))))
   obtain ⟨c'3,hp⟩:=Zp hp
   refine Zax (ZkU (a:=(gi z.At i.toNat)) (b:=8) rfl rfl c'3) (Zax (Zed (a:=((gi z.At i.toNat).tdiv 8)) (b:=8) rfl rfl (by decide)) (Zax (Zd7 (cs:=Zg.c (⟨(gi z.At i.toNat).tmod 8,((gi z.At i.toNat).tdiv 8).tmod 8⟩:Zk)) (by rw [(zP (v:=.n ((gi z.At i.toNat).tmod 8)) rfl (zP (v:=.n (((gi z.At i.toNat).tdiv 8).tmod 8)) rfl ZaF))]; rfl)) (ZiF (hO'5.alloc (cs:=Zg.c (⟨0,0⟩:Zk)) ⟨fr'1.m 16 (by decide) (by decide),nb'1⟩) ?_)))
   rintro _ k'5 z'1 ⟨r'2,rfl,n'2,f'2,hW⟩
   have fr'2:=fr'1.kept f'2 (by decide)
   have hO'6:=hW
   refine ZiF (hO'6.stb (ws:=Zg.c (⟨(gi z.At i.toNat).tmod 8,((gi z.At i.toNat).tdiv 8).tmod 8⟩:Zk)) (cs':=Zg.c (⟨(gi z.At i.toNat).tmod 8,((gi z.At i.toNat).tdiv 8).tmod 8⟩:Zk)) (v:=.ag (Zg.c (⟨(gi z.At i.toNat).tmod 8,((gi z.At i.toNat).tdiv 8).tmod 8⟩:Zk))) 2 rfl rfl rfl rfl ⟨rfl,Nat.le_of_ble_eq_true rfl,rfl⟩ rfl) ?_
   rintro _ k'6 z'2 ⟨rfl,f'3,m'1,hW⟩
   have fr'3:=fr'2.kept f'3 (by decide)
   have hO'7:=hW
   refine Zdx ?_
   refine And.intro ?_ ?_
   ·intro q hq
    simp only [List.mem_cons,List.not_mem_nil,or_false] at hq
    rcases hq with rfl | rfl | rfl | rfl | rfl | rfl | rfl | rfl
    ·refine Zdt ?_ ?_
     ·exact (fun h=>nomatch h)
     ·exact (fun h=>nomatch h)
    ·refine Zdt ?_ ?_
     ·exact (fun h=>nomatch h)
     ·exact (fun h=>nomatch h)
    ·refine Zdt ?_ ?_
     ·exact (fun h=>nomatch h)
     ·exact (fun h=>nomatch h)
    ·refine Zdt ?_ ?_
     ·exact (fun h=>nomatch h)
     ·exact (fun h=>nomatch h)
    ·refine Zdt ?_ ?_
     ·exact (fun h=>nomatch h)
     ·exact (fun _ hm=>Nat.lt_irrefl _ (Nat.lt_of_lt_of_le (hO'4.ltAt 0 rfl _ (tch (v:=V.p r'1 0) (Zgf hm) rfl)) (Nat.le_add_right _ _)))
    ·refine Zdt ?_ ?_
     ·exact (fun h=>nomatch h)
     ·exact (fun _ hm=>Nat.lt_irrefl _ (Nat.lt_of_lt_of_le (Nat.lt_of_lt_of_le (hO'4.lo _ (Rd.B s_z_At.rd hO'4.lo (Zr c'1) _ (Zgk (tch (v:=V.elt v_z_At i.toNat 0) (Zgf hm) rfl)))) hO'4.n) (Nat.le_add_right _ _)))
    ·refine Zdt ?_ ?_
     ·exact (fun h=>nomatch h)
     ·exact (fun _ hm=>Nat.lt_irrefl _ (Nat.lt_of_lt_of_le (hO'4.ltAt 0 rfl _ (tch (v:=V.p r'1 0) (Zgf hm) rfl)) (Nat.le_add_right _ _)))
    ·refine Zdt ?_ ?_
     ·exact (fun h=>nomatch h)
     ·exact (fun _ hm=>Nat.lt_irrefl _ (Nat.lt_of_lt_of_le (Nat.lt_of_lt_of_le (hO'4.lo _ (Rd.B s_z_At.rd hO'4.lo (Zr c'1) _ (Zgk (tch (v:=V.elt v_z_At i.toNat 0) (Zgf hm) rfl)))) hO'4.n) (Nat.le_add_right _ _)))
   refine Zb (Zm (Zs (Zd (.b false) rfl (Zc (Zb (Zm (Zm ?_)))))))
   refine Zs (Zd (.n 0) rfl (Zc (Zb (Zae ?_))))
   obtain ⟨o'3,ho'2,hp⟩:=Zv hp
   refine W.mono (Q:=fun e fr k=>match (generalizing:=false) o'3 with
     | (at_2,met1)=>e = (.exit 2)∧fr 1 = .n most∧fr 2 = .p r'1 0∧fr 6 = v'3∧fr 7 = .n i∧fr 8 = .p r'2 0∧fr 9 = .b met1∧Own B h k [Zbs r'1 [v_z_At,v_z_Bits,v_z_Own],eSl Zg v'3 at_2,Zbs r'2 (Zg.c (⟨(gi z.At i.toNat).tmod 8,((gi z.At i.toNat).tdiv 8).tmod 8⟩:Zk))]) ?_ ?_
   ·clear hp
    refine zE (fun st fr k=>match st with | (met,k_)=>fr 1 = .n most∧fr 2 = .p r'1 0∧fr 6 = v'3∧fr 7 = .n i∧fr 8 = .p r'2 0∧fr 9 = .b met∧fr 10 = .n k_∧Own B h k [Zbs r'1 [v_z_At,v_z_Bits,v_z_Own],eSl Zg v'3 at_,Zbs r'2 (Zg.c (⟨(gi z.At i.toNat).tmod 8,((gi z.At i.toNat).tdiv 8).tmod 8⟩:Zk))]) ho'2 (s:=(false,0)) ⟨g'1_1,g'1_2,g'1_6,g'1_7,rfl,rfl,rfl,(hO'7.pick [0,1,2] rfl (by decide))⟩ ?_
    rintro ⟨met,k_⟩ q'4 k'8 ⟨q'4_1,q'4_2,q'4_6,q'4_7,q'4_8,q'4_9,q'4_10,hO'9⟩ o'4 hp
    dsimp only [Z1.s1] at hp
    refine Zm (Zm (Zs (Zd (.n k_) q'4_10 (Zd v'3 q'4_6 (Zi (Zam (hO'9.sl 1 rfl) rfl) (Zi (z4 (a:=k_) (b:=(at_.length:Int)) rfl rfl) (Zc ?_)))))))
    refine Zb ?_
    rcases Zy hp with ⟨b'3,hp⟩ | ⟨b'3,hp⟩
    ·refine zA (t:=(decide (k_ < (at_.length:Int)))) rfl b'3 ?_
     refine zB (Zb (Zm (Zae (Zg0 ?_))))
     have hW:=hO'9.bump 10
     have hO'10:=hW
     refine zx (.b met) q'4_9 (zx (.b met) rfl ?_)
     obtain ⟨t,hv'1,hp⟩:=Zv hp
     refine ZaD 7 (fun fr' k'=>(k'8.bump 10) = k'∧fr' 61 = .b t∧fr' 1 = .n most∧fr' 10 = .n k_∧fr' 2 = .p r'1 0∧fr' 6 = v'3∧fr' 7 = .n i∧fr' 8 = .p r'2 0) ?_ ?_
     ·clear hp; rcases Zy hv'1 with ⟨b'4,hp⟩ | ⟨b'4,hp⟩
      ·skip
       refine Zt rfl b'4 (Zt rfl b'4 (Zt rfl b'4 (Zt rfl b'4 (Zt rfl b'4 (Zt rfl b'4 (ZJ rfl (ZV (t:=met) (v:=.b t) rfl b'4 (Eq.trans (b:=V.b true) rfl (congrArg V.b (Option.some.inj hp)))) (zr ?_)))))))
       exact ⟨rfl,rfl,q'4_1,q'4_10,q'4_2,q'4_6,q'4_7,q'4_8⟩
      ·skip
       refine Z3 rfl b'4 (zx v'3 q'4_6 (Z3 rfl b'4 (zx (.n k_) q'4_10 (Z3 rfl b'4 ?_))))
       obtain ⟨c'4,hp⟩:=Zp hp
       refine ZJ rfl (zn (E:=Zg) (z:=k_) (hO'10.sl 1 rfl) rfl rfl c'4) (Z3 rfl b'4 (ZJ rfl (ZfY (E:=Zg) (hO'10.sl 1 rfl) rfl (Zr c'4)) (Z3 rfl b'4 (ZJ rfl (ZaI (cs:=(Zg.c (⟨(gi z.At i.toNat).tmod 8,((gi z.At i.toNat).tdiv 8).tmod 8⟩:Zk))) (ws:=Zg.c (⟨(gi z.At i.toNat).tmod 8,((gi z.At i.toNat).tdiv 8).tmod 8⟩:Zk)) (hO'10.box 2 rfl) q'4_8 rfl) (Z3 rfl b'4 (ZJ rfl (ZkQ (as:=Zg.c (gi at_ k_.toNat)) (bs:=Zg.c (⟨(gi z.At i.toNat).tmod 8,((gi z.At i.toNat).tdiv 8).tmod 8⟩:Zk)) rfl rfl (Mu.Zg.same _ _)) (ZJ rfl (ZT (t:=met) (v:=.b t) rfl b'4 (Eq.trans (b:=V.b (decide (gi at_ k_.toNat = (⟨(gi z.At i.toNat).tmod 8,((gi z.At i.toNat).tdiv 8).tmod 8⟩:Zk)))) rfl (congrArg V.b (Option.some.inj hp)))) ?_)))))))
       refine zr ?_
       exact ⟨rfl,rfl,q'4_1,q'4_10,q'4_2,q'4_6,q'4_7,q'4_8⟩
     rintro frg'2 _ ⟨rfl,g'2_61,g'2_1,g'2_10,g'2_2,g'2_6,g'2_7,g'2_8⟩
     refine zx (.b t) g'2_61 (zr (zV (Zb (Zs (Zd (.n k_) g'2_10 ?_)))))
     obtain ⟨c'5,hp⟩:=Zp hp
     refine Zi (z8 (a:=k_) (b:=1) rfl rfl c'5) (Zd (.n (k_ + 1)) rfl (Zc ?_))
     cases hp
     exact (Or.inl ⟨(t,k_ + 1),rfl,rfl,g'2_1,g'2_2,g'2_6,g'2_7,g'2_8,rfl,rfl,(hO'10.pick [0,1,2] rfl (by decide))⟩)
    ·refine z9 (t:=(decide (k_ < (at_.length:Int)))) rfl b'3 ?_
     refine ZaL (zO ?_)
     cases hp
     refine (Or.inr ⟨(at_,met),rfl,(fun h=>nomatch h),(fun he=>?_)⟩)
     subst he; exact ⟨rfl,q'4_1,q'4_2,q'4_6,q'4_7,q'4_8,q'4_9,(hO'9.pick [0,1,2] rfl (by decide))⟩
   intro e'2 q'3 k'7 hJ'2
   obtain ⟨at_2,met1⟩:=o'3
   obtain ⟨rfl,q'3_1,q'3_2,q'3_6,q'3_7,q'3_8,q'3_9,hO'8⟩:=hJ'2
   refine Zav (Zb (Zm (Zs (Zd (.b met1) q'3_9 (Zi (ZcU (t:=met1) rfl) (Zc (Zb ?_)))))))
   rcases Zy hp with ⟨b'5,hp⟩ | ⟨b'5,hp⟩
   ·refine zA (t:=(!met1)) rfl b'5 ?_
    refine Zs (Zd v'3 q'3_6 (Zi (ZaI (cs:=(Zg.c (⟨(gi z.At i.toNat).tmod 8,((gi z.At i.toNat).tdiv 8).tmod 8⟩:Zk))) (ws:=Zg.c (⟨(gi z.At i.toNat).tmod 8,((gi z.At i.toNat).tdiv 8).tmod 8⟩:Zk)) (hO'8.box 2 rfl) q'3_8 rfl) (zK (hO'8.bsl (E:=Zg) (l:=[(⟨(gi z.At i.toNat).tmod 8,((gi z.At i.toNat).tdiv 8).tmod 8⟩:Zk)]) hO'8.fr (by rw [(zP (v:=.ag (Zg.c (⟨(gi z.At i.toNat).tmod 8,((gi z.At i.toNat).tdiv 8).tmod 8⟩:Zk))) rfl ZaF)]; rfl) rfl) ?_)))
    rintro v'5 k'10 ⟨r'3,f'4,hW⟩
    have hO'11:=hW
    obtain ⟨c'6,hp⟩:=Zp hp
    refine zK (hO'11.app (E:=Zg) (bytes:=16) 1 hO'11.fr rfl (hO'11.sl 3 rfl:Sl Zg k'10 v'5 [(⟨(gi z.At i.toNat).tmod 8,((gi z.At i.toNat).tdiv 8).tmod 8⟩:Zk)]) rfl rfl (fun _=>rfl) c'6 (by decide)) ?_
    rintro v'6 k'11 ⟨f'5,hW⟩
    have hO'12:=hW
    refine Zd v'6 rfl (Zc (zV (Zb (Zs (Zd (.n i) q'3_7 ?_)))))
    obtain ⟨c'7,hp⟩:=Zp hp
    refine Zi (z8 (a:=i) (b:=1) rfl rfl c'7) (Zd (.n (i + 1)) rfl (Zc ?_))
    cases hp
    exact (Or.inl ⟨(at_2++[(⟨(gi z.At i.toNat).tmod 8,((gi z.At i.toNat).tdiv 8).tmod 8⟩:Zk)],i + 1),rfl,rfl,v'6,q'3_1,q'3_2,rfl,rfl,(hO'12.pick [0,1] rfl (by decide))⟩)
   ·refine z9 (t:=(!met1)) rfl b'5 ?_
    refine zB (zV (Zb (Zs (Zd (.n i) q'3_7 ?_))))
    obtain ⟨c'8,hp⟩:=Zp hp
    refine Zi (z8 (a:=i) (b:=1) rfl rfl c'8) (Zd (.n (i + 1)) rfl (Zc ?_))
    cases hp
    exact (Or.inl ⟨(at_2,i + 1),rfl,rfl,v'3,q'3_1,q'3_2,q'3_6,rfl,(hO'8.pick [0,1] rfl (by decide))⟩)
  ·refine z9 (t:=((decide (i < (z.At.length:Int))) && (decide ((at_.length:Int) < most)))) g'1_28 b'2 ?_
   refine ZaL (zO ?_)
   cases hp
   refine (Or.inr ⟨at_,rfl,(fun h=>nomatch h),(fun he=>?_)⟩)
   subst he; exact ⟨rfl,v'3,g'1_2,g'1_6,(hO'4.pick [0,1] rfl (by decide))⟩
 intro e'1 q'1 k'2 hJ'1
 obtain ⟨at_1,rfl⟩:∃ x,x = o'1:=⟨_,rfl⟩
 obtain ⟨rfl,v'4,q'1_2,q'1_6,hO'2⟩:=hJ'1
 refine Zav (Zb (Zm (Zs (Zd v'4 q'1_6 (Zi (Zam (hO'2.sl 1 rfl) rfl) ?_)))))
 obtain ⟨x,hx'1,hp⟩:=Zv hp
 obtain ⟨u'1,k'12,ca'1,v'7,rfl,hW'1⟩:=ZE.ok (h:=k'2)   hx'1
 refine Zat (id:=46) (caps:=[]) rfl (Z4 (v:=.n (at_1.length:Int)) rfl zh) ca'1 ?_
 have hO'13:=hO'2.call hW'1 rfl
 refine Zd v'7 rfl (Zc (Zb (Zm (Zm (Zs (Zd (.n 0) rfl (Zc ?_)))))))
 refine Zb (Zae ?_)
 obtain ⟨o'5,ho'3,hp⟩:=Zv hp
 refine W.mono (Q:=fun e fr k=>match (generalizing:=false) o'5 with
   | (at_4,l1)=>e = (.exit 4)∧∃ (v'9:V),fr 6 = v'4∧fr 11 = v'9∧Own B h k [eSl Zg v'4 at_4,eSl Zh v'9 l1]) ?_ ?_
 ·clear hp
  refine zE (fun st fr k=>match st with | (at_3,l,i1)=>∃ (v'8:V),fr 2 = .p r'1 0∧fr 6 = v'4∧fr 11 = v'8∧fr 12 = .n i1∧Own B h k [Zbs r'1 [v_z_At,v_z_Bits,v_z_Own],eSl Zg v'4 at_3,eSl Zh v'8 l]) ho'3 (s:=(at_1,x,0)) ⟨v'7,q'1_2,q'1_6,rfl,rfl,(hO'13.pick [0,1,2] rfl (by decide))⟩ ?_
  rintro ⟨at_3,l,i1⟩ q'6 k'14 ⟨v'8,q'6_2,q'6_6,q'6_11,q'6_12,hO'15⟩ o'6 hp
  dsimp only [Z1.s2] at hp
  refine Zm (Zm (Zs (Zd (.n i1) q'6_12 (Zd v'4 q'6_6 (Zi (Zam (hO'15.sl 1 rfl) rfl) (Zi (z4 (a:=i1) (b:=(at_3.length:Int)) rfl rfl) (Zc ?_)))))))
  refine Zb ?_
  rcases Zy hp with ⟨b'6,hp⟩ | ⟨b'6,hp⟩
  ·refine zA (t:=(decide (i1 < (at_3.length:Int)))) rfl b'6 ?_
   refine zB (Zb (Zm (Zae (Zm (Zs (Zd (.i .u8 3) rfl (Zc ?_)))))))
   refine Zb (Zm (Zm (Zs (Zd (.n i1) q'6_12 (Zi (Zbb (r:=r'1) (o:=0) (o':=1) q'6_2 rfl) (Zi (Za9 (cs:=[v_z_At,v_z_Bits,v_z_Own]) (v:=v_z_Bits) (hO'15.box 0 rfl) rfl rfl) (Zi (Zam (hO'15.rd0 s_z_Bits.rd) rfl) ?_)))))))
   refine Zi (z4 (a:=i1) (b:=(z.Bits.length:Int)) rfl rfl) (Zc (Zb ?_))
   obtain ⟨o'7,ho'4,hp⟩:=Zv hp
   refine W.mono (Q:=fun e fr k=>match (generalizing:=false) o'7 with
     | (at_5,l2,bits)=>e = .normal∧fr 2 = .p r'1 0∧fr 6 = v'4∧fr 11 = v'8∧fr 12 = .n i1∧fr 13 = .i .u8 bits∧Own B h k [Zbs r'1 [v_z_At,v_z_Bits,v_z_Own],eSl Zg v'4 at_5,eSl Zh v'8 l2]) ?_ ?_
   ·clear hp; have hp:=ho'4; clear ho'4
    rcases Zy hp with ⟨b'7,hp⟩ | ⟨b'7,hp⟩
    ·refine zA (t:=(decide (i1 < (z.Bits.length:Int)))) rfl b'7 ?_
     refine Zs (Zi (Zbb (r:=r'1) (o:=0) (o':=1) q'6_2 rfl) (Zi (Za9 (cs:=[v_z_At,v_z_Bits,v_z_Own]) (v:=v_z_Bits) (hO'15.box 0 rfl) rfl rfl) (Zd (.n i1) q'6_12 ?_)))
     obtain ⟨c'9,hp⟩:=Zp hp
     refine Zi (zn (E:=Zeq) (z:=i1) (hO'15.rd0 s_z_Bits.rd) rfl rfl c'9) (Zi (zI (w:=.i .u8 (gi z.Bits i1.toNat)) (hO'15.rd0 s_z_Bits.rd) rfl (Zr c'9) rfl) (Zd (.i .u8 (gi z.Bits i1.toNat)) rfl (Zc ?_)))
     cases hp
     exact ⟨rfl,q'6_2,q'6_6,q'6_11,q'6_12,rfl,(hO'15.pick [0,1,2] rfl (by decide))⟩
    ·refine z9 (t:=(decide (i1 < (z.Bits.length:Int)))) rfl b'7 ?_
     refine zB ?_
     cases hp
     exact ⟨rfl,q'6_2,q'6_6,q'6_11,q'6_12,rfl,(hO'15.pick [0,1,2] rfl (by decide))⟩
   intro e'4 q'7 k'15 hJ'4
   obtain ⟨at_5,l2,bits⟩:=o'7
   obtain ⟨rfl,q'7_2,q'7_6,q'7_11,q'7_12,q'7_13,hO'16⟩:=hJ'4
   refine Zb (Zm (Zs (Zd (.n i1) q'7_12 (Zd (.n i1) rfl (Zc (Zb (Zm ?_)))))))
   refine Zm (Zs (Zd (.n i1) q'7_12 (Zi (Zbb (r:=r'1) (o:=0) (o':=2) q'7_2 rfl) (Zi (Za9 (cs:=[v_z_At,v_z_Bits,v_z_Own]) (v:=v_z_Own) (hO'16.box 0 rfl) rfl rfl) (Zi (Zam (hO'16.rd0 s_z_Own.rd) rfl) (Zi (z4 (a:=i1) (b:=(z.Own.length:Int)) rfl rfl) (Zc ?_)))))))
   refine Zb ?_
   obtain ⟨o'8,ho'5,hp⟩:=Zv hp
   refine W.mono (Q:=fun e fr k=>match (generalizing:=false) o'8 with
     | (at_6,l3,own)=>e = .normal∧fr 2 = .p r'1 0∧fr 6 = v'4∧fr 11 = v'8∧fr 12 = .n i1∧fr 13 = .i .u8 bits∧fr 14 = .n own∧Own B h k [Zbs r'1 [v_z_At,v_z_Bits,v_z_Own],eSl Zg v'4 at_6,eSl Zh v'8 l3]) ?_ ?_
   ·clear hp; have hp:=ho'5; clear ho'5
    rcases Zy hp with ⟨b'8,hp⟩ | ⟨b'8,hp⟩
    ·refine zA (t:=(decide (i1 < (z.Own.length:Int)))) rfl b'8 ?_
     refine Zm (Zs (Zi (Zbb (r:=r'1) (o:=0) (o':=2) q'7_2 rfl) (Zi (Za9 (cs:=[v_z_At,v_z_Bits,v_z_Own]) (v:=v_z_Own) (hO'16.box 0 rfl) rfl rfl) (Zd (.n i1) q'7_12 ?_))))
     obtain ⟨c'10,hp⟩:=Zp hp
     refine Zi (zn (E:=Zg7) (z:=i1) (hO'16.rd0 s_z_Own.rd) rfl rfl c'10) (Zi (zI (w:=.i .i8 (gi z.Own i1.toNat)) (hO'16.rd0 s_z_Own.rd) rfl (Zr c'10) rfl) ?_)
     obtain ⟨c'11,hp⟩:=Zp hp
     refine Zi (ZdP (a:=(gi z.Own i1.toNat)) rfl c'11) (Zd (.n (gi z.Own i1.toNat)) rfl (Zc (Zb (Zm (Zs (Zd (.n (gi z.Own i1.toNat)) rfl (Zi (z4 (a:=(gi z.Own i1.toNat)) (b:=(-2)) rfl rfl) ?_)))))))
     refine Zc (Zb ?_)
     rcases Zy hp with ⟨b'9,hp⟩ | ⟨b'9,hp⟩
     ·refine zA (t:=(decide ((gi z.Own i1.toNat) < (-2)))) rfl b'9 ?_
      refine Zs (Zd (.n (gi z.Own i1.toNat)) rfl ?_)
      obtain ⟨c'12,hp⟩:=Zp hp
      refine Zi (ZkT (a:=(gi z.Own i1.toNat)) rfl c'12) (Zd (.n (-(gi z.Own i1.toNat))) rfl (Zc ?_))
      cases hp
      exact ⟨rfl,q'7_2,q'7_6,q'7_11,q'7_12,q'7_13,rfl,(hO'16.pick [0,1,2] rfl (by decide))⟩
     ·refine z9 (t:=(decide ((gi z.Own i1.toNat) < (-2)))) rfl b'9 ?_
      refine zB ?_
      cases hp
      exact ⟨rfl,q'7_2,q'7_6,q'7_11,q'7_12,q'7_13,rfl,(hO'16.pick [0,1,2] rfl (by decide))⟩
    ·refine z9 (t:=(decide (i1 < (z.Own.length:Int)))) rfl b'8 ?_
     refine zB ?_
     cases hp
     exact ⟨rfl,q'7_2,q'7_6,q'7_11,q'7_12,q'7_13,rfl,(hO'16.pick [0,1,2] rfl (by decide))⟩
   intro e'5 q'8 k'16 hJ'5
   obtain ⟨at_6,l3,own⟩:=o'8
   obtain ⟨rfl,q'8_2,q'8_6,q'8_11,q'8_12,q'8_13,q'8_14,hO'17⟩:=hJ'5
   refine Zb (Zm (Zs (Zd (.n 0) rfl (Zc (Zb (Zae ?_))))))
   obtain ⟨o'9,ho'6,hp⟩:=Zv hp
   refine W.mono (Q:=fun e fr k=>match (generalizing:=false) o'9 with
     | l5=>e = (.exit 6)∧∃ (v'11:V),fr 2 = .p r'1 0∧fr 6 = v'4∧fr 11 = v'11∧fr 12 = .n i1∧Own B h k [Zbs r'1 [v_z_At,v_z_Bits,v_z_Own],eSl Zg v'4 at_6,eSl Zh v'11 l5]) ?_ ?_
   ·clear hp
    refine zE (fun st fr k=>match st with | (l4,d)=>∃ (v'10:V),fr 2 = .p r'1 0∧fr 6 = v'4∧fr 11 = v'10∧fr 12 = .n i1∧fr 13 = .i .u8 bits∧fr 14 = .n own∧fr 15 = .n d∧Own B h k [Zbs r'1 [v_z_At,v_z_Bits,v_z_Own],eSl Zg v'4 at_6,eSl Zh v'10 l4]) ho'6 (s:=(l3,0)) ⟨v'8,q'8_2,q'8_6,q'8_11,q'8_12,q'8_13,q'8_14,rfl,(hO'17.pick [0,1,2] rfl (by decide))⟩ ?_
    rintro ⟨l4,d⟩ q'10 k'18 ⟨v'10,q'10_2,q'10_6,q'10_11,q'10_12,q'10_13,q'10_14,q'10_15,hO'19⟩ o'10 hp
    dsimp only [Z1.s3] at hp
    refine Zm (Zm (Zs (Zd (.n d) q'10_15 (Zi (z4 (a:=d) (b:=2) rfl rfl) (Zc (Zb ?_))))))
    rcases Zy hp with ⟨b'10,hp⟩ | ⟨b'10,hp⟩
    ·refine zA (t:=(decide (d < 2))) rfl b'10 ?_
     refine zB (Zb (Zm (Zae (Zm (Zs (Zd v'4 q'10_6 (Zd (.n i1) q'10_12 ?_)))))))
     refine Zd (.n d) q'10_15 ?_
     obtain ⟨x1,hx'2,hp⟩:=Zv hp
     obtain ⟨u'2,k'19,ca'2,rfl,hW'2⟩:=Z9.ok (h:=k'18)  (hO'19.sl 1 rfl) hx'2
     refine Zat (id:=63) (caps:=[]) rfl (Z4 (v:=v'4) rfl (Z4 (v:=.n i1) rfl (Z4 (v:=.n d) rfl zh))) ca'2 ?_
     have hO'20:=hO'19.call hW'2 rfl
     refine Zd (.n x1) rfl (Zc (Zb (Zm (Zm (Zs (Zd (.i .u8 bits) q'10_13 (Zd (.n d) q'10_15 ?_)))))))
     obtain ⟨c'13,hp⟩:=Zp hp
     refine Zi (Zdh (a:=bits) (b:=d) (v:=.i .u8 (Zx .u8 bits d)) rfl rfl (by decide) (ZbW c'13)) (Zi (Zcw (a:=(Zx .u8 bits d)) (b:=1) (v:=.i .u8 (Zo .u8 (Zx .u8 bits d) 1)) rfl rfl (by decide) rfl) (Zi (Za7 (a:=(Zo .u8 (Zx .u8 bits d) 1)) (b:=0) rfl rfl) (Zd (.b (decide (Zo .u8 (Zx .u8 bits d) 1 = 0))) rfl ?_)))
     refine zU 3 (fun fr' k'=>k'19 = k'∧fr' 119 = .b ((decide (Zo .u8 (Zx .u8 bits d) 1 = 0)) || (decide (x1 < 0)))∧fr' 11 = v'10∧fr' 12 = .n i1∧fr' 13 = .i .u8 bits∧fr' 14 = .n own∧fr' 15 = .n d∧fr' 16 = .n x1∧fr' 2 = .p r'1 0∧fr' 6 = v'4) ?_ ?_
     ·rcases bc (decide (Zo .u8 (Zx .u8 bits d) 1 = 0)) with b'11 | b'11
      ·skip
       refine ZC rfl b'11 (ZC rfl b'11 (Zi (ZV (t:=(decide (Zo .u8 (Zx .u8 bits d) 1 = 0))) (v:=.b ((decide (Zo .u8 (Zx .u8 bits d) 1 = 0)) || (decide (x1 < 0)))) rfl b'11 (Eq.trans (b:=V.b true) rfl (Zbz b'11))) (Zc ?_)))
       exact ⟨rfl,rfl,q'10_11,q'10_12,q'10_13,q'10_14,q'10_15,rfl,q'10_2,q'10_6⟩
      ·skip
       refine ZO rfl b'11 (Zd (.n x1) rfl (ZO rfl b'11 (Zi (z4 (a:=x1) (b:=0) rfl rfl) (Zi (ZT (t:=(decide (Zo .u8 (Zx .u8 bits d) 1 = 0))) (v:=.b ((decide (Zo .u8 (Zx .u8 bits d) 1 = 0)) || (decide (x1 < 0)))) rfl b'11 (Eq.trans (b:=V.b (decide (x1 < 0))) rfl (Zcn b'11))) (Zc ?_)))))
       exact ⟨rfl,rfl,q'10_11,q'10_12,q'10_13,q'10_14,q'10_15,rfl,q'10_2,q'10_6⟩
     rintro frg'3 _ ⟨rfl,g'3_119,g'3_11,g'3_12,g'3_13,g'3_14,g'3_15,g'3_16,g'3_2,g'3_6⟩
     refine Zc (Zb ?_)
     rcases Zy hp with ⟨b'12,hp⟩ | ⟨b'12,hp⟩
     ·refine zA (t:=((decide (Zo .u8 (Zx .u8 bits d) 1 = 0)) || (decide (x1 < 0)))) g'3_119 b'12 ?_
      refine ZaL (zO (Zav (Zb (Zs (Zd (.n d) g'3_15 ?_)))))
      obtain ⟨c'14,hp⟩:=Zp hp
      refine Zi (z8 (a:=d) (b:=1) rfl rfl c'14) (Zd (.n (d + 1)) rfl (Zc ?_))
      cases hp
      exact (Or.inl ⟨(l4,d + 1),rfl,rfl,v'10,g'3_2,g'3_6,g'3_11,g'3_12,g'3_13,g'3_14,rfl,(hO'20.pick [0,1,2] rfl (by decide))⟩)
     ·refine z9 (t:=((decide (Zo .u8 (Zx .u8 bits d) 1 = 0)) || (decide (x1 < 0)))) g'3_119 b'12 ?_
      refine zB (Zb (Zm (Zs (Zd v'4 g'3_6 (Zd v'10 g'3_11 (Zd (.n i1) g'3_12 (Zd (.n x1) g'3_16 ?_)))))))
      obtain ⟨x2,hx'3,hp⟩:=Zv hp
      obtain ⟨u'3,k'20,ca'3,rfl,hW'3⟩:=Z8.ok (h:=k'19)  (hO'20.sl 1 rfl) (hO'20.sl 2 rfl) hx'3
      refine Zat (id:=64) (caps:=[]) rfl (Z4 (v:=v'4) rfl (Z4 (v:=v'10) rfl (Z4 (v:=.n i1) rfl (Z4 (v:=.n x1) rfl zh)))) ca'3 ?_
      have hO'21:=hO'20.call hW'3 rfl
      refine Zd (.b x2) rfl (Zc (Zb (Zm (Zs (Zd (.b x2) rfl (Zi (ZcU (t:=x2) rfl) (Zc ?_)))))))
      refine Zb ?_
      rcases Zy hp with ⟨b'13,hp⟩ | ⟨b'13,hp⟩
      ·refine zA (t:=(!x2)) rfl b'13 ?_
       refine Zs (Zd v'10 g'3_11 (Zd (.n i1) g'3_12 (Zd (.n d) g'3_15 (Zd (.n x1) g'3_16 (Zd (.n own) g'3_14 ?_)))))
       obtain ⟨x3,hx'4,hp⟩:=Zv hp
       obtain ⟨u'4,k'21,ca'4,v'12,rfl,hW'4⟩:=zf.ok (h:=k'20)  (hO'21.sl 2 rfl) hx'4
       refine Zat (id:=65) (caps:=[]) rfl (Z4 (v:=v'10) rfl (Z4 (v:=.n i1) rfl (Z4 (v:=.n d) rfl (Z4 (v:=.n x1) rfl (Z4 (v:=.n own) rfl zh))))) ca'4 ?_
       have hO'22:=hO'21.call hW'4 rfl
       refine Zd v'12 rfl (Zc (zV (Zb (Zs (Zd (.n d) g'3_15 ?_)))))
       obtain ⟨c'15,hp⟩:=Zp hp
       refine Zi (z8 (a:=d) (b:=1) rfl rfl c'15) (Zd (.n (d + 1)) rfl (Zc ?_))
       cases hp
       exact (Or.inl ⟨(x3,d + 1),rfl,rfl,v'12,g'3_2,g'3_6,rfl,g'3_12,g'3_13,g'3_14,rfl,(hO'22.pick [0,1,3] rfl (by decide))⟩)
      ·refine z9 (t:=(!x2)) rfl b'13 ?_
       refine zB (zV (Zb (Zs (Zd (.n d) g'3_15 ?_))))
       obtain ⟨c'16,hp⟩:=Zp hp
       refine Zi (z8 (a:=d) (b:=1) rfl rfl c'16) (Zd (.n (d + 1)) rfl (Zc ?_))
       cases hp
       exact (Or.inl ⟨(l4,d + 1),rfl,rfl,v'10,g'3_2,g'3_6,g'3_11,g'3_12,g'3_13,g'3_14,rfl,(hO'21.pick [0,1,2] rfl (by decide))⟩)
    ·refine z9 (t:=(decide (d < 2))) rfl b'10 ?_
     refine ZaL (zO ?_)
     cases hp
     refine (Or.inr ⟨l4,rfl,(fun h=>nomatch h),(fun he=>?_)⟩)
     subst he; exact ⟨rfl,v'10,q'10_2,q'10_6,q'10_11,q'10_12,(hO'19.pick [0,1,2] rfl (by decide))⟩
   intro e'6 q'9 k'17 hJ'6
   obtain ⟨l5,rfl⟩:∃ x,x = o'9:=⟨_,rfl⟩
   obtain ⟨rfl,v'11,q'9_2,q'9_6,q'9_11,q'9_12,hO'18⟩:=hJ'6
   refine Zav (zV (Zb (Zs (Zd (.n i1) q'9_12 ?_))))
   obtain ⟨c'17,hp⟩:=Zp hp
   refine Zi (z8 (a:=i1) (b:=1) rfl rfl c'17) (Zd (.n (i1 + 1)) rfl (Zc ?_))
   cases hp
   exact (Or.inl ⟨(at_6,l5,i1 + 1),rfl,rfl,v'11,q'9_2,q'9_6,q'9_11,rfl,(hO'18.pick [0,1,2] rfl (by decide))⟩)
  ·refine z9 (t:=(decide (i1 < (at_3.length:Int)))) rfl b'6 ?_
   refine ZaL (zO ?_)
   cases hp
   refine (Or.inr ⟨(at_3,l),rfl,(fun h=>nomatch h),(fun he=>?_)⟩)
   subst he; exact ⟨rfl,v'8,q'6_6,q'6_11,(hO'15.pick [1,2] rfl (by decide))⟩
 intro e'3 q'5 k'13 hJ'3
 obtain ⟨at_4,l1⟩:=o'5
 obtain ⟨rfl,v'9,q'5_6,q'5_11,hO'14⟩:=hJ'3
 refine Zav (Zb (Zm (Zs (Zd v'9 q'5_11 (Zd v'4 q'5_6 (Zd v'9 rfl (Zd v'4 rfl ?_)))))))
 refine Zc (Zb (Zao (z6 (zR (n:=4) (v:=v'9) rfl (zR (n:=5) (v:=v'4) rfl zj)) ?_)))
 cases hp
 exact ⟨v'9,v'4,rfl,(hO'14.pick [1,0] rfl (by decide))⟩

theorem Z6.ok {h:Hp} {l:List Za} {v:Int} {v_l:V} (s_l:Sl Zh h v_l l) {r:(List Int)} (hp:Z6 l v = some r) :
  ∃ u k',Is G 36 [v_l,.n v] h u k'∧∃ (v'1:V),v'1 = u∧Own (fun r=>r < h.n) h k' [eSl zt v'1 r]:=by
 refine WC.is (Za0 ZbP ?_)
 unfold Z6 at hp
 let B:Nat→Prop:=(fun r=>r < h.n)
 have hO:Own B h h []:=Own.start0 h
 refine Zm (Zs (Zd (.sn) rfl (Zc (Zb (Zm (Zs (Zd v_l rfl ?_)))))))
 refine Zi (Zam (hO.rd0 s_l.rd) rfl) ?_
 obtain ⟨c'1,hp⟩:=Zp hp
 refine zK (hO.mks (E:=zt) (y:=(0:Int)) (bytes:=8) (z:=(l.length:Int)) hO.fr rfl rfl rfl c'1 (by decide)) ?_
 rintro v'2 k'1 ⟨r'1,f'1,hW⟩
 have hO'1:=hW
 refine Zd v'2 rfl (Zc (Zb (Zm (Zm (Zs (Zd (.n 0) rfl (Zc ?_)))))))
 refine Zb (Zae ?_)
 obtain ⟨o'1,ho'1,hp⟩:=Zv hp
 refine W.mono (Q:=fun e fr k=>match (generalizing:=false) o'1 with
   | far1=>e = (.exit 0)∧fr 0 = v_l∧fr 1 = .n v∧fr 5 = v'2∧Own B h k [eSl zt v'2 far1]) ?_ ?_
 ·clear hp
  refine zE (fun st fr k=>match st with | (far,i)=>fr 0 = v_l∧fr 1 = .n v∧fr 5 = v'2∧fr 6 = .n i∧Own B h k [eSl zt v'2 far]) ho'1 (s:=(List.replicate ((l.length:Int):Int).toNat (0:Int),0)) ⟨rfl,rfl,rfl,rfl,(hO'1.pick [0] rfl (by decide))⟩ ?_
  rintro ⟨far,i⟩ q'2 k'3 ⟨q'2_0,q'2_1,q'2_5,q'2_6,hO'3⟩ o'2 hp
  dsimp only [Z6.s0] at hp
  refine Zm (Zm (Zs (Zd (.n i) q'2_6 (Zd v_l q'2_0 (Zi (Zam (hO'3.rd0 s_l.rd) rfl) (Zi (z4 (a:=i) (b:=(l.length:Int)) rfl rfl) (Zc ?_)))))))
  refine Zb ?_
  rcases Zy hp with ⟨b'1,hp⟩ | ⟨b'1,hp⟩
  ·refine zA (t:=(decide (i < (l.length:Int)))) rfl b'1 ?_
   refine zB (Zb (Zm (Zae (Zs (Zd v'2 q'2_5 (Zd (.n i) q'2_6 ?_))))))
   obtain ⟨c'2,hp⟩:=Zp hp
   refine Zi (zn (E:=zt) (z:=i) (hO'3.sl 0 rfl) rfl rfl c'2) (zK (hO'3.ste (E:=zt) (y:=(-1)) (ws:=[.n (-1)]) 0 rfl rfl (Zr c'2) rfl rfl ⟨rfl,Nat.le_of_ble_eq_true rfl,rfl⟩ rfl) ?_)
   rintro _ k'4 ⟨rfl,f'2,m'1,hW⟩
   have hO'4:=hW
   refine Zc (zV (Zb (Zs (Zd (.n i) q'2_6 ?_))))
   obtain ⟨c'3,hp⟩:=Zp hp
   refine Zi (z8 (a:=i) (b:=1) rfl rfl c'3) (Zd (.n (i + 1)) rfl (Zc ?_))
   cases hp
   exact (Or.inl ⟨(far.set i.toNat (-1),i + 1),rfl,rfl,q'2_0,q'2_1,q'2_5,rfl,(hO'4.pick [0] rfl (by decide))⟩)
  ·refine z9 (t:=(decide (i < (l.length:Int)))) rfl b'1 ?_
   refine ZaL (zO ?_)
   cases hp
   refine (Or.inr ⟨far,rfl,(fun h=>nomatch h),(fun he=>?_)⟩)
   subst he; exact ⟨rfl,q'2_0,q'2_1,q'2_5,(hO'3.pick [0] rfl (by decide))⟩
 intro e'1 q'1 k'2 hJ'1
 obtain ⟨far1,rfl⟩:∃ x,x = o'1:=⟨_,rfl⟩
 obtain ⟨rfl,q'1_0,q'1_1,q'1_5,hO'2⟩:=hJ'1
 refine Zav (Zb (Zm (Zs (Zd v'2 q'1_5 (Zd (.n v) q'1_1 ?_)))))
 obtain ⟨c'4,hp⟩:=Zp hp
 refine Zi (zn (E:=zt) (z:=v) (hO'2.sl 0 rfl) rfl rfl c'4) (zK (hO'2.ste (E:=zt) (y:=0) (ws:=[.n 0]) 0 rfl rfl (Zr c'4) rfl rfl ⟨rfl,Nat.le_of_ble_eq_true rfl,rfl⟩ rfl) ?_)
 rintro _ k'5 ⟨rfl,f'3,m'2,hW⟩
 have hO'5:=hW
 refine Zc (Zb (Zm (Zm (Zs (Zd (.n 0) rfl (Zc (Zb ?_)))))))
 refine Zae ?_
 obtain ⟨o'3,ho'2,hp⟩:=Zv hp
 refine W.mono (Q:=fun e fr k=>match (generalizing:=false) o'3 with
   | far3=>e = (.exit 2)∧fr 5 = v'2∧Own B h k [eSl zt v'2 far3]) ?_ ?_
 ·clear hp
  refine zE (fun st fr k=>match st with | (far2,round)=>fr 0 = v_l∧fr 5 = v'2∧fr 7 = .n round∧Own B h k [eSl zt v'2 far2]) ho'2 (s:=(far1.set v.toNat 0,0)) ⟨q'1_0,q'1_5,rfl,(hO'5.pick [0] rfl (by decide))⟩ ?_
  rintro ⟨far2,round⟩ q'4 k'7 ⟨q'4_0,q'4_5,q'4_7,hO'7⟩ o'4 hp
  dsimp only [Z6.s1] at hp
  refine Zm (Zm (Zs (Zd (.n round) q'4_7 (Zd v_l q'4_0 (Zi (Zam (hO'7.rd0 s_l.rd) rfl) (Zi (z4 (a:=round) (b:=(l.length:Int)) rfl rfl) (Zc ?_)))))))
  refine Zb ?_
  rcases Zy hp with ⟨b'2,hp⟩ | ⟨b'2,hp⟩
  ·refine zA (t:=(decide (round < (l.length:Int)))) rfl b'2 ?_
   refine zB (Zb (Zm (Zae (Zm (Zs (Zd (.n 0) rfl (Zc ?_)))))))
   refine Zb (Zae ?_)
   obtain ⟨o'5,ho'3,hp⟩:=Zv hp
   refine W.mono (Q:=fun e fr k=>match (generalizing:=false) o'5 with
     | far5=>e = (.exit 4)∧fr 0 = v_l∧fr 5 = v'2∧fr 7 = .n round∧Own B h k [eSl zt v'2 far5]) ?_ ?_
   ·clear hp
    refine zE (fun st fr k=>match st with | (far4,i1)=>fr 0 = v_l∧fr 5 = v'2∧fr 7 = .n round∧fr 8 = .n i1∧Own B h k [eSl zt v'2 far4]) ho'3 (s:=(far2,0)) ⟨q'4_0,q'4_5,q'4_7,rfl,(hO'7.pick [0] rfl (by decide))⟩ ?_
    rintro ⟨far4,i1⟩ q'6 k'9 ⟨q'6_0,q'6_5,q'6_7,q'6_8,hO'9⟩ o'6 hp
    dsimp only [Z6.s2] at hp
    refine Zm (Zm (Zs (Zd (.n i1) q'6_8 (Zd v_l q'6_0 (Zi (Zam (hO'9.rd0 s_l.rd) rfl) (Zi (z4 (a:=i1) (b:=(l.length:Int)) rfl rfl) (Zc ?_)))))))
    refine Zb ?_
    rcases Zy hp with ⟨b'3,hp⟩ | ⟨b'3,hp⟩
    ·refine zA (t:=(decide (i1 < (l.length:Int)))) rfl b'3 ?_
     refine zB (Zb (Zm (Zae (Zm (Zs (Zd (.n 0) rfl (Zc ?_)))))))
     refine Zb (Zae ?_)
     obtain ⟨o'7,ho'4,hp⟩:=Zv hp
     refine W.mono (Q:=fun e fr k=>match (generalizing:=false) o'7 with
       | far7=>e = (.exit 6)∧fr 0 = v_l∧fr 5 = v'2∧fr 7 = .n round∧fr 8 = .n i1∧Own B h k [eSl zt v'2 far7]) ?_ ?_
     ·clear hp
      refine zE (fun st fr k=>match st with | (far6,d)=>fr 0 = v_l∧fr 5 = v'2∧fr 7 = .n round∧fr 8 = .n i1∧fr 9 = .n d∧Own B h k [eSl zt v'2 far6]) ho'4 (s:=(far4,0)) ⟨q'6_0,q'6_5,q'6_7,q'6_8,rfl,(hO'9.pick [0] rfl (by decide))⟩ ?_
      rintro ⟨far6,d⟩ q'8 k'11 ⟨q'8_0,q'8_5,q'8_7,q'8_8,q'8_9,hO'11⟩ o'8 hp
      dsimp only [Z6.s3] at hp
      refine Zm (Zm (Zs (Zd (.n d) q'8_9 (Zi (z4 (a:=d) (b:=4) rfl rfl) (Zc (Zb ?_))))))
      rcases Zy hp with ⟨b'4,hp⟩ | ⟨b'4,hp⟩
      ·refine zA (t:=(decide (d < 4))) rfl b'4 ?_
       refine zB (Zb (Zm (Zae (Zm (Zs (Zd v_l q'8_0 (Zd (.n i1) q'8_8 ?_)))))))
       refine Zd (.n d) q'8_9 ?_
       obtain ⟨c'5,hp⟩:=Zp hp
       refine Zi (zn (E:=Zh) (z:=i1) (hO'11.rd0 s_l.rd) rfl rfl c'5) (Zi (Zar (off':=0) (off2:=0) (hO'11.rd0 s_l.rd) (Zr c'5) rfl rfl) ?_)
       obtain ⟨c'6,hp⟩:=Zp hp
       refine Zi (Zbd (off:=0) (off2:=(0 + d.toNat * 1)) (z:=d) (hO'11.rd0 s_l.rd) (Zr c'5) rfl rfl c'6 rfl) (Zi (zI (w:=.n (((gi l i1.toNat).Next).get d)) (hO'11.rd0 s_l.rd) rfl (Zr c'5) (z7 c'6)) (Zd (.n (((gi l i1.toNat).Next).get d)) rfl (Zc (Zb (Zm (Zs (Zd v'2 q'8_5 ?_)))))))
       refine Zd (.n i1) q'8_8 ?_
       obtain ⟨c'7,hp⟩:=Zp hp
       refine Zi (zn (E:=zt) (z:=i1) (hO'11.sl 0 rfl) rfl rfl c'7) (Zi (zI (w:=.n (gi far6 i1.toNat)) (hO'11.sl 0 rfl) rfl (Zr c'7) rfl) (Zd (.n round) q'8_7 (Zi (Za7 (a:=(gi far6 i1.toNat)) (b:=round) rfl rfl) (Zd (.b (decide (gi far6 i1.toNat = round))) rfl ?_))))
       refine zU 3 (fun fr' k'=>k'11 = k'∧fr' 58 = .b ((decide (gi far6 i1.toNat = round)) && (decide (0≤(((gi l i1.toNat).Next).get d))))∧fr' 0 = v_l∧fr' 10 = .n (((gi l i1.toNat).Next).get d)∧fr' 5 = v'2∧fr' 7 = .n round∧fr' 8 = .n i1∧fr' 9 = .n d) ?_ ?_
       ·rcases bc (decide (gi far6 i1.toNat = round)) with b'5 | b'5
        ·skip
         refine ZO rfl b'5 (Zd (.n (((gi l i1.toNat).Next).get d)) rfl (ZO rfl b'5 (Zi (Zcx (a:=(((gi l i1.toNat).Next).get d)) (b:=0) rfl rfl) (Zi (ZV (t:=(decide (gi far6 i1.toNat = round))) (v:=.b ((decide (gi far6 i1.toNat = round)) && (decide (0≤(((gi l i1.toNat).Next).get d))))) rfl b'5 (Eq.trans (b:=V.b (decide (0≤(((gi l i1.toNat).Next).get d)))) rfl (Zc7 b'5))) (Zc ?_)))))
         exact ⟨rfl,rfl,q'8_0,rfl,q'8_5,q'8_7,q'8_8,q'8_9⟩
        ·skip
         refine ZC rfl b'5 (ZC rfl b'5 (Zi (ZT (t:=(decide (gi far6 i1.toNat = round))) (v:=.b ((decide (gi far6 i1.toNat = round)) && (decide (0≤(((gi l i1.toNat).Next).get d))))) rfl b'5 (Eq.trans (b:=V.b false) rfl (ZbU b'5))) (Zc ?_)))
         exact ⟨rfl,rfl,q'8_0,rfl,q'8_5,q'8_7,q'8_8,q'8_9⟩
       rintro frg'1 _ ⟨rfl,g'1_58,g'1_0,g'1_10,g'1_5,g'1_7,g'1_8,g'1_9⟩
       refine Zd (.b ((decide (gi far6 i1.toNat = round)) && (decide (0≤(((gi l i1.toNat).Next).get d))))) g'1_58 ?_
       obtain ⟨t,hv'1,hp⟩:=Zv hp
       refine zU 7 (fun fr' k'=>k'11 = k'∧fr' 66 = .b t∧fr' 0 = v_l∧fr' 10 = .n (((gi l i1.toNat).Next).get d)∧fr' 5 = v'2∧fr' 7 = .n round∧fr' 8 = .n i1∧fr' 9 = .n d) ?_ ?_
       ·clear hp; rcases Zy hv'1 with ⟨b'6,hp⟩ | ⟨b'6,hp⟩
        ·skip
         refine ZO rfl b'6 (Zd v'2 g'1_5 (ZO rfl b'6 (Zd (.n (((gi l i1.toNat).Next).get d)) g'1_10 (ZO rfl b'6 (Zi (ZlA (a:=(((gi l i1.toNat).Next).get d)) (b:=0) rfl rfl) (ZO rfl b'6 ?_))))))
         obtain ⟨c'8,hp⟩:=Zp hp
         refine Zi (zn (E:=zt) (z:=(max (((gi l i1.toNat).Next).get d) 0)) (hO'11.sl 0 rfl) rfl rfl c'8) (ZO rfl b'6 (Zi (zI (w:=.n (gi far6 (max (((gi l i1.toNat).Next).get d) 0:Int).toNat)) (hO'11.sl 0 rfl) rfl (Zr c'8) rfl) (ZO rfl b'6 (Zi (z4 (a:=(gi far6 (max (((gi l i1.toNat).Next).get d) 0:Int).toNat)) (b:=0) rfl rfl) (Zi (ZV (t:=((decide (gi far6 i1.toNat = round)) && (decide (0≤(((gi l i1.toNat).Next).get d))))) (v:=.b t) rfl b'6 (Eq.trans (b:=V.b (decide ((gi far6 (max (((gi l i1.toNat).Next).get d) 0:Int).toNat) < 0))) rfl (congrArg V.b (Option.some.inj hp)))) (Zc ?_))))))
         exact ⟨rfl,rfl,g'1_0,g'1_10,g'1_5,g'1_7,g'1_8,g'1_9⟩
        ·skip
         refine ZC rfl b'6 (ZC rfl b'6 (ZC rfl b'6 (ZC rfl b'6 (ZC rfl b'6 (ZC rfl b'6 (Zi (ZT (t:=((decide (gi far6 i1.toNat = round)) && (decide (0≤(((gi l i1.toNat).Next).get d))))) (v:=.b t) rfl b'6 (Eq.trans (b:=V.b false) rfl (congrArg V.b (Option.some.inj hp)))) (Zc ?_)))))))
         exact ⟨rfl,rfl,g'1_0,g'1_10,g'1_5,g'1_7,g'1_8,g'1_9⟩
       rintro frg'2 _ ⟨rfl,g'2_66,g'2_0,g'2_10,g'2_5,g'2_7,g'2_8,g'2_9⟩
       refine Zc (Zb ?_)
       rcases Zy hp with ⟨b'7,hp⟩ | ⟨b'7,hp⟩
       ·refine zA (t:=t) g'2_66 b'7 ?_
        refine Zs (Zd v'2 g'2_5 (Zd (.n (((gi l i1.toNat).Next).get d)) g'2_10 (Zd (.n round) g'2_7 ?_)))
        obtain ⟨c'9,hp⟩:=Zp hp
        refine Zi (z8 (a:=round) (b:=1) rfl rfl c'9) ?_
        obtain ⟨c'10,hp⟩:=Zp hp
        refine Zi (zn (E:=zt) (z:=(((gi l i1.toNat).Next).get d)) (hO'11.sl 0 rfl) rfl rfl c'10) (zK (hO'11.ste (E:=zt) (y:=(round + 1)) (ws:=[.n (round + 1)]) 0 rfl rfl (Zr c'10) rfl rfl ⟨rfl,Nat.le_of_ble_eq_true rfl,rfl⟩ rfl) ?_)
        rintro _ k'12 ⟨rfl,f'4,m'3,hW⟩
        have hO'12:=hW
        refine Zc (zV (Zb (Zs (Zd (.n d) g'2_9 ?_))))
        obtain ⟨c'11,hp⟩:=Zp hp
        refine Zi (z8 (a:=d) (b:=1) rfl rfl c'11) (Zd (.n (d + 1)) rfl (Zc ?_))
        cases hp
        exact (Or.inl ⟨(far6.set (((gi l i1.toNat).Next).get d:Int).toNat (round + 1),d + 1),rfl,rfl,g'2_0,g'2_5,g'2_7,g'2_8,rfl,(hO'12.pick [0] rfl (by decide))⟩)
       ·refine z9 (t:=t) g'2_66 b'7 ?_
        refine zB (zV (Zb (Zs (Zd (.n d) g'2_9 ?_))))
        obtain ⟨c'12,hp⟩:=Zp hp
        refine Zi (z8 (a:=d) (b:=1) rfl rfl c'12) (Zd (.n (d + 1)) rfl (Zc ?_))
        cases hp
        exact (Or.inl ⟨(far6,d + 1),rfl,rfl,g'2_0,g'2_5,g'2_7,g'2_8,rfl,(hO'11.pick [0] rfl (by decide))⟩)
      ·refine z9 (t:=(decide (d < 4))) rfl b'4 ?_
       refine ZaL (zO ?_)
       cases hp
       refine (Or.inr ⟨far6,rfl,(fun h=>nomatch h),(fun he=>?_)⟩)
       subst he; exact ⟨rfl,q'8_0,q'8_5,q'8_7,q'8_8,(hO'11.pick [0] rfl (by decide))⟩
     intro e'4 q'7 k'10 hJ'4
     obtain ⟨far7,rfl⟩:∃ x,x = o'7:=⟨_,rfl⟩
     obtain ⟨rfl,q'7_0,q'7_5,q'7_7,q'7_8,hO'10⟩:=hJ'4
     refine Zav (zV (Zb (Zs (Zd (.n i1) q'7_8 ?_))))
     obtain ⟨c'13,hp⟩:=Zp hp
     refine Zi (z8 (a:=i1) (b:=1) rfl rfl c'13) (Zd (.n (i1 + 1)) rfl (Zc ?_))
     cases hp
     exact (Or.inl ⟨(far7,i1 + 1),rfl,rfl,q'7_0,q'7_5,q'7_7,rfl,(hO'10.pick [0] rfl (by decide))⟩)
    ·refine z9 (t:=(decide (i1 < (l.length:Int)))) rfl b'3 ?_
     refine ZaL (zO ?_)
     cases hp
     refine (Or.inr ⟨far4,rfl,(fun h=>nomatch h),(fun he=>?_)⟩)
     subst he; exact ⟨rfl,q'6_0,q'6_5,q'6_7,(hO'9.pick [0] rfl (by decide))⟩
   intro e'3 q'5 k'8 hJ'3
   obtain ⟨far5,rfl⟩:∃ x,x = o'5:=⟨_,rfl⟩
   obtain ⟨rfl,q'5_0,q'5_5,q'5_7,hO'8⟩:=hJ'3
   refine Zav (zV (Zb (Zs (Zd (.n round) q'5_7 ?_))))
   obtain ⟨c'14,hp⟩:=Zp hp
   refine Zi (z8 (a:=round) (b:=1) rfl rfl c'14) (Zd (.n (round + 1)) rfl (Zc ?_))
   cases hp
   exact (Or.inl ⟨(far5,round + 1),rfl,rfl,q'5_0,q'5_5,rfl,(hO'8.pick [0] rfl (by decide))⟩)
  ·refine z9 (t:=(decide (round < (l.length:Int)))) rfl b'2 ?_
   refine ZaL (zO ?_)
   cases hp
   refine (Or.inr ⟨far2,rfl,(fun h=>nomatch h),(fun he=>?_)⟩)
   subst he; exact ⟨rfl,q'4_5,(hO'7.pick [0] rfl (by decide))⟩
 intro e'2 q'3 k'6 hJ'2
 obtain ⟨far3,rfl⟩:∃ x,x = o'3:=⟨_,rfl⟩
 obtain ⟨rfl,q'3_5,hO'6⟩:=hJ'2
 refine Zav (Zb (Zm (Zs (Zd v'2 q'3_5 (Zd v'2 rfl (Zc (Zb ?_)))))))
 refine Zao (z6 (zR (n:=4) (v:=v'2) rfl zj) ?_)
 cases hp
 exact ⟨v'2,rfl,(hO'6.pick [0] rfl (by decide))⟩

theorem ZK.ok {h:Hp} {l:List Za} {v_l:V} (s_l:Sl Zh h v_l l) {r:(List (List Int))} (hp:ZK l = some r) :
  ∃ u k',Is G 30 [v_l] h u k'∧∃ (v'1:V),∃ (vs'1:List V),v'1 = u∧Own (fun r=>r < h.n) h k' [eSl eV v'1 vs'1,Zb3 zt vs'1 r]:=by
 refine WC.is (Za0 Zb5 ?_)
 unfold ZK at hp
 let B:Nat→Prop:=(fun r=>r < h.n)
 have hO:Own B h h []:=Own.start0 h
 refine Zm (Zs (Zd (.sn) rfl (Zc (Zb (Zm (Zs (Zd v_l rfl ?_)))))))
 refine Zi (Zam (hO.rd0 s_l.rd) rfl) ?_
 obtain ⟨c'1,hp⟩:=Zp hp
 refine zK (hO.mks (E:=e_bool) (y:=false) (bytes:=1) (z:=(l.length:Int)) hO.fr rfl rfl rfl c'1 (by decide)) ?_
 rintro v'2 k'1 ⟨r'1,f'1,hW⟩
 have hO'1:=hW
 refine Zd v'2 rfl (Zc (Zb (Zm (Zs (Zd (.sn) rfl (Zc (Zb ?_)))))))
 refine Zm (Zm (Zs (Zd (.n 0) rfl (Zc (Zb (Zae ?_))))))
 obtain ⟨o'1,ho'1,hp⟩:=Zv hp
 refine W.mono (Q:=fun e fr k=>match (generalizing:=false) o'1 with
   | out1=>e = (.exit 0)∧∃ (v'4:V),∃ (vs'3:List V),fr 4 = v'4∧Own B h k [eSl eV v'4 vs'3,Zb3 zt vs'3 out1]) ?_ ?_
 ·clear hp
  have hO'3:=hO'1.nil eV
  have hO'4:=hO'3.allNil zt 0
  refine zE (fun st fr k=>match st with | (in_,out,v)=>∃ (v'3:V),∃ (vs'2:List V),fr 0 = v_l∧fr 3 = v'2∧fr 4 = v'3∧fr 5 = .n v∧Own B h k [eSl e_bool v'2 in_,eSl eV v'3 vs'2,Zb3 zt vs'2 out]) ho'1 (s:=(List.replicate ((l.length:Int):Int).toNat false,([]:List (List Int)),0)) ⟨V.sn,[],rfl,rfl,rfl,rfl,(hO'4.pick [0,1,2] rfl (by decide))⟩ ?_
  rintro ⟨in_,out,v⟩ q'2 k'3 ⟨v'3,vs'2,q'2_0,q'2_3,q'2_4,q'2_5,hO'5⟩ o'2 hp
  dsimp only [ZK.s0] at hp
  refine Zm (Zm (Zs (Zd (.n v) q'2_5 (Zd v_l q'2_0 (Zi (Zam (hO'5.rd0 s_l.rd) rfl) (Zi (z4 (a:=v) (b:=(l.length:Int)) rfl rfl) (Zc ?_)))))))
  refine Zb ?_
  rcases Zy hp with ⟨b'1,hp⟩ | ⟨b'1,hp⟩
  ·refine zA (t:=(decide (v < (l.length:Int)))) rfl b'1 ?_
   refine zB (Zb (Zm (Zae (Zm (Zm (Zs (Zd v'2 q'2_3 ?_)))))))
   refine Zd (.n v) q'2_5 ?_
   obtain ⟨c'2,hp⟩:=Zp hp
   refine Zi (zn (E:=e_bool) (z:=v) (hO'5.sl 0 rfl) rfl rfl c'2) (Zi (zI (w:=.b (gi in_ v.toNat)) (hO'5.sl 0 rfl) rfl (Zr c'2) rfl) (Zc (Zb ?_)))
   rcases Zy hp with ⟨b'2,hp⟩ | ⟨b'2,hp⟩
   ·refine zA (t:=(gi in_ v.toNat)) rfl b'2 ?_
    refine ZaL (zO (Zav (Zb (Zs (Zd (.n v) q'2_5 ?_)))))
    obtain ⟨c'3,hp⟩:=Zp hp
    refine Zi (z8 (a:=v) (b:=1) rfl rfl c'3) (Zd (.n (v + 1)) rfl (Zc ?_))
    cases hp
    exact (Or.inl ⟨(in_,out,v + 1),rfl,rfl,v'3,vs'2,q'2_0,q'2_3,q'2_4,rfl,(hO'5.pick [0,1,2] rfl (by decide))⟩)
   ·refine z9 (t:=(gi in_ v.toNat)) rfl b'2 ?_
    refine zB (Zb (Zm (Zs (Zd v_l q'2_0 (Zd (.n v) q'2_5 ?_)))))
    obtain ⟨x,hx'1,hp⟩:=Zv hp
    obtain ⟨u'1,k'4,ca'1,v'5,rfl,hW'1⟩:=Z6.ok (h:=k'3)  (hO'5.rd0 s_l.rd) hx'1
    refine Zat (id:=36) (caps:=[]) rfl (Z4 (v:=v_l) rfl (Z4 (v:=.n v) rfl zh)) ca'1 ?_
    have hO'6:=hO'5.call hW'1 rfl
    refine Zd v'5 rfl (Zc (Zb (Zm (Zs (Zd (.sn) rfl (Zc (Zb ?_)))))))
    refine Zm (Zm (Zs (Zd (.n 0) rfl (Zc (Zb (Zae ?_))))))
    obtain ⟨o'3,ho'2,hp⟩:=Zv hp
    refine W.mono (Q:=fun e fr k=>match (generalizing:=false) o'3 with
      | (in_2,p1)=>e = (.exit 2)∧∃ (v'7:V),fr 0 = v_l∧fr 3 = v'2∧fr 4 = v'3∧fr 5 = .n v∧fr 7 = v'7∧Own B h k [eSl e_bool v'2 in_2,eSl eV v'3 vs'2,Zb3 zt vs'2 out,eSl zt v'7 p1]) ?_ ?_
    ·clear hp
     have hO'8:=hO'6.nil zt
     refine zE (fun st fr k=>match st with | (in_1,p,w)=>∃ (v'6:V),fr 0 = v_l∧fr 3 = v'2∧fr 4 = v'3∧fr 5 = .n v∧fr 6 = v'5∧fr 7 = v'6∧fr 8 = .n w∧Own B h k [eSl e_bool v'2 in_1,eSl eV v'3 vs'2,Zb3 zt vs'2 out,eSl zt v'5 x,eSl zt v'6 p]) ho'2 (s:=(in_,([]:List Int),0)) ⟨V.sn,q'2_0,q'2_3,q'2_4,q'2_5,rfl,rfl,rfl,(hO'8.pick [0,1,2,3,4] rfl (by decide))⟩ ?_
     rintro ⟨in_1,p,w⟩ q'4 k'6 ⟨v'6,q'4_0,q'4_3,q'4_4,q'4_5,q'4_6,q'4_7,q'4_8,hO'9⟩ o'4 hp
     dsimp only [ZK.s1] at hp
     refine Zm (Zm (Zs (Zd (.n w) q'4_8 (Zd v_l q'4_0 (Zi (Zam (hO'9.rd0 s_l.rd) rfl) (Zi (z4 (a:=w) (b:=(l.length:Int)) rfl rfl) (Zc ?_)))))))
     refine Zb ?_
     rcases Zy hp with ⟨b'3,hp⟩ | ⟨b'3,hp⟩
     ·refine zA (t:=(decide (w < (l.length:Int)))) rfl b'3 ?_
      refine zB (Zb (Zm (Zae (Zm (Zs (Zd v'5 q'4_6 (Zd (.n w) q'4_8 ?_)))))))
      obtain ⟨c'4,hp⟩:=Zp hp
      refine Zi (zn (E:=zt) (z:=w) (hO'9.sl 3 rfl) rfl rfl c'4) (Zi (zI (w:=.n (gi x w.toNat)) (hO'9.sl 3 rfl) rfl (Zr c'4) rfl) (Zi (Zcx (a:=(gi x w.toNat)) (b:=0) rfl rfl) (Zc (Zb ?_))))
      rcases Zy hp with ⟨b'4,hp⟩ | ⟨b'4,hp⟩
      ·refine zA (t:=(decide (0≤(gi x w.toNat)))) rfl b'4 ?_
       refine Zm (Zs (Zd v'2 q'4_3 (Zd (.n w) q'4_8 ?_)))
       obtain ⟨c'5,hp⟩:=Zp hp
       refine Zi (zn (E:=e_bool) (z:=w) (hO'9.sl 0 rfl) rfl rfl c'5) (zK (hO'9.ste (E:=e_bool) (y:=true) (ws:=[.b true]) 0 rfl rfl (Zr c'5) rfl rfl ⟨rfl,Nat.le_of_ble_eq_true rfl,rfl⟩ rfl) ?_)
       rintro _ k'7 ⟨rfl,f'2,m'1,hW⟩
       have hO'10:=hW
       refine Zc (Zb (Zs (Zd v'6 q'4_7 (Zd (.n w) q'4_8 (zK (hO'10.bsl (E:=zt) (l:=[w]) hO'10.fr (by rw [(zP (v:=.n w) rfl ZaF)]; rfl) rfl) ?_)))))
       rintro v'8 k'8 ⟨r'2,f'3,hW⟩
       have hO'11:=hW
       obtain ⟨c'6,hp⟩:=Zp hp
       refine zK (hO'11.app (E:=zt) (bytes:=8) 4 hO'11.fr rfl (hO'11.sl 5 rfl) rfl rfl (fun _=>rfl) c'6 (by decide)) ?_
       rintro v'9 k'9 ⟨f'4,hW⟩
       have hO'12:=hW
       refine Zd v'9 rfl (Zc (zV (Zb (Zs (Zd (.n w) q'4_8 ?_)))))
       obtain ⟨c'7,hp⟩:=Zp hp
       refine Zi (z8 (a:=w) (b:=1) rfl rfl c'7) (Zd (.n (w + 1)) rfl (Zc ?_))
       cases hp
       exact (Or.inl ⟨(in_1.set w.toNat true,p++[w],w + 1),rfl,rfl,v'9,q'4_0,q'4_3,q'4_4,q'4_5,q'4_6,rfl,rfl,(hO'12.pick [0,1,2,3,4] rfl (by decide))⟩)
      ·refine z9 (t:=(decide (0≤(gi x w.toNat)))) rfl b'4 ?_
       refine zB (zV (Zb (Zs (Zd (.n w) q'4_8 ?_))))
       obtain ⟨c'8,hp⟩:=Zp hp
       refine Zi (z8 (a:=w) (b:=1) rfl rfl c'8) (Zd (.n (w + 1)) rfl (Zc ?_))
       cases hp
       exact (Or.inl ⟨(in_1,p,w + 1),rfl,rfl,v'6,q'4_0,q'4_3,q'4_4,q'4_5,q'4_6,q'4_7,rfl,(hO'9.pick [0,1,2,3,4] rfl (by decide))⟩)
     ·refine z9 (t:=(decide (w < (l.length:Int)))) rfl b'3 ?_
      refine ZaL (zO ?_)
      cases hp
      refine (Or.inr ⟨(in_1,p),rfl,(fun h=>nomatch h),(fun he=>?_)⟩)
      subst he; exact ⟨rfl,v'6,q'4_0,q'4_3,q'4_4,q'4_5,q'4_7,(hO'9.pick [0,1,2,4] rfl (by decide))⟩
    intro e'2 q'3 k'5 hJ'2
    obtain ⟨in_2,p1⟩:=o'3
    obtain ⟨rfl,v'7,q'3_0,q'3_3,q'3_4,q'3_5,q'3_7,hO'7⟩:=hJ'2
    refine Zav (Zb (Zs (Zd v'3 q'3_4 (Zd v'7 q'3_7 (zK (hO'7.bsl (E:=eV) (l:=[v'7]) hO'7.fr (by rw [(zP (v:=v'7) rfl ZaF)]; simp only [fill,(hO'7.sl 3 rfl).cells]; simp [over]) rfl) ?_)))))
    rintro v'10 k'10 ⟨r'3,f'5,hW⟩
    have hO'13:=hW
    obtain ⟨c'9,hp⟩:=Zp hp
    refine zK (hO'13.appV (bytes:=24) 1 hO'13.fr rfl (hO'13.sl 4 rfl) rfl rfl (by simp only [List.all_cons,List.all_nil,Bool.and_true]; exact (hO'13.sl 3 rfl).oneV) (by rw [(hO'13.allLen 2 rfl:(vs'2).length = (out).length)]; exact c'9) (by decide)) ?_
    rintro v'11 k'11 ⟨f'6,hW⟩
    have hO'14:=hW
    have hO'15:=hO'14.absorb 2 3 rfl rfl (by decide)
    refine Zd v'11 rfl (Zc (zV (Zb (Zs (Zd (.n v) q'3_5 ?_)))))
    obtain ⟨c'10,hp⟩:=Zp hp
    refine Zi (z8 (a:=v) (b:=1) rfl rfl c'10) (Zd (.n (v + 1)) rfl (Zc ?_))
    cases hp
    exact (Or.inl ⟨(in_2,out++[p1],v + 1),rfl,rfl,v'11,vs'2++[v'7],q'3_0,q'3_3,rfl,rfl,(hO'15.pick [0,1,2] rfl (by decide))⟩)
  ·refine z9 (t:=(decide (v < (l.length:Int)))) rfl b'1 ?_
   refine ZaL (zO ?_)
   cases hp
   refine (Or.inr ⟨out,rfl,(fun h=>nomatch h),(fun he=>?_)⟩)
   subst he; exact ⟨rfl,v'3,vs'2,q'2_4,(hO'5.pick [1,2] rfl (by decide))⟩
 intro e'1 q'1 k'2 hJ'1
 obtain ⟨out1,rfl⟩:∃ x,x = o'1:=⟨_,rfl⟩
 obtain ⟨rfl,v'4,vs'3,q'1_4,hO'2⟩:=hJ'1
 refine Zav (Zb (Zm (Zs (Zd v'4 q'1_4 (Zd v'4 rfl (Zc (Zb ?_)))))))
 refine Zao (z6 (zR (n:=2) (v:=v'4) rfl zj) ?_)
 cases hp
 exact ⟨v'4,vs'3,rfl,(hO'2.pick [0,1] rfl (by decide))⟩

end Mu
