/- The code comes to what was worked out. -/
import Derived.Test.YtdefkboekpjiiaaMuDf
import Derived.Test.YtdefkboekpjiiaaMuPa
import Derived.Test.YtdefkboekpjiiaaMuC0
set_option linter.unusedVariables false
set_option linter.unnecessarySimpa false
set_option linter.unusedSimpArgs false
set_option maxHeartbeats 2000000
set_option maxRecDepth 10000
namespace Mu
open Go (IntKind BinOp UnOp)
theorem zx.ok {h:Hp} {l:List Zc} {v:Int} {d:Int} {w:Int} {o:Int} {v_l:V} (H:Own (Bm h [eSl Zh v_l l]) h h [eSl Zh v_l l]) {r:(List Zc) × Int} (hp:zx l v d w o = some r) :
  ∃ u k',Is G 53 [v_l,.n v,.n d,.n w,.n o] h u k'∧∃ (v'1:V),V.tu [v'1,.n r.2] = u∧Own (Bm h [eSl Zh v_l l]) h k' [eSl Zh v'1 r.1]:=by
 refine WC.is (ZaQ ZcP ?_)
 unfold zx at hp
 let B:Nat→Prop:=(Bm h [eSl Zh v_l l])
 have hO:Own B h h [eSl Zh v_l l]:=H
 refine Zf (Zl (Zd (.sn) rfl (Zd (.n 0) rfl (Zb (Za (Zf (Zf ?_)))))))
 refine Zl (Zd (.n v) rfl (Ze (zJ (a:=v) (b:=0) rfl rfl) (Zd (.b (decide (v < 0))) rfl ?_)))
 refine zT 5 (fun fr' k'=>h = k'∧fr' 20 = .b ((decide (v < 0)) || (decide ((l.length:Int)≤v)))∧fr' 0 = v_l∧fr' 1 = .n v∧fr' 2 = .n d∧fr' 3 = .n w∧fr' 4 = .n o) ?_ ?_
 ·rcases bc (decide (v < 0)) with b'1 | b'1
  ·skip
   refine Zr rfl b'1 (Zr rfl b'1 (Zr rfl b'1 (Zr rfl b'1 (Ze (zb (t:=(decide (v < 0))) (v:=.b ((decide (v < 0)) || (decide ((l.length:Int)≤v)))) rfl b'1 (Eq.trans (b:=V.b true) rfl (Zbx b'1))) (Zb ?_)))))
   exact ⟨rfl,rfl,rfl,rfl,rfl,rfl,rfl⟩
  ·skip
   refine Z9 rfl b'1 (Zd (.n v) rfl (Z9 rfl b'1 (Zd v_l rfl (Z9 rfl b'1 (Ze (Zao (hO.sl 0 rfl) rfl) (Z9 rfl b'1 (Ze (Zcl (a:=v) (b:=(l.length:Int)) rfl rfl) ?_)))))))
   refine Ze (ZU (t:=(decide (v < 0))) (v:=.b ((decide (v < 0)) || (decide ((l.length:Int)≤v)))) rfl b'1 (Eq.trans (b:=V.b (decide ((l.length:Int)≤v))) rfl (ZbA b'1))) (Zb ?_)
   exact ⟨rfl,rfl,rfl,rfl,rfl,rfl,rfl⟩
 rintro frg'1 _ ⟨rfl,g'1_20,g'1_0,g'1_1,g'1_2,g'1_3,g'1_4⟩
 refine Zd (.b ((decide (v < 0)) || (decide ((l.length:Int)≤v)))) g'1_20 ?_
 refine zT 3 (fun fr' k'=>h = k'∧fr' 24 = .b (((decide (v < 0)) || (decide ((l.length:Int)≤v))) || (decide (w < 0)))∧fr' 0 = v_l∧fr' 1 = .n v∧fr' 2 = .n d∧fr' 3 = .n w∧fr' 4 = .n o) ?_ ?_
 ·rcases bc ((decide (v < 0)) || (decide ((l.length:Int)≤v))) with b'2 | b'2
  ·skip
   refine Zr rfl b'2 (Zr rfl b'2 (Ze (zb (t:=((decide (v < 0)) || (decide ((l.length:Int)≤v)))) (v:=.b (((decide (v < 0)) || (decide ((l.length:Int)≤v))) || (decide (w < 0)))) rfl b'2 (Eq.trans (b:=V.b true) rfl (Zbx b'2))) (Zb ?_)))
   exact ⟨rfl,rfl,g'1_0,g'1_1,g'1_2,g'1_3,g'1_4⟩
  ·skip
   refine Z9 rfl b'2 (Zd (.n w) g'1_3 (Z9 rfl b'2 (Ze (zJ (a:=w) (b:=0) rfl rfl) (Ze (ZU (t:=((decide (v < 0)) || (decide ((l.length:Int)≤v)))) (v:=.b (((decide (v < 0)) || (decide ((l.length:Int)≤v))) || (decide (w < 0)))) rfl b'2 (Eq.trans (b:=V.b (decide (w < 0))) rfl (ZbA b'2))) (Zb ?_)))))
   exact ⟨rfl,rfl,g'1_0,g'1_1,g'1_2,g'1_3,g'1_4⟩
 rintro frg'2 _ ⟨rfl,g'2_24,g'2_0,g'2_1,g'2_2,g'2_3,g'2_4⟩
 refine Zd (.b (((decide (v < 0)) || (decide ((l.length:Int)≤v))) || (decide (w < 0)))) g'2_24 ?_
 refine zT 5 (fun fr' k'=>h = k'∧fr' 30 = .b ((((decide (v < 0)) || (decide ((l.length:Int)≤v))) || (decide (w < 0))) || (decide ((l.length:Int)≤w)))∧fr' 0 = v_l∧fr' 1 = .n v∧fr' 2 = .n d∧fr' 3 = .n w∧fr' 4 = .n o) ?_ ?_
 ·rcases bc (((decide (v < 0)) || (decide ((l.length:Int)≤v))) || (decide (w < 0))) with b'3 | b'3
  ·skip
   refine Zr rfl b'3 (Zr rfl b'3 (Zr rfl b'3 (Zr rfl b'3 (Ze (zb (t:=(((decide (v < 0)) || (decide ((l.length:Int)≤v))) || (decide (w < 0)))) (v:=.b ((((decide (v < 0)) || (decide ((l.length:Int)≤v))) || (decide (w < 0))) || (decide ((l.length:Int)≤w)))) rfl b'3 (Eq.trans (b:=V.b true) rfl (Zbx b'3))) (Zb ?_)))))
   exact ⟨rfl,rfl,g'2_0,g'2_1,g'2_2,g'2_3,g'2_4⟩
  ·skip
   refine Z9 rfl b'3 (Zd (.n w) g'2_3 (Z9 rfl b'3 (Zd v_l g'2_0 (Z9 rfl b'3 (Ze (Zao (hO.sl 0 rfl) rfl) (Z9 rfl b'3 (Ze (Zcl (a:=w) (b:=(l.length:Int)) rfl rfl) ?_)))))))
   refine Ze (ZU (t:=(((decide (v < 0)) || (decide ((l.length:Int)≤v))) || (decide (w < 0)))) (v:=.b ((((decide (v < 0)) || (decide ((l.length:Int)≤v))) || (decide (w < 0))) || (decide ((l.length:Int)≤w)))) rfl b'3 (Eq.trans (b:=V.b (decide ((l.length:Int)≤w))) rfl (ZbA b'3))) (Zb ?_)
   exact ⟨rfl,rfl,g'2_0,g'2_1,g'2_2,g'2_3,g'2_4⟩
 rintro frg'3 _ ⟨rfl,g'3_30,g'3_0,g'3_1,g'3_2,g'3_3,g'3_4⟩
 refine Zd (.b ((((decide (v < 0)) || (decide ((l.length:Int)≤v))) || (decide (w < 0))) || (decide ((l.length:Int)≤w)))) g'3_30 ?_
 refine zT 4 (fun fr' k'=>h = k'∧fr' 35 = .b (((((decide (v < 0)) || (decide ((l.length:Int)≤v))) || (decide (w < 0))) || (decide ((l.length:Int)≤w))) || (decide (v = w)))∧fr' 0 = v_l∧fr' 1 = .n v∧fr' 2 = .n d∧fr' 3 = .n w∧fr' 4 = .n o) ?_ ?_
 ·rcases bc ((((decide (v < 0)) || (decide ((l.length:Int)≤v))) || (decide (w < 0))) || (decide ((l.length:Int)≤w))) with b'4 | b'4
  ·skip
   refine Zr rfl b'4 (Zr rfl b'4 (Zr rfl b'4 (Ze (zb (t:=((((decide (v < 0)) || (decide ((l.length:Int)≤v))) || (decide (w < 0))) || (decide ((l.length:Int)≤w)))) (v:=.b (((((decide (v < 0)) || (decide ((l.length:Int)≤v))) || (decide (w < 0))) || (decide ((l.length:Int)≤w))) || (decide (v = w)))) rfl b'4 (Eq.trans (b:=V.b true) rfl (Zbx b'4))) (Zb ?_))))
   exact ⟨rfl,rfl,g'3_0,g'3_1,g'3_2,g'3_3,g'3_4⟩
  ·skip
   refine Z9 rfl b'4 (Zd (.n v) g'3_1 (Z9 rfl b'4 (Zd (.n w) g'3_3 (Z9 rfl b'4 (Ze (ZaS (a:=v) (b:=w) rfl rfl) (Ze (ZU (t:=((((decide (v < 0)) || (decide ((l.length:Int)≤v))) || (decide (w < 0))) || (decide ((l.length:Int)≤w)))) (v:=.b (((((decide (v < 0)) || (decide ((l.length:Int)≤v))) || (decide (w < 0))) || (decide ((l.length:Int)≤w))) || (decide (v = w)))) rfl b'4 (Eq.trans (b:=V.b (decide (v = w))) rfl (ZbA b'4))) (Zb ?_)))))))
   exact ⟨rfl,rfl,g'3_0,g'3_1,g'3_2,g'3_3,g'3_4⟩
 rintro frg'4 _ ⟨rfl,g'4_35,g'4_0,g'4_1,g'4_2,g'4_3,g'4_4⟩
 refine Zd (.b (((((decide (v < 0)) || (decide ((l.length:Int)≤v))) || (decide (w < 0))) || (decide ((l.length:Int)≤w))) || (decide (v = w)))) g'4_35 ?_
 refine zT 3 (fun fr' k'=>h = k'∧fr' 39 = .b ((((((decide (v < 0)) || (decide ((l.length:Int)≤v))) || (decide (w < 0))) || (decide ((l.length:Int)≤w))) || (decide (v = w))) || (decide (d < 0)))∧fr' 0 = v_l∧fr' 1 = .n v∧fr' 2 = .n d∧fr' 3 = .n w∧fr' 4 = .n o) ?_ ?_
 ·rcases bc (((((decide (v < 0)) || (decide ((l.length:Int)≤v))) || (decide (w < 0))) || (decide ((l.length:Int)≤w))) || (decide (v = w))) with b'5 | b'5
  ·skip
   refine Zr rfl b'5 (Zr rfl b'5 (Ze (zb (t:=(((((decide (v < 0)) || (decide ((l.length:Int)≤v))) || (decide (w < 0))) || (decide ((l.length:Int)≤w))) || (decide (v = w)))) (v:=.b ((((((decide (v < 0)) || (decide ((l.length:Int)≤v))) || (decide (w < 0))) || (decide ((l.length:Int)≤w))) || (decide (v = w))) || (decide (d < 0)))) rfl b'5 (Eq.trans (b:=V.b true) rfl (Zbx b'5))) (Zb ?_)))
   exact ⟨rfl,rfl,g'4_0,g'4_1,g'4_2,g'4_3,g'4_4⟩
  ·skip
   refine Z9 rfl b'5 (Zd (.n d) g'4_2 (Z9 rfl b'5 (Ze (zJ (a:=d) (b:=0) rfl rfl) (Ze (ZU (t:=(((((decide (v < 0)) || (decide ((l.length:Int)≤v))) || (decide (w < 0))) || (decide ((l.length:Int)≤w))) || (decide (v = w)))) (v:=.b ((((((decide (v < 0)) || (decide ((l.length:Int)≤v))) || (decide (w < 0))) || (decide ((l.length:Int)≤w))) || (decide (v = w))) || (decide (d < 0)))) rfl b'5 (Eq.trans (b:=V.b (decide (d < 0))) rfl (ZbA b'5))) (Zb ?_)))))
   exact ⟨rfl,rfl,g'4_0,g'4_1,g'4_2,g'4_3,g'4_4⟩
 rintro frg'5 _ ⟨rfl,g'5_39,g'5_0,g'5_1,g'5_2,g'5_3,g'5_4⟩
 refine Zd (.b ((((((decide (v < 0)) || (decide ((l.length:Int)≤v))) || (decide (w < 0))) || (decide ((l.length:Int)≤w))) || (decide (v = w))) || (decide (d < 0)))) g'5_39 ?_
 refine zT 3 (fun fr' k'=>h = k'∧fr' 43 = .b (((((((decide (v < 0)) || (decide ((l.length:Int)≤v))) || (decide (w < 0))) || (decide ((l.length:Int)≤w))) || (decide (v = w))) || (decide (d < 0))) || (decide (3 < d)))∧fr' 0 = v_l∧fr' 1 = .n v∧fr' 2 = .n d∧fr' 3 = .n w∧fr' 4 = .n o) ?_ ?_
 ·rcases bc ((((((decide (v < 0)) || (decide ((l.length:Int)≤v))) || (decide (w < 0))) || (decide ((l.length:Int)≤w))) || (decide (v = w))) || (decide (d < 0))) with b'6 | b'6
  ·skip
   refine Zr rfl b'6 (Zr rfl b'6 (Ze (zb (t:=((((((decide (v < 0)) || (decide ((l.length:Int)≤v))) || (decide (w < 0))) || (decide ((l.length:Int)≤w))) || (decide (v = w))) || (decide (d < 0)))) (v:=.b (((((((decide (v < 0)) || (decide ((l.length:Int)≤v))) || (decide (w < 0))) || (decide ((l.length:Int)≤w))) || (decide (v = w))) || (decide (d < 0))) || (decide (3 < d)))) rfl b'6 (Eq.trans (b:=V.b true) rfl (Zbx b'6))) (Zb ?_)))
   exact ⟨rfl,rfl,g'5_0,g'5_1,g'5_2,g'5_3,g'5_4⟩
  ·skip
   refine Z9 rfl b'6 (Zd (.n d) g'5_2 (Z9 rfl b'6 (Ze (Zdd (a:=d) (b:=3) rfl rfl) (Ze (ZU (t:=((((((decide (v < 0)) || (decide ((l.length:Int)≤v))) || (decide (w < 0))) || (decide ((l.length:Int)≤w))) || (decide (v = w))) || (decide (d < 0)))) (v:=.b (((((((decide (v < 0)) || (decide ((l.length:Int)≤v))) || (decide (w < 0))) || (decide ((l.length:Int)≤w))) || (decide (v = w))) || (decide (d < 0))) || (decide (3 < d)))) rfl b'6 (Eq.trans (b:=V.b (decide (3 < d))) rfl (ZbA b'6))) (Zb ?_)))))
   exact ⟨rfl,rfl,g'5_0,g'5_1,g'5_2,g'5_3,g'5_4⟩
 rintro frg'6 _ ⟨rfl,g'6_43,g'6_0,g'6_1,g'6_2,g'6_3,g'6_4⟩
 refine Zd (.b (((((((decide (v < 0)) || (decide ((l.length:Int)≤v))) || (decide (w < 0))) || (decide ((l.length:Int)≤w))) || (decide (v = w))) || (decide (d < 0))) || (decide (3 < d)))) g'6_43 ?_
 refine zT 3 (fun fr' k'=>h = k'∧fr' 47 = .b ((((((((decide (v < 0)) || (decide ((l.length:Int)≤v))) || (decide (w < 0))) || (decide ((l.length:Int)≤w))) || (decide (v = w))) || (decide (d < 0))) || (decide (3 < d))) || (decide (o < (-2))))∧fr' 0 = v_l∧fr' 1 = .n v∧fr' 2 = .n d∧fr' 3 = .n w∧fr' 4 = .n o) ?_ ?_
 ·rcases bc (((((((decide (v < 0)) || (decide ((l.length:Int)≤v))) || (decide (w < 0))) || (decide ((l.length:Int)≤w))) || (decide (v = w))) || (decide (d < 0))) || (decide (3 < d))) with b'7 | b'7
  ·skip
   refine Zr rfl b'7 (Zr rfl b'7 (Ze (zb (t:=(((((((decide (v < 0)) || (decide ((l.length:Int)≤v))) || (decide (w < 0))) || (decide ((l.length:Int)≤w))) || (decide (v = w))) || (decide (d < 0))) || (decide (3 < d)))) (v:=.b ((((((((decide (v < 0)) || (decide ((l.length:Int)≤v))) || (decide (w < 0))) || (decide ((l.length:Int)≤w))) || (decide (v = w))) || (decide (d < 0))) || (decide (3 < d))) || (decide (o < (-2))))) rfl b'7 (Eq.trans (b:=V.b true) rfl (Zbx b'7))) (Zb ?_)))
   exact ⟨rfl,rfl,g'6_0,g'6_1,g'6_2,g'6_3,g'6_4⟩
  ·skip
   refine Z9 rfl b'7 (Zd (.n o) g'6_4 (Z9 rfl b'7 (Ze (zJ (a:=o) (b:=(-2)) rfl rfl) (Ze (ZU (t:=(((((((decide (v < 0)) || (decide ((l.length:Int)≤v))) || (decide (w < 0))) || (decide ((l.length:Int)≤w))) || (decide (v = w))) || (decide (d < 0))) || (decide (3 < d)))) (v:=.b ((((((((decide (v < 0)) || (decide ((l.length:Int)≤v))) || (decide (w < 0))) || (decide ((l.length:Int)≤w))) || (decide (v = w))) || (decide (d < 0))) || (decide (3 < d))) || (decide (o < (-2))))) rfl b'7 (Eq.trans (b:=V.b (decide (o < (-2)))) rfl (ZbA b'7))) (Zb ?_)))))
   exact ⟨rfl,rfl,g'6_0,g'6_1,g'6_2,g'6_3,g'6_4⟩
 rintro frg'7 _ ⟨rfl,g'7_47,g'7_0,g'7_1,g'7_2,g'7_3,g'7_4⟩
 refine Zb (Za ?_)
 rcases Zt hp with ⟨b'8,hp⟩ | ⟨b'8,hp⟩
 ·refine zH (t:=((((((((decide (v < 0)) || (decide ((l.length:Int)≤v))) || (decide (w < 0))) || (decide ((l.length:Int)≤w))) || (decide (v = w))) || (decide (d < 0))) || (decide (3 < d))) || (decide (o < (-2))))) g'7_47 b'8 ?_
  refine Zf (Zl (Zd v_l g'7_0 (Zd v_l rfl (Zd (.n 2) rfl (Zb (Za (Zav ?_)))))))
  refine zI (zF (Zap (n:=10) (v:=v_l) rfl (Zap (n:=11) (v:=.n 2) rfl zk)) ?_)
  cases hp
  exact ⟨v_l,rfl,(hO.pick [0] rfl (by decide))⟩
 ·refine zG (t:=((((((((decide (v < 0)) || (decide ((l.length:Int)≤v))) || (decide (w < 0))) || (decide ((l.length:Int)≤w))) || (decide (v = w))) || (decide (d < 0))) || (decide (3 < d))) || (decide (o < (-2))))) g'7_47 b'8 ?_
  refine zM (Za (Zf (Zf (Zl (Zd v_l g'7_0 (Zd (.n v) g'7_1 (Zd (.n d) g'7_2 ?_)))))))
  obtain ⟨c'1,hp⟩:=Zg hp
  refine Ze (z3 (E:=Zh) (z:=v) (hO.sl 0 rfl) rfl rfl c'1) (Ze (ZaT (off':=0) (off2:=0) (hO.sl 0 rfl) (Zo c'1) rfl rfl) ?_)
  obtain ⟨c'2,hp⟩:=Zg hp
  refine Ze (ZaX (off:=0) (off2:=(0 + d.toNat * 1)) (z:=d) (hO.sl 0 rfl) (Zo c'1) rfl rfl c'2 rfl) (Ze (zO (w:=.n (((gi l v.toNat).Next).get d)) (hO.sl 0 rfl) rfl (Zo c'1) (Zaj c'2)) (Ze (ZbL (a:=(((gi l v.toNat).Next).get d)) (b:=(-1)) rfl rfl) (Zd (.b (!(decide (((gi l v.toNat).Next).get d = (-1))))) rfl ?_)))
  obtain ⟨t,hv'1,hp⟩:=Zp hp
  refine zT 11 (fun fr' k'=>h = k'∧fr' 68 = .b t∧fr' 0 = v_l∧fr' 1 = .n v∧fr' 2 = .n d∧fr' 3 = .n w∧fr' 4 = .n o) ?_ ?_
  ·clear hp; rcases Zt hv'1 with ⟨b'9,hp⟩ | ⟨b'9,hp⟩
   ·skip
    refine Zr rfl b'9 (Zr rfl b'9 (Zr rfl b'9 (Zr rfl b'9 (Zr rfl b'9 (Zr rfl b'9 (Zr rfl b'9 (Zr rfl b'9 ?_)))))))
    refine Zr rfl b'9 (Zr rfl b'9 (Ze (zb (t:=(!(decide (((gi l v.toNat).Next).get d = (-1))))) (v:=.b t) rfl b'9 (Eq.trans (b:=V.b true) rfl (congrArg V.b (Option.some.inj hp)))) (Zb ?_)))
    exact ⟨rfl,rfl,g'7_0,g'7_1,g'7_2,g'7_3,g'7_4⟩
   ·skip
    refine Z9 rfl b'9 (Zd v_l g'7_0 (Z9 rfl b'9 (Zd (.n w) g'7_3 (Z9 rfl b'9 (Zd (.n d) g'7_2 (Z9 rfl b'9 ?_))))))
    obtain ⟨c'3,hp⟩:=Zg hp
    refine Ze (zu (a:=d) (b:=2) rfl rfl c'3) (Z9 rfl b'9 (Ze (ZbJ (a:=(d + 2)) (b:=4) rfl rfl (by decide)) (Z9 rfl b'9 ?_)))
    obtain ⟨c'4,hp⟩:=Zg hp
    refine Ze (z3 (E:=Zh) (z:=w) (hO.sl 0 rfl) rfl rfl c'4) (Z9 rfl b'9 (Ze (ZaT (off':=0) (off2:=0) (hO.sl 0 rfl) (Zo c'4) rfl rfl) (Z9 rfl b'9 ?_)))
    obtain ⟨c'5,hp⟩:=Zg hp
    refine Ze (ZaX (off:=0) (off2:=(0 + ((d + 2).tmod 4:Int).toNat * 1)) (z:=((d + 2).tmod 4)) (hO.sl 0 rfl) (Zo c'4) rfl rfl c'5 rfl) (Z9 rfl b'9 (Ze (zO (w:=.n (((gi l w.toNat).Next).get ((d + 2).tmod 4))) (hO.sl 0 rfl) rfl (Zo c'4) (Zaj c'5)) (Z9 rfl b'9 (Ze (ZbL (a:=(((gi l w.toNat).Next).get ((d + 2).tmod 4))) (b:=(-1)) rfl rfl) (Ze (ZU (t:=(!(decide (((gi l v.toNat).Next).get d = (-1))))) (v:=.b t) rfl b'9 (Eq.trans (b:=V.b (!(decide (((gi l w.toNat).Next).get ((d + 2).tmod 4) = (-1))))) rfl (congrArg V.b (Option.some.inj hp)))) (Zb ?_))))))
    exact ⟨rfl,rfl,g'7_0,g'7_1,g'7_2,g'7_3,g'7_4⟩
  rintro frg'8 _ ⟨rfl,g'8_68,g'8_0,g'8_1,g'8_2,g'8_3,g'8_4⟩
  refine Zb (Za ?_)
  rcases Zt hp with ⟨b'10,hp⟩ | ⟨b'10,hp⟩
  ·refine zH (t:=t) g'8_68 b'10 ?_
   refine Zf (Zl (Zd v_l g'8_0 (Zd v_l rfl (Zd (.n 9) rfl (Zb (Za (Zav ?_)))))))
   refine zI (zF (Zap (n:=10) (v:=v_l) rfl (Zap (n:=11) (v:=.n 9) rfl zk)) ?_)
   cases hp
   exact ⟨v_l,rfl,(hO.pick [0] rfl (by decide))⟩
  ·refine zG (t:=t) g'8_68 b'10 ?_
   refine zM (Za (Zf (Zl (Zd v_l g'8_0 (Zd (.n v) g'8_1 (Zd (.n d) g'8_2 (Zd (.n w) g'8_3 ?_)))))))
   refine Zd (.n o) g'8_4 ?_
   obtain ⟨x,hx'1,hp⟩:=Zp hp
   obtain ⟨u'1,k'1,ca'1,v'2,rfl,hW'1⟩:=Zak.ok (h:=h)  (hO.sl 0 rfl) hx'1
   refine Za8 (id:=65) (caps:=[]) rfl (Zx (v:=v_l) rfl (Zx (v:=.n v) rfl (Zx (v:=.n d) rfl (Zx (v:=.n w) rfl (Zx (v:=.n o) rfl zo))))) ca'1 ?_
   have hO'1:=hO.call hW'1 rfl
   refine Zd v'2 rfl (Zb (Za (Zf (Zl (Zd v'2 rfl (Zd v'2 rfl (Zd (.n 0) rfl ?_)))))))
   refine Zb (Za (Zav (zF (Zap (n:=10) (v:=v'2) rfl (Zap (n:=11) (v:=.n 0) rfl zk)) ?_)))
   cases hp
   exact ⟨v'2,rfl,(hO'1.pick [1] rfl (by decide))⟩

theorem ZaW.ok {h:Hp}    {r:(List Zc)} (hp:ZaW  = some r) :
  ∃ u k',Is G 196 [] h u k'∧∃ (v'1:V),v'1 = u∧Own (fun r=>r < h.n) h k' [eSl Zh v'1 r]:=by
 refine WC.is (ZaQ Zcq ?_)
 unfold ZaW at hp
 let B:Nat→Prop:=(fun r=>r < h.n)
 have hO:Own B h h []:=Own.start0 h
 refine Zf (Zl (Zd (.sn) rfl (Zb (Za (Zf (Zl ?_))))))
 obtain ⟨x,hx'1,hp⟩:=Zp hp
 obtain ⟨u'1,k'1,ca'1,v'2,rfl,hW'1⟩:=ZJ.ok (h:=h)   hx'1
 refine Za8 (id:=46) (caps:=[]) rfl (Zx (v:=.n 4) rfl zo) ca'1 ?_
 have hO'1:=hO.call hW'1 rfl
 refine Zd v'2 rfl (Zb (Za (Zf (Zl (Zd v'2 rfl ?_)))))
 obtain ⟨⟨x1,x2⟩,hx'2,hp⟩:=Zp hp
 obtain ⟨u'2,k'2,ca'2,v'3,rfl,hW'2⟩:=zx.ok (h:=k'1) (l:=x) (v:=0) (d:=0) (w:=1) (o:=0) (hO'1.toM [0] rfl (by decide))  hx'2
 refine Za8 (id:=53) (caps:=[]) rfl (Zx (v:=v'2) rfl (Zx (v:=.n 0) rfl (Zx (v:=.n 0) rfl (Zx (v:=.n 1) rfl (Zx (v:=.n 0) rfl zo))))) ca'2 ?_
 have hO'2:=(hO'1.callM [0] [] rfl rfl (by decide) hW'2 rfl).pick [900,0] rfl (by decide)
 refine Zd (.tu [v'3,.n x2]) rfl (Ze (Zbn (vs:=[v'3,.n x2]) (v:=v'3) rfl rfl) (Ze (Zbn (vs:=[v'3,.n x2]) (v:=.n x2) rfl rfl) (Zd v'3 rfl (Zb (Za (Zf (Zl ?_)))))))
 refine Zd v'3 rfl ?_
 obtain ⟨⟨x3,x4⟩,hx'3,hp⟩:=Zp hp
 obtain ⟨u'3,k'3,ca'3,v'4,rfl,hW'3⟩:=zx.ok (h:=k'2) (l:=x1) (v:=1) (d:=1) (w:=2) (o:=0) (hO'2.toM [1] rfl (by decide))  hx'3
 refine Za8 (id:=53) (caps:=[]) rfl (Zx (v:=v'3) rfl (Zx (v:=.n 1) rfl (Zx (v:=.n 1) rfl (Zx (v:=.n 2) rfl (Zx (v:=.n 0) rfl zo))))) ca'3 ?_
 have hO'3:=(hO'2.callM [1] [] rfl rfl (by decide) hW'3 rfl).pick [900,901,0] rfl (by decide)
 refine Zd (.tu [v'4,.n x4]) rfl (Ze (Zbn (vs:=[v'4,.n x4]) (v:=v'4) rfl rfl) (Ze (Zbn (vs:=[v'4,.n x4]) (v:=.n x4) rfl rfl) (Zd v'4 rfl (Zb (Za (Zf (Zl ?_)))))))
 refine Zd v'4 rfl ?_
 obtain ⟨⟨x5,x6⟩,hx'4,hp⟩:=Zp hp
 obtain ⟨u'4,k'4,ca'4,v'5,rfl,hW'4⟩:=zx.ok (h:=k'3) (l:=x3) (v:=2) (d:=2) (w:=3) (o:=0) (hO'3.toM [2] rfl (by decide))  hx'4
 refine Za8 (id:=53) (caps:=[]) rfl (Zx (v:=v'4) rfl (Zx (v:=.n 2) rfl (Zx (v:=.n 2) rfl (Zx (v:=.n 3) rfl (Zx (v:=.n 0) rfl zo))))) ca'4 ?_
 have hO'4:=(hO'3.callM [2] [] rfl rfl (by decide) hW'4 rfl).pick [900,901,902,0] rfl (by decide)
 refine Zd (.tu [v'5,.n x6]) rfl (Ze (Zbn (vs:=[v'5,.n x6]) (v:=v'5) rfl rfl) (Ze (Zbn (vs:=[v'5,.n x6]) (v:=.n x6) rfl rfl) (Zd v'5 rfl (Zb (Za (Zf (Zl ?_)))))))
 refine Zd v'5 rfl ?_
 obtain ⟨⟨x7,x8⟩,hx'5,hp⟩:=Zp hp
 obtain ⟨u'5,k'5,ca'5,v'6,rfl,hW'5⟩:=zx.ok (h:=k'4) (l:=x5) (v:=3) (d:=3) (w:=0) (o:=0) (hO'4.toM [3] rfl (by decide))  hx'5
 refine Za8 (id:=53) (caps:=[]) rfl (Zx (v:=v'5) rfl (Zx (v:=.n 3) rfl (Zx (v:=.n 3) rfl (Zx (v:=.n 0) rfl (Zx (v:=.n 0) rfl zo))))) ca'5 ?_
 have hO'5:=(hO'4.callM [3] [] rfl rfl (by decide) hW'5 rfl).pick [900,901,902,903,0] rfl (by decide)
 refine Zd (.tu [v'6,.n x8]) rfl (Ze (Zbn (vs:=[v'6,.n x8]) (v:=v'6) rfl rfl) (Ze (Zbn (vs:=[v'6,.n x8]) (v:=.n x8) rfl rfl) (Zd v'6 rfl (Zb (Za (Zf (Zl ?_)))))))
 refine Zd v'6 rfl (Zd v'6 rfl (Zb (Za (Zav (zF (Zap (n:=0) (v:=v'6) rfl zk) ?_)))))
 cases hp
 exact ⟨v'6,rfl,(hO'5.pick [4] rfl (by decide))⟩

theorem ZaN.ok {h:Hp} {d:Int}   {r:Bool} (hp:ZaN d = some r) :
  ∃ u k',Is G 90 [.n d] h u k'∧V.b r = u∧Own (fun r=>r < h.n) h k' []:=by
 refine WC.is (ZaQ Zd5 ?_)
 unfold ZaN at hp
 let B:Nat→Prop:=(fun r=>r < h.n)
 have hO:Own B h h []:=Own.start0 h
 refine Zf (Zl (Zd (.b false) rfl (Zb (Za (Zf (Zl (Zd (.n d) rfl ?_)))))))
 refine Ze (Zcl (a:=d) (b:=0) rfl rfl) (Zd (.b (decide (0≤d))) rfl ?_)
 refine zT 3 (fun fr' k'=>h = k'∧fr' 8 = .b ((decide (0≤d)) && (decide (d≤3)))) ?_ ?_
 ·rcases bc (decide (0≤d)) with b'1 | b'1
  ·skip
   refine Z9 rfl b'1 (Zd (.n d) rfl (Z9 rfl b'1 (Ze (Zh3 (a:=d) (b:=3) rfl rfl) (Ze (zb (t:=(decide (0≤d))) (v:=.b ((decide (0≤d)) && (decide (d≤3)))) rfl b'1 (Eq.trans (b:=V.b (decide (d≤3))) rfl (Zb8 b'1))) (Zb ?_)))))
   exact ⟨rfl,rfl⟩
  ·skip
   refine Zr rfl b'1 (Zr rfl b'1 (Ze (ZU (t:=(decide (0≤d))) (v:=.b ((decide (0≤d)) && (decide (d≤3)))) rfl b'1 (Eq.trans (b:=V.b false) rfl (Zby b'1))) (Zb ?_)))
   exact ⟨rfl,rfl⟩
 rintro frg'1 _ ⟨rfl,g'1_8⟩
 refine Zd (.b ((decide (0≤d)) && (decide (d≤3)))) g'1_8 (Zb (Za (Zav (zF (Zap (n:=2) (v:=.b ((decide (0≤d)) && (decide (d≤3)))) rfl zk) ?_))))
 cases hp
 exact ⟨rfl,(hO.pick [] rfl (by decide))⟩

theorem Zbd.ok {h:Hp} {d:Int} {times:Int}   {r:Int} (hp:Zbd d times = some r) :
  ∃ u k',Is G 77 [.n d,.n times] h u k'∧V.n r = u∧Own (fun r=>r < h.n) h k' []:=by
 refine WC.is (ZaQ Zd6 ?_)
 unfold Zbd at hp
 let B:Nat→Prop:=(fun r=>r < h.n)
 have hO:Own B h h []:=Own.start0 h
 refine Zf (Zl (Zd (.n 0) rfl (Zb (Za (Zf (Zf (Zl ?_)))))))
 refine Zd (.n d) rfl ?_
 obtain ⟨x,hx'1,hp⟩:=Zp hp
 obtain ⟨u'1,k'1,ca'1,rfl,hW'1⟩:=ZaN.ok (h:=h)   hx'1
 refine Za8 (id:=90) (caps:=[]) rfl (Zx (v:=.n d) rfl zo) ca'1 ?_
 have hO'1:=hO.call hW'1 rfl
 refine Ze (Zcb (t:=x) rfl) (Zb (Za ?_))
 rcases Zt hp with ⟨b'1,hp⟩ | ⟨b'1,hp⟩
 ·refine zH (t:=(!x)) rfl b'1 ?_
  refine Zf (Zl (Zd (.n 0) rfl (Zb (Za (Zav (zI (zF (Zap (n:=4) (v:=.n 0) rfl zk) ?_)))))))
  cases hp
  exact ⟨rfl,(hO'1.pick [] rfl (by decide))⟩
 ·refine zG (t:=(!x)) rfl b'1 ?_
  refine zM (Za (Zf (Zl (Zd (.n d) rfl (Zd (.n times) rfl (Ze (ZbJ (a:=times) (b:=4) rfl rfl (by decide)) ?_))))))
  obtain ⟨c'1,hp⟩:=Zg hp
  refine Ze (zu (a:=d) (b:=(times.tmod 4)) rfl rfl c'1) ?_
  obtain ⟨c'2,hp⟩:=Zg hp
  refine Ze (zu (a:=(d + (times.tmod 4))) (b:=4) rfl rfl c'2) (Ze (ZbJ (a:=((d + (times.tmod 4)) + 4)) (b:=4) rfl rfl (by decide)) (Zd (.n (((d + (times.tmod 4)) + 4).tmod 4)) rfl (Zb (Za (Zav (zF (Zap (n:=4) (v:=.n (((d + (times.tmod 4)) + 4).tmod 4)) rfl zk) ?_))))))
  cases hp
  exact ⟨rfl,(hO'1.pick [] rfl (by decide))⟩

theorem ZbT.ok {h:Hp} {cells:List Zc} {v:Int} {d:Int} {v_cells:V} (s_cells:Sl Zh h v_cells cells) {r:Int} (hp:ZbT cells v d = some r) :
  ∃ u k',Is G 82 [v_cells,.n v,.n d] h u k'∧V.n r = u∧Own (fun r=>r < h.n) h k' []:=by
 refine WC.is (ZaQ Zep ?_)
 unfold ZbT at hp
 let B:Nat→Prop:=(fun r=>r < h.n)
 have hO:Own B h h []:=Own.start0 h
 refine Zf (Zl (Zd (.n 0) rfl (Zb (Za (Zf (Zgs ?_))))))
 have hW:=hO.bump 16
 have hO'1:=hW
 refine Za7 v_cells rfl (Za7 (.n v) rfl (Za7 (.n d) rfl ?_))
 obtain ⟨c'1,hp⟩:=Zg hp
 refine zm rfl (z3 (E:=Zh) (z:=v) (hO'1.rd0 s_cells.rd) rfl rfl c'1) (zm rfl (ZaT (off':=0) (off2:=0) (hO'1.rd0 s_cells.rd) (Zo c'1) rfl rfl) ?_)
 obtain ⟨c'2,hp⟩:=Zg hp
 refine zm rfl (ZaX (off:=0) (off2:=(0 + d.toNat * 1)) (z:=d) (hO'1.rd0 s_cells.rd) (Zo c'1) rfl rfl c'2 rfl) (zm rfl (zO (w:=.n (((gi cells v.toNat).Next).get d)) (hO'1.rd0 s_cells.rd) rfl (Zo c'1) (Zaj c'2)) (Za7 v_cells rfl (Za7 (.n v) rfl (Za7 (.n d) rfl (zm rfl (z3 (E:=Zh) (z:=v) (hO'1.rd0 s_cells.rd) rfl rfl c'1) (zm rfl (ZaT (off':=0) (off2:=4) (hO'1.rd0 s_cells.rd) (Zo c'1) rfl rfl) (zm rfl (ZaX (off:=4) (off2:=(4 + d.toNat * 1)) (z:=d) (hO'1.rd0 s_cells.rd) (Zo c'1) rfl rfl c'2 rfl) ?_)))))))
 refine zm rfl (zO (w:=.n (((gi cells v.toNat).Owner).get d)) (hO'1.rd0 s_cells.rd) rfl (Zo c'1) (ZbC c'2)) (Za7 (.n (((gi cells v.toNat).Next).get d)) rfl (Za7 (.n (((gi cells v.toNat).Owner).get d)) rfl (Za4 (Za (Zf (Zf (Zl ?_)))))))
 refine Zd (.n (((gi cells v.toNat).Next).get d)) rfl (Ze (ZaS (a:=(((gi cells v.toNat).Next).get d)) (b:=(-1)) rfl rfl) (Zb (Za ?_)))
 rcases Zt hp with ⟨b'1,hp⟩ | ⟨b'1,hp⟩
 ·refine zH (t:=(decide (((gi cells v.toNat).Next).get d = (-1)))) rfl b'1 ?_
  refine Zf (Zf (Zl (Zd (.n (((gi cells v.toNat).Owner).get d)) rfl (Ze (ZbL (a:=(((gi cells v.toNat).Owner).get d)) (b:=0) rfl rfl) (Zb (Za ?_))))))
  rcases Zt hp with ⟨b'2,hp⟩ | ⟨b'2,hp⟩
  ·refine zH (t:=(!(decide (((gi cells v.toNat).Owner).get d = 0)))) rfl b'2 ?_
   refine Zf (Zl (Zd (.n 9) rfl (Zb (Za (Zav (zI (zI ?_)))))))
   refine zF (Zap (n:=6) (v:=.n 9) rfl zk) ?_
   cases hp
   exact ⟨rfl,(hO'1.pick [] rfl (by decide))⟩
  ·refine zG (t:=(!(decide (((gi cells v.toNat).Owner).get d = 0)))) rfl b'2 ?_
   refine zM (Za (Zf (Zl (Zd (.n 0) rfl (Zb (Za (Zav ?_)))))))
   refine zI (zF (Zap (n:=6) (v:=.n 0) rfl zk) ?_)
   cases hp
   exact ⟨rfl,(hO'1.pick [] rfl (by decide))⟩
 ·refine zG (t:=(decide (((gi cells v.toNat).Next).get d = (-1)))) rfl b'1 ?_
  refine zM (Za (Zf (Zf (Zl (Zd (.n (((gi cells v.toNat).Next).get d)) rfl (Ze (zJ (a:=(((gi cells v.toNat).Next).get d)) (b:=0) rfl rfl) (Zd (.b (decide ((((gi cells v.toNat).Next).get d) < 0))) rfl ?_)))))))
  refine zT 5 (fun fr' k'=>(h.bump 16) = k'∧fr' 35 = .b ((decide ((((gi cells v.toNat).Next).get d) < 0)) || (decide ((cells.length:Int)≤(((gi cells v.toNat).Next).get d))))∧fr' 0 = v_cells∧fr' 1 = .n v∧fr' 2 = .n d∧fr' 7 = .n (((gi cells v.toNat).Next).get d)∧fr' 8 = .n (((gi cells v.toNat).Owner).get d)) ?_ ?_
  ·rcases bc (decide ((((gi cells v.toNat).Next).get d) < 0)) with b'3 | b'3
   ·skip
    refine Zr rfl b'3 (Zr rfl b'3 (Zr rfl b'3 (Zr rfl b'3 (Ze (zb (t:=(decide ((((gi cells v.toNat).Next).get d) < 0))) (v:=.b ((decide ((((gi cells v.toNat).Next).get d) < 0)) || (decide ((cells.length:Int)≤(((gi cells v.toNat).Next).get d))))) rfl b'3 (Eq.trans (b:=V.b true) rfl (Zbx b'3))) (Zb ?_)))))
    exact ⟨rfl,rfl,rfl,rfl,rfl,rfl,rfl⟩
   ·skip
    refine Z9 rfl b'3 (Zd (.n (((gi cells v.toNat).Next).get d)) rfl (Z9 rfl b'3 (Zd v_cells rfl (Z9 rfl b'3 (Ze (Zao (hO'1.rd0 s_cells.rd) rfl) (Z9 rfl b'3 (Ze (Zcl (a:=(((gi cells v.toNat).Next).get d)) (b:=(cells.length:Int)) rfl rfl) ?_)))))))
    refine Ze (ZU (t:=(decide ((((gi cells v.toNat).Next).get d) < 0))) (v:=.b ((decide ((((gi cells v.toNat).Next).get d) < 0)) || (decide ((cells.length:Int)≤(((gi cells v.toNat).Next).get d))))) rfl b'3 (Eq.trans (b:=V.b (decide ((cells.length:Int)≤(((gi cells v.toNat).Next).get d)))) rfl (ZbA b'3))) (Zb ?_)
    exact ⟨rfl,rfl,rfl,rfl,rfl,rfl,rfl⟩
  rintro frg'1 _ ⟨rfl,g'1_35,g'1_0,g'1_1,g'1_2,g'1_7,g'1_8⟩
  refine Zd (.b ((decide ((((gi cells v.toNat).Next).get d) < 0)) || (decide ((cells.length:Int)≤(((gi cells v.toNat).Next).get d))))) g'1_35 ?_
  refine zT 4 (fun fr' k'=>(h.bump 16) = k'∧fr' 40 = .b (((decide ((((gi cells v.toNat).Next).get d) < 0)) || (decide ((cells.length:Int)≤(((gi cells v.toNat).Next).get d)))) || (decide (((gi cells v.toNat).Next).get d = v)))∧fr' 0 = v_cells∧fr' 1 = .n v∧fr' 2 = .n d∧fr' 7 = .n (((gi cells v.toNat).Next).get d)∧fr' 8 = .n (((gi cells v.toNat).Owner).get d)) ?_ ?_
  ·rcases bc ((decide ((((gi cells v.toNat).Next).get d) < 0)) || (decide ((cells.length:Int)≤(((gi cells v.toNat).Next).get d)))) with b'4 | b'4
   ·skip
    refine Zr rfl b'4 (Zr rfl b'4 (Zr rfl b'4 (Ze (zb (t:=((decide ((((gi cells v.toNat).Next).get d) < 0)) || (decide ((cells.length:Int)≤(((gi cells v.toNat).Next).get d))))) (v:=.b (((decide ((((gi cells v.toNat).Next).get d) < 0)) || (decide ((cells.length:Int)≤(((gi cells v.toNat).Next).get d)))) || (decide (((gi cells v.toNat).Next).get d = v)))) rfl b'4 (Eq.trans (b:=V.b true) rfl (Zbx b'4))) (Zb ?_))))
    exact ⟨rfl,rfl,g'1_0,g'1_1,g'1_2,g'1_7,g'1_8⟩
   ·skip
    refine Z9 rfl b'4 (Zd (.n (((gi cells v.toNat).Next).get d)) g'1_7 (Z9 rfl b'4 (Zd (.n v) g'1_1 (Z9 rfl b'4 (Ze (ZaS (a:=(((gi cells v.toNat).Next).get d)) (b:=v) rfl rfl) (Ze (ZU (t:=((decide ((((gi cells v.toNat).Next).get d) < 0)) || (decide ((cells.length:Int)≤(((gi cells v.toNat).Next).get d))))) (v:=.b (((decide ((((gi cells v.toNat).Next).get d) < 0)) || (decide ((cells.length:Int)≤(((gi cells v.toNat).Next).get d)))) || (decide (((gi cells v.toNat).Next).get d = v)))) rfl b'4 (Eq.trans (b:=V.b (decide (((gi cells v.toNat).Next).get d = v))) rfl (ZbA b'4))) (Zb ?_)))))))
    exact ⟨rfl,rfl,g'1_0,g'1_1,g'1_2,g'1_7,g'1_8⟩
  rintro frg'2 _ ⟨rfl,g'2_40,g'2_0,g'2_1,g'2_2,g'2_7,g'2_8⟩
  refine Zb (Za ?_)
  rcases Zt hp with ⟨b'5,hp⟩ | ⟨b'5,hp⟩
  ·refine zH (t:=(((decide ((((gi cells v.toNat).Next).get d) < 0)) || (decide ((cells.length:Int)≤(((gi cells v.toNat).Next).get d)))) || (decide (((gi cells v.toNat).Next).get d = v)))) g'2_40 b'5 ?_
   refine Zf (Zl (Zd (.n 3) rfl (Zb (Za (Zav (zI (zF (Zap (n:=6) (v:=.n 3) rfl zk) ?_)))))))
   cases hp
   exact ⟨rfl,(hO'1.pick [] rfl (by decide))⟩
  ·refine zG (t:=(((decide ((((gi cells v.toNat).Next).get d) < 0)) || (decide ((cells.length:Int)≤(((gi cells v.toNat).Next).get d)))) || (decide (((gi cells v.toNat).Next).get d = v)))) g'2_40 b'5 ?_
   refine zM (Za (Zf (Zl (Zd (.n d) g'2_2 ?_))))
   obtain ⟨x,hx'1,hp⟩:=Zp hp
   obtain ⟨u'1,k'2,ca'1,rfl,hW'1⟩:=Zbd.ok (h:=(h.bump 16))   hx'1
   refine Za8 (id:=77) (caps:=[]) rfl (Zx (v:=.n d) rfl (Zx (v:=.n 2) rfl zo)) ca'1 ?_
   have hO'2:=hO'1.call hW'1 rfl
   refine Zd (.n x) rfl (Zb (Za (Zf (Zf (Zl (Zd v_cells g'2_0 (Zd (.n (((gi cells v.toNat).Next).get d)) g'2_7 ?_)))))))
   refine Zd (.n x) rfl ?_
   obtain ⟨c'3,hp⟩:=Zg hp
   refine Ze (z3 (E:=Zh) (z:=(((gi cells v.toNat).Next).get d)) (hO'2.rd0 s_cells.rd) rfl rfl c'3) (Ze (ZaT (off':=0) (off2:=0) (hO'2.rd0 s_cells.rd) (Zo c'3) rfl rfl) ?_)
   obtain ⟨c'4,hp⟩:=Zg hp
   refine Ze (ZaX (off:=0) (off2:=(0 + x.toNat * 1)) (z:=x) (hO'2.rd0 s_cells.rd) (Zo c'3) rfl rfl c'4 rfl) (Ze (zO (w:=.n (((gi cells (((gi cells v.toNat).Next).get d:Int).toNat).Next).get x)) (hO'2.rd0 s_cells.rd) rfl (Zo c'3) (Zaj c'4)) (Zd (.n v) g'2_1 (Ze (ZbL (a:=(((gi cells (((gi cells v.toNat).Next).get d:Int).toNat).Next).get x)) (b:=v) rfl rfl) (Zd (.b (!(decide (((gi cells (((gi cells v.toNat).Next).get d:Int).toNat).Next).get x = v)))) rfl ?_))))
   refine zT 10 (fun fr' k'=>k'2 = k'∧fr' 62 = .b ((!(decide (((gi cells (((gi cells v.toNat).Next).get d:Int).toNat).Next).get x = v))) || (!(decide (((gi cells (((gi cells v.toNat).Next).get d:Int).toNat).Owner).get x = ((gi cells v.toNat).Owner).get d))))∧fr' 8 = .n (((gi cells v.toNat).Owner).get d)) ?_ ?_
   ·rcases bc (!(decide (((gi cells (((gi cells v.toNat).Next).get d:Int).toNat).Next).get x = v))) with b'6 | b'6
    ·skip
     refine Zr rfl b'6 (Zr rfl b'6 (Zr rfl b'6 (Zr rfl b'6 (Zr rfl b'6 (Zr rfl b'6 (Zr rfl b'6 (Zr rfl b'6 ?_)))))))
     refine Zr rfl b'6 (Ze (zb (t:=(!(decide (((gi cells (((gi cells v.toNat).Next).get d:Int).toNat).Next).get x = v)))) (v:=.b ((!(decide (((gi cells (((gi cells v.toNat).Next).get d:Int).toNat).Next).get x = v))) || (!(decide (((gi cells (((gi cells v.toNat).Next).get d:Int).toNat).Owner).get x = ((gi cells v.toNat).Owner).get d))))) rfl b'6 (Eq.trans (b:=V.b true) rfl (Zbx b'6))) (Zb ?_))
     exact ⟨rfl,rfl,g'2_8⟩
    ·skip
     refine Z9 rfl b'6 (Zd v_cells g'2_0 (Z9 rfl b'6 (Zd (.n (((gi cells v.toNat).Next).get d)) g'2_7 (Z9 rfl b'6 (Zd (.n x) rfl (Z9 rfl b'6 (Ze (z3 (E:=Zh) (z:=(((gi cells v.toNat).Next).get d)) (hO'2.rd0 s_cells.rd) rfl rfl c'3) ?_)))))))
     refine Z9 rfl b'6 (Ze (ZaT (off':=0) (off2:=4) (hO'2.rd0 s_cells.rd) (Zo c'3) rfl rfl) (Z9 rfl b'6 (Ze (ZaX (off:=4) (off2:=(4 + x.toNat * 1)) (z:=x) (hO'2.rd0 s_cells.rd) (Zo c'3) rfl rfl c'4 rfl) (Z9 rfl b'6 (Ze (zO (w:=.n (((gi cells (((gi cells v.toNat).Next).get d:Int).toNat).Owner).get x)) (hO'2.rd0 s_cells.rd) rfl (Zo c'3) (ZbC c'4)) (Z9 rfl b'6 (Zd (.n (((gi cells v.toNat).Owner).get d)) g'2_8 ?_)))))))
     refine Z9 rfl b'6 (Ze (ZbL (a:=(((gi cells (((gi cells v.toNat).Next).get d:Int).toNat).Owner).get x)) (b:=(((gi cells v.toNat).Owner).get d)) rfl rfl) (Ze (ZU (t:=(!(decide (((gi cells (((gi cells v.toNat).Next).get d:Int).toNat).Next).get x = v)))) (v:=.b ((!(decide (((gi cells (((gi cells v.toNat).Next).get d:Int).toNat).Next).get x = v))) || (!(decide (((gi cells (((gi cells v.toNat).Next).get d:Int).toNat).Owner).get x = ((gi cells v.toNat).Owner).get d))))) rfl b'6 (Eq.trans (b:=V.b (!(decide (((gi cells (((gi cells v.toNat).Next).get d:Int).toNat).Owner).get x = ((gi cells v.toNat).Owner).get d)))) rfl (ZbA b'6))) (Zb ?_)))
     exact ⟨rfl,rfl,g'2_8⟩
   rintro frg'3 _ ⟨rfl,g'3_62,g'3_8⟩
   refine Zd (.b ((!(decide (((gi cells (((gi cells v.toNat).Next).get d:Int).toNat).Next).get x = v))) || (!(decide (((gi cells (((gi cells v.toNat).Next).get d:Int).toNat).Owner).get x = ((gi cells v.toNat).Owner).get d))))) g'3_62 ?_
   refine zT 3 (fun fr' k'=>k'2 = k'∧fr' 66 = .b (((!(decide (((gi cells (((gi cells v.toNat).Next).get d:Int).toNat).Next).get x = v))) || (!(decide (((gi cells (((gi cells v.toNat).Next).get d:Int).toNat).Owner).get x = ((gi cells v.toNat).Owner).get d)))) || (decide ((((gi cells v.toNat).Owner).get d) < (-2))))) ?_ ?_
   ·rcases bc ((!(decide (((gi cells (((gi cells v.toNat).Next).get d:Int).toNat).Next).get x = v))) || (!(decide (((gi cells (((gi cells v.toNat).Next).get d:Int).toNat).Owner).get x = ((gi cells v.toNat).Owner).get d)))) with b'7 | b'7
    ·skip
     refine Zr rfl b'7 (Zr rfl b'7 (Ze (zb (t:=((!(decide (((gi cells (((gi cells v.toNat).Next).get d:Int).toNat).Next).get x = v))) || (!(decide (((gi cells (((gi cells v.toNat).Next).get d:Int).toNat).Owner).get x = ((gi cells v.toNat).Owner).get d))))) (v:=.b (((!(decide (((gi cells (((gi cells v.toNat).Next).get d:Int).toNat).Next).get x = v))) || (!(decide (((gi cells (((gi cells v.toNat).Next).get d:Int).toNat).Owner).get x = ((gi cells v.toNat).Owner).get d)))) || (decide ((((gi cells v.toNat).Owner).get d) < (-2))))) rfl b'7 (Eq.trans (b:=V.b true) rfl (Zbx b'7))) (Zb ?_)))
     exact ⟨rfl,rfl⟩
    ·skip
     refine Z9 rfl b'7 (Zd (.n (((gi cells v.toNat).Owner).get d)) g'3_8 (Z9 rfl b'7 (Ze (zJ (a:=(((gi cells v.toNat).Owner).get d)) (b:=(-2)) rfl rfl) (Ze (ZU (t:=((!(decide (((gi cells (((gi cells v.toNat).Next).get d:Int).toNat).Next).get x = v))) || (!(decide (((gi cells (((gi cells v.toNat).Next).get d:Int).toNat).Owner).get x = ((gi cells v.toNat).Owner).get d))))) (v:=.b (((!(decide (((gi cells (((gi cells v.toNat).Next).get d:Int).toNat).Next).get x = v))) || (!(decide (((gi cells (((gi cells v.toNat).Next).get d:Int).toNat).Owner).get x = ((gi cells v.toNat).Owner).get d)))) || (decide ((((gi cells v.toNat).Owner).get d) < (-2))))) rfl b'7 (Eq.trans (b:=V.b (decide ((((gi cells v.toNat).Owner).get d) < (-2)))) rfl (ZbA b'7))) (Zb ?_)))))
     exact ⟨rfl,rfl⟩
   rintro frg'4 _ ⟨rfl,g'4_66⟩
   refine Zb (Za ?_)
   rcases Zt hp with ⟨b'8,hp⟩ | ⟨b'8,hp⟩
   ·refine zH (t:=(((!(decide (((gi cells (((gi cells v.toNat).Next).get d:Int).toNat).Next).get x = v))) || (!(decide (((gi cells (((gi cells v.toNat).Next).get d:Int).toNat).Owner).get x = ((gi cells v.toNat).Owner).get d)))) || (decide ((((gi cells v.toNat).Owner).get d) < (-2))))) g'4_66 b'8 ?_
    refine Zf (Zl (Zd (.n 9) rfl (Zb (Za (Zav (zI (zF (Zap (n:=6) (v:=.n 9) rfl zk) ?_)))))))
    cases hp
    exact ⟨rfl,(hO'2.pick [] rfl (by decide))⟩
   ·refine zG (t:=(((!(decide (((gi cells (((gi cells v.toNat).Next).get d:Int).toNat).Next).get x = v))) || (!(decide (((gi cells (((gi cells v.toNat).Next).get d:Int).toNat).Owner).get x = ((gi cells v.toNat).Owner).get d)))) || (decide ((((gi cells v.toNat).Owner).get d) < (-2))))) g'4_66 b'8 ?_
    refine zM (Za (Zf (Zl (Zd (.n 0) rfl (Zb (Za (Zav ?_)))))))
    refine zF (Zap (n:=6) (v:=.n 0) rfl zk) ?_
    cases hp
    exact ⟨rfl,(hO'2.pick [] rfl (by decide))⟩

theorem zR.ok {h:Hp} {cells:List Zc} {v_cells:V} (s_cells:Sl Zh h v_cells cells) {r:Int} (hp:zR cells = some r) :
  ∃ u k',Is G 66 [v_cells] h u k'∧V.n r = u∧Own (fun r=>r < h.n) h k' []:=by
 refine WC.is (ZaQ ZdY ?_)
 unfold zR at hp
 let B:Nat→Prop:=(fun r=>r < h.n)
 have hO:Own B h h []:=Own.start0 h
 refine Zf (Zl (Zd (.n 0) rfl (Zb (Za (Zf (Zf (Zl ?_)))))))
 refine Zd v_cells rfl (Ze (Zao (hO.rd0 s_cells.rd) rfl) (Ze (Zdd (a:=(cells.length:Int)) (b:=4096) rfl rfl) (Zb (Za ?_))))
 rcases Zt hp with ⟨b'1,hp⟩ | ⟨b'1,hp⟩
 ·refine zH (t:=(decide (4096 < (cells.length:Int)))) rfl b'1 ?_
  refine Zf (Zl (Zd (.n 6) rfl (Zb (Za (Zav (zI (zF (Zap (n:=2) (v:=.n 6) rfl zk) ?_)))))))
  cases hp
  exact ⟨rfl,(hO.pick [] rfl (by decide))⟩
 ·refine zG (t:=(decide (4096 < (cells.length:Int)))) rfl b'1 ?_
  refine zM (Za (Zf (Zf (Zl (Zd v_cells rfl (Ze (Zao (hO.rd0 s_cells.rd) rfl) (Zd (.n 0) rfl ?_)))))))
  refine Zb (Za (Zae ?_))
  obtain ⟨o'1,ho'1,hp⟩:=Zp hp
  refine W.mono (Q:=fun e fr k=>match (generalizing:=false) o'1 with
    | .inl _=>e = (.exit 0)∧Own B h k []
    | .inr x1=>e = .ret∧fr 2 = .n x1∧Own B h k []) ?_ ?_
  ·clear hp
   refine zC (fun st fr k=>match st with | x=>fr 0 = v_cells∧fr 10 = .n (cells.length:Int)∧fr 11 = .n x∧Own B h k []) ho'1 (s:=0) ⟨rfl,rfl,rfl,(hO.pick [] rfl (by decide))⟩ ?_
   rintro x q'2 k'2 ⟨q'2_0,q'2_10,q'2_11,hO'2⟩ o'2 hp
   dsimp only [zR.s0] at hp
   refine Zf (Zl (Ze (zJ (a:=x) (b:=(cells.length:Int)) q'2_11 q'2_10) (Zb (Za (Zf ?_)))))
   rcases Zt hp with ⟨b'2,hp⟩ | ⟨b'2,hp⟩
   ·refine zH (t:=(decide (x < (cells.length:Int)))) rfl b'2 ?_
    refine zM (Za (Zf (Zae (Zf (Zl (Zd (.n x) q'2_11 (Zd (.n x) rfl ?_)))))))
    refine Zb (Za (Zf (Zl (Zd (.n 0) rfl (Zb (Za (Zae ?_)))))))
    obtain ⟨o'3,ho'2,hp⟩:=Zp hp
    refine W.mono (Q:=fun e fr k=>match (generalizing:=false) o'3 with
      | .inl _=>e = (.exit 2)∧fr 0 = v_cells∧fr 10 = .n (cells.length:Int)∧fr 11 = .n x∧Own B h k []
      | .inr x3=>e = .ret∧fr 2 = .n x3∧Own B h k []) ?_ ?_
    ·clear hp
     refine zC (fun st fr k=>match st with | x2=>fr 0 = v_cells∧fr 3 = .n x∧fr 10 = .n (cells.length:Int)∧fr 11 = .n x∧fr 14 = .n x2∧Own B h k []) ho'2 (s:=0) ⟨q'2_0,rfl,q'2_10,q'2_11,rfl,(hO'2.pick [] rfl (by decide))⟩ ?_
     rintro x2 q'4 k'4 ⟨q'4_0,q'4_3,q'4_10,q'4_11,q'4_14,hO'4⟩ o'4 hp
     dsimp only [zR.s1] at hp
     refine Zf (Zl (Ze (zJ (a:=x2) (b:=4) q'4_14 rfl) (Zb (Za (Zf ?_)))))
     rcases Zt hp with ⟨b'3,hp⟩ | ⟨b'3,hp⟩
     ·refine zH (t:=(decide (x2 < 4))) rfl b'3 ?_
      refine zM (Za (Zf (Zae (Zf (Zl (Zd (.n x2) q'4_14 (Zd (.n x2) rfl ?_)))))))
      refine Zb (Za (Zf (Zl (Zd v_cells q'4_0 (Zd (.n x) q'4_3 (Zd (.n x2) rfl ?_))))))
      obtain ⟨x4,hx'1,hp⟩:=Zp hp
      obtain ⟨u'1,k'5,ca'1,rfl,hW'1⟩:=ZbT.ok (h:=k'4)  (hO'4.rd0 s_cells.rd) hx'1
      refine Za8 (id:=82) (caps:=[]) rfl (Zx (v:=v_cells) rfl (Zx (v:=.n x) rfl (Zx (v:=.n x2) rfl zo))) ca'1 ?_
      have hO'5:=hO'4.call hW'1 rfl
      refine Zd (.n x4) rfl (Zb (Za (Zf (Zl (Zd (.n x4) rfl (Ze (ZbL (a:=x4) (b:=0) rfl rfl) (Zb ?_)))))))
      refine Za ?_
      rcases Zt hp with ⟨b'4,hp⟩ | ⟨b'4,hp⟩
      ·refine zH (t:=(!(decide (x4 = 0)))) rfl b'4 ?_
       refine Zf (Zl (Zd (.n x4) rfl (Zd (.n x4) rfl (Zb (Za (Zav (Zbs ?_)))))))
       refine zI ?_
       cases hp
       refine (Or.inr ⟨.inr x4,rfl,(fun h=>nomatch h),(fun he=>?_)⟩)
       subst he; exact ⟨rfl,rfl,(hO'5.pick [] rfl (by decide))⟩
      ·refine zG (t:=(!(decide (x4 = 0)))) rfl b'4 ?_
       refine zM (Zaf (Za (Zl ?_)))
       obtain ⟨c'1,hp⟩:=Zg hp
       refine Ze (zu (a:=x2) (b:=1) q'4_14 rfl c'1) (Zd (.n (x2 + 1)) rfl (Zb ?_))
       cases hp
       exact (Or.inl ⟨x2 + 1,rfl,rfl,q'4_0,q'4_3,q'4_10,q'4_11,rfl,(hO'5.pick [] rfl (by decide))⟩)
     ·refine zG (t:=(decide (x2 < 4))) rfl b'3 ?_
      refine ZaZ (zN ?_)
      cases hp
      refine (Or.inr ⟨.inl (),rfl,(fun h=>nomatch h),(fun he=>?_)⟩)
      subst he; exact ⟨rfl,q'4_0,q'4_10,q'4_11,(hO'4.pick [] rfl (by decide))⟩
    intro e'2 q'3 k'3 hJ'2
    rcases o'3 with _ | x3
    ·obtain ⟨rfl,q'3_0,q'3_10,q'3_11,hO'3⟩:=hJ'2
     refine Zax (Zaf (Za (Zl ?_)))
     obtain ⟨c'2,hp⟩:=Zg hp
     refine Ze (zu (a:=x) (b:=1) q'3_11 rfl c'2) (Zd (.n (x + 1)) rfl (Zb ?_))
     cases hp
     exact (Or.inl ⟨x + 1,rfl,rfl,q'3_0,q'3_10,rfl,(hO'3.pick [] rfl (by decide))⟩)
    ·obtain ⟨rfl,q'3_2,hO'3⟩:=hJ'2
     refine Zbs (Zbs (zI ?_))
     cases hp
     refine (Or.inr ⟨.inr x3,rfl,(fun h=>nomatch h),(fun he=>?_)⟩)
     subst he; exact ⟨rfl,q'3_2,(hO'3.pick [] rfl (by decide))⟩
   ·refine zG (t:=(decide (x < (cells.length:Int)))) rfl b'2 ?_
    refine ZaZ (zN ?_)
    cases hp
    refine (Or.inr ⟨.inl (),rfl,(fun h=>nomatch h),(fun he=>?_)⟩)
    subst he; exact ⟨rfl,(hO'2.pick [] rfl (by decide))⟩
  intro e'1 q'1 k'1 hJ'1
  rcases o'1 with _ | x1
  ·obtain ⟨rfl,hO'1⟩:=hJ'1
   refine Zax (Za (Zf (Zl (Zd (.n 0) rfl (Zb (Za (Zav ?_)))))))
   refine zF (Zap (n:=2) (v:=.n 0) rfl zk) ?_
   cases hp
   exact ⟨rfl,(hO'1.pick [] rfl (by decide))⟩
  ·obtain ⟨rfl,q'1_2,hO'1⟩:=hJ'1
   refine Zbs (zI (zF (Zap (n:=2) (v:=.n x1) q'1_2 zk) ?_))
   cases hp
   exact ⟨rfl,(hO'1.pick [] rfl (by decide))⟩

theorem Zcy.ok {h:Hp} {x:Int} {y:Int}   {r:Int × Int} (hp:Zcy x y = some r) :
  ∃ u k',Is G 98 [.i .u64 x,.i .u64 y] h u k'∧V.tu [.i .u64 r.1,.i .u64 r.2] = u∧Own (fun r=>r < h.n) h k' []:=by
 refine WC.is (ZaQ ZdV ?_)
 unfold Zcy at hp
 let B:Nat→Prop:=(fun r=>r < h.n)
 have hO:Own B h h []:=Own.start0 h
 refine Zf (Zl (Zd (.i .u64 0) rfl (Zd (.i .u64 0) rfl (Zb (Za (Zf (Zl ?_)))))))
 refine Zd (.i .u64 x) rfl (Ze (Zdw (a:=x) (b:=4294967295) (v:=.i .u64 (Z3 .u64 x 4294967295)) rfl rfl (by decide) rfl) (Zd (.i .u64 (Z3 .u64 x 4294967295)) rfl (Zb (Za (Zf (Zl (Zd (.i .u64 x) rfl ?_)))))))
 refine Ze (ZdH (a:=x) (b:=32) (v:=.i .u64 (ZD .u64 x 32)) rfl rfl (by decide) (ZcF (by decide))) (Zd (.i .u64 (ZD .u64 x 32)) rfl (Zb (Za (Zf (Zl (Zd (.i .u64 y) rfl (Ze (Zdw (a:=y) (b:=4294967295) (v:=.i .u64 (Z3 .u64 y 4294967295)) rfl rfl (by decide) rfl) ?_)))))))
 refine Zd (.i .u64 (Z3 .u64 y 4294967295)) rfl (Zb (Za (Zf (Zl (Zd (.i .u64 y) rfl (Ze (ZdH (a:=y) (b:=32) (v:=.i .u64 (ZD .u64 y 32)) rfl rfl (by decide) (ZcF (by decide))) (Zd (.i .u64 (ZD .u64 y 32)) rfl ?_)))))))
 refine Zb (Za (Zf (Zl (Zd (.i .u64 (Z3 .u64 x 4294967295)) rfl (Zd (.i .u64 (Z3 .u64 y 4294967295)) rfl (Ze (Zdw (a:=(Z3 .u64 x 4294967295)) (b:=(Z3 .u64 y 4294967295)) (v:=.i .u64 (ZS .u64 (Z3 .u64 x 4294967295) (Z3 .u64 y 4294967295))) rfl rfl (by decide) rfl) (Zd (.i .u64 (ZS .u64 (Z3 .u64 x 4294967295) (Z3 .u64 y 4294967295))) rfl ?_)))))))
 refine Zb (Za (Zf (Zl (Zd (.i .u64 (ZD .u64 x 32)) rfl (Zd (.i .u64 (Z3 .u64 y 4294967295)) rfl (Ze (Zdw (a:=(ZD .u64 x 32)) (b:=(Z3 .u64 y 4294967295)) (v:=.i .u64 (ZS .u64 (ZD .u64 x 32) (Z3 .u64 y 4294967295))) rfl rfl (by decide) rfl) (Zd (.i .u64 (ZS .u64 (Z3 .u64 x 4294967295) (Z3 .u64 y 4294967295))) rfl ?_)))))))
 refine Ze (ZdH (a:=(ZS .u64 (Z3 .u64 x 4294967295) (Z3 .u64 y 4294967295))) (b:=32) (v:=.i .u64 (ZD .u64 (ZS .u64 (Z3 .u64 x 4294967295) (Z3 .u64 y 4294967295)) 32)) rfl rfl (by decide) (ZcF (by decide))) (Ze (Zdw (a:=(ZS .u64 (ZD .u64 x 32) (Z3 .u64 y 4294967295))) (b:=(ZD .u64 (ZS .u64 (Z3 .u64 x 4294967295) (Z3 .u64 y 4294967295)) 32)) (v:=.i .u64 (zZ .u64 (ZS .u64 (ZD .u64 x 32) (Z3 .u64 y 4294967295)) (ZD .u64 (ZS .u64 (Z3 .u64 x 4294967295) (Z3 .u64 y 4294967295)) 32))) rfl rfl (by decide) rfl) (Zd (.i .u64 (zZ .u64 (ZS .u64 (ZD .u64 x 32) (Z3 .u64 y 4294967295)) (ZD .u64 (ZS .u64 (Z3 .u64 x 4294967295) (Z3 .u64 y 4294967295)) 32))) rfl (Zb (Za (Zf (Zl (Zd (.i .u64 (zZ .u64 (ZS .u64 (ZD .u64 x 32) (Z3 .u64 y 4294967295)) (ZD .u64 (ZS .u64 (Z3 .u64 x 4294967295) (Z3 .u64 y 4294967295)) 32))) rfl ?_)))))))
 refine Ze (Zdw (a:=(zZ .u64 (ZS .u64 (ZD .u64 x 32) (Z3 .u64 y 4294967295)) (ZD .u64 (ZS .u64 (Z3 .u64 x 4294967295) (Z3 .u64 y 4294967295)) 32))) (b:=4294967295) (v:=.i .u64 (Z3 .u64 (zZ .u64 (ZS .u64 (ZD .u64 x 32) (Z3 .u64 y 4294967295)) (ZD .u64 (ZS .u64 (Z3 .u64 x 4294967295) (Z3 .u64 y 4294967295)) 32)) 4294967295)) rfl rfl (by decide) rfl) (Zd (.i .u64 (Z3 .u64 (zZ .u64 (ZS .u64 (ZD .u64 x 32) (Z3 .u64 y 4294967295)) (ZD .u64 (ZS .u64 (Z3 .u64 x 4294967295) (Z3 .u64 y 4294967295)) 32)) 4294967295)) rfl (Zb (Za (Zf (Zl (Zd (.i .u64 (zZ .u64 (ZS .u64 (ZD .u64 x 32) (Z3 .u64 y 4294967295)) (ZD .u64 (ZS .u64 (Z3 .u64 x 4294967295) (Z3 .u64 y 4294967295)) 32))) rfl (Ze (ZdH (a:=(zZ .u64 (ZS .u64 (ZD .u64 x 32) (Z3 .u64 y 4294967295)) (ZD .u64 (ZS .u64 (Z3 .u64 x 4294967295) (Z3 .u64 y 4294967295)) 32))) (b:=32) (v:=.i .u64 (ZD .u64 (zZ .u64 (ZS .u64 (ZD .u64 x 32) (Z3 .u64 y 4294967295)) (ZD .u64 (ZS .u64 (Z3 .u64 x 4294967295) (Z3 .u64 y 4294967295)) 32)) 32)) rfl rfl (by decide) (ZcF (by decide))) ?_)))))))
 refine Zd (.i .u64 (ZD .u64 (zZ .u64 (ZS .u64 (ZD .u64 x 32) (Z3 .u64 y 4294967295)) (ZD .u64 (ZS .u64 (Z3 .u64 x 4294967295) (Z3 .u64 y 4294967295)) 32)) 32)) rfl (Zb (Za (Zf (Zl (Zd (.i .u64 (Z3 .u64 (zZ .u64 (ZS .u64 (ZD .u64 x 32) (Z3 .u64 y 4294967295)) (ZD .u64 (ZS .u64 (Z3 .u64 x 4294967295) (Z3 .u64 y 4294967295)) 32)) 4294967295)) rfl (Zd (.i .u64 (Z3 .u64 x 4294967295)) rfl (Zd (.i .u64 (ZD .u64 y 32)) rfl ?_)))))))
 refine Ze (Zdw (a:=(Z3 .u64 x 4294967295)) (b:=(ZD .u64 y 32)) (v:=.i .u64 (ZS .u64 (Z3 .u64 x 4294967295) (ZD .u64 y 32))) rfl rfl (by decide) rfl) (Ze (Zdw (a:=(Z3 .u64 (zZ .u64 (ZS .u64 (ZD .u64 x 32) (Z3 .u64 y 4294967295)) (ZD .u64 (ZS .u64 (Z3 .u64 x 4294967295) (Z3 .u64 y 4294967295)) 32)) 4294967295)) (b:=(ZS .u64 (Z3 .u64 x 4294967295) (ZD .u64 y 32))) (v:=.i .u64 (zZ .u64 (Z3 .u64 (zZ .u64 (ZS .u64 (ZD .u64 x 32) (Z3 .u64 y 4294967295)) (ZD .u64 (ZS .u64 (Z3 .u64 x 4294967295) (Z3 .u64 y 4294967295)) 32)) 4294967295) (ZS .u64 (Z3 .u64 x 4294967295) (ZD .u64 y 32)))) rfl rfl (by decide) rfl) (Zd (.i .u64 (zZ .u64 (Z3 .u64 (zZ .u64 (ZS .u64 (ZD .u64 x 32) (Z3 .u64 y 4294967295)) (ZD .u64 (ZS .u64 (Z3 .u64 x 4294967295) (Z3 .u64 y 4294967295)) 32)) 4294967295) (ZS .u64 (Z3 .u64 x 4294967295) (ZD .u64 y 32)))) rfl (Zb (Za (Zf (Zl (Zd (.i .u64 (ZD .u64 x 32)) rfl ?_)))))))
 refine Zd (.i .u64 (ZD .u64 y 32)) rfl (Ze (Zdw (a:=(ZD .u64 x 32)) (b:=(ZD .u64 y 32)) (v:=.i .u64 (ZS .u64 (ZD .u64 x 32) (ZD .u64 y 32))) rfl rfl (by decide) rfl) (Zd (.i .u64 (ZD .u64 (zZ .u64 (ZS .u64 (ZD .u64 x 32) (Z3 .u64 y 4294967295)) (ZD .u64 (ZS .u64 (Z3 .u64 x 4294967295) (Z3 .u64 y 4294967295)) 32)) 32)) rfl (Ze (Zdw (a:=(ZS .u64 (ZD .u64 x 32) (ZD .u64 y 32))) (b:=(ZD .u64 (zZ .u64 (ZS .u64 (ZD .u64 x 32) (Z3 .u64 y 4294967295)) (ZD .u64 (ZS .u64 (Z3 .u64 x 4294967295) (Z3 .u64 y 4294967295)) 32)) 32)) (v:=.i .u64 (zZ .u64 (ZS .u64 (ZD .u64 x 32) (ZD .u64 y 32)) (ZD .u64 (zZ .u64 (ZS .u64 (ZD .u64 x 32) (Z3 .u64 y 4294967295)) (ZD .u64 (ZS .u64 (Z3 .u64 x 4294967295) (Z3 .u64 y 4294967295)) 32)) 32))) rfl rfl (by decide) rfl) (Zd (.i .u64 (zZ .u64 (Z3 .u64 (zZ .u64 (ZS .u64 (ZD .u64 x 32) (Z3 .u64 y 4294967295)) (ZD .u64 (ZS .u64 (Z3 .u64 x 4294967295) (Z3 .u64 y 4294967295)) 32)) 4294967295) (ZS .u64 (Z3 .u64 x 4294967295) (ZD .u64 y 32)))) rfl (Ze (ZdH (a:=(zZ .u64 (Z3 .u64 (zZ .u64 (ZS .u64 (ZD .u64 x 32) (Z3 .u64 y 4294967295)) (ZD .u64 (ZS .u64 (Z3 .u64 x 4294967295) (Z3 .u64 y 4294967295)) 32)) 4294967295) (ZS .u64 (Z3 .u64 x 4294967295) (ZD .u64 y 32)))) (b:=32) (v:=.i .u64 (ZD .u64 (zZ .u64 (Z3 .u64 (zZ .u64 (ZS .u64 (ZD .u64 x 32) (Z3 .u64 y 4294967295)) (ZD .u64 (ZS .u64 (Z3 .u64 x 4294967295) (Z3 .u64 y 4294967295)) 32)) 4294967295) (ZS .u64 (Z3 .u64 x 4294967295) (ZD .u64 y 32))) 32)) rfl rfl (by decide) (ZcF (by decide))) (Ze (Zdw (a:=(zZ .u64 (ZS .u64 (ZD .u64 x 32) (ZD .u64 y 32)) (ZD .u64 (zZ .u64 (ZS .u64 (ZD .u64 x 32) (Z3 .u64 y 4294967295)) (ZD .u64 (ZS .u64 (Z3 .u64 x 4294967295) (Z3 .u64 y 4294967295)) 32)) 32))) (b:=(ZD .u64 (zZ .u64 (Z3 .u64 (zZ .u64 (ZS .u64 (ZD .u64 x 32) (Z3 .u64 y 4294967295)) (ZD .u64 (ZS .u64 (Z3 .u64 x 4294967295) (Z3 .u64 y 4294967295)) 32)) 4294967295) (ZS .u64 (Z3 .u64 x 4294967295) (ZD .u64 y 32))) 32)) (v:=.i .u64 (zZ .u64 (zZ .u64 (ZS .u64 (ZD .u64 x 32) (ZD .u64 y 32)) (ZD .u64 (zZ .u64 (ZS .u64 (ZD .u64 x 32) (Z3 .u64 y 4294967295)) (ZD .u64 (ZS .u64 (Z3 .u64 x 4294967295) (Z3 .u64 y 4294967295)) 32)) 32)) (ZD .u64 (zZ .u64 (Z3 .u64 (zZ .u64 (ZS .u64 (ZD .u64 x 32) (Z3 .u64 y 4294967295)) (ZD .u64 (ZS .u64 (Z3 .u64 x 4294967295) (Z3 .u64 y 4294967295)) 32)) 4294967295) (ZS .u64 (Z3 .u64 x 4294967295) (ZD .u64 y 32))) 32))) rfl rfl (by decide) rfl) (Zd (.i .u64 (zZ .u64 (zZ .u64 (ZS .u64 (ZD .u64 x 32) (ZD .u64 y 32)) (ZD .u64 (zZ .u64 (ZS .u64 (ZD .u64 x 32) (Z3 .u64 y 4294967295)) (ZD .u64 (ZS .u64 (Z3 .u64 x 4294967295) (Z3 .u64 y 4294967295)) 32)) 32)) (ZD .u64 (zZ .u64 (Z3 .u64 (zZ .u64 (ZS .u64 (ZD .u64 x 32) (Z3 .u64 y 4294967295)) (ZD .u64 (ZS .u64 (Z3 .u64 x 4294967295) (Z3 .u64 y 4294967295)) 32)) 4294967295) (ZS .u64 (Z3 .u64 x 4294967295) (ZD .u64 y 32))) 32))) rfl ?_)))))))
 refine Zb (Za (Zf (Zl (Zd (.i .u64 x) rfl (Zd (.i .u64 y) rfl (Ze (Zdw (a:=x) (b:=y) (v:=.i .u64 (ZS .u64 x y)) rfl rfl (by decide) rfl) (Zd (.i .u64 (ZS .u64 x y)) rfl ?_)))))))
 refine Zb (Za (Zav (zF (Zap (n:=4) (v:=.i .u64 (zZ .u64 (zZ .u64 (ZS .u64 (ZD .u64 x 32) (ZD .u64 y 32)) (ZD .u64 (zZ .u64 (ZS .u64 (ZD .u64 x 32) (Z3 .u64 y 4294967295)) (ZD .u64 (ZS .u64 (Z3 .u64 x 4294967295) (Z3 .u64 y 4294967295)) 32)) 32)) (ZD .u64 (zZ .u64 (Z3 .u64 (zZ .u64 (ZS .u64 (ZD .u64 x 32) (Z3 .u64 y 4294967295)) (ZD .u64 (ZS .u64 (Z3 .u64 x 4294967295) (Z3 .u64 y 4294967295)) 32)) 4294967295) (ZS .u64 (Z3 .u64 x 4294967295) (ZD .u64 y 32))) 32))) rfl (Zap (n:=5) (v:=.i .u64 (ZS .u64 x y)) rfl zk)) ?_)))
 cases hp
 exact ⟨rfl,(hO.pick [] rfl (by decide))⟩

theorem Zcg.ok {h:Hp} {x:Int} {y:Int}   {r:Int × Int} (hp:Zcg x y = some r) :
  ∃ u k',Is G 89 [.i .u64 x,.i .u64 y] h u k'∧V.tu [.i .u64 r.1,.i .u64 r.2] = u∧Own (fun r=>r < h.n) h k' []:=by
 refine WC.is (ZaQ Ze2 ?_)
 unfold Zcg at hp
 let B:Nat→Prop:=(fun r=>r < h.n)
 have hO:Own B h h []:=Own.start0 h
 refine Zf (Zl (Zd (.i .u64 0) rfl (Zd (.i .u64 0) rfl (Zb (Za (Zf (zG (t:=false) rfl rfl ?_)))))))
 refine zM (Za (Zf (Zl (Zd (.i .u64 x) rfl (Zd (.i .u64 y) rfl ?_)))))
 obtain ⟨⟨x1,x2⟩,hx'1,hp⟩:=Zp hp
 obtain ⟨u'1,k'1,ca'1,rfl,hW'1⟩:=Zcy.ok (h:=h)   hx'1
 refine Za8 (id:=98) (caps:=[]) rfl (Zx (v:=.i .u64 x) rfl (Zx (v:=.i .u64 y) rfl zo)) ca'1 ?_
 have hO'1:=hO.call hW'1 rfl
 refine Zd (.tu [.i .u64 x1,.i .u64 x2]) rfl (Ze (Zbn (vs:=[.i .u64 x1,.i .u64 x2]) (v:=.i .u64 x1) rfl rfl) (Ze (Zbn (vs:=[.i .u64 x1,.i .u64 x2]) (v:=.i .u64 x2) rfl rfl) (Zd (.i .u64 x1) rfl (Zd (.i .u64 x2) rfl (Zb (Za (Zf ?_)))))))
 refine Zl (Zd (.i .u64 x1) rfl (Zd (.i .u64 x2) rfl (Zd (.i .u64 x1) rfl (Zd (.i .u64 x2) rfl (Zb (Za (Zav ?_)))))))
 refine zF (Zap (n:=4) (v:=.i .u64 x1) rfl (Zap (n:=5) (v:=.i .u64 x2) rfl zk)) ?_
 cases hp
 exact ⟨rfl,(hO'1.pick [] rfl (by decide))⟩

theorem Zaa.ok {h:Hp} {x:List Int} {count:Int} {v_x:V} (s_x:Sl zn h v_x x) {r:(List Int)} (hp:Zaa x count = some r) :
  ∃ u k',Is G 83 [v_x,.n count] h u k'∧∃ (v'1:V),v'1 = u∧Own (fun r=>r < h.n) h k' [eSl zn v'1 r]:=by
 refine WC.is (ZaQ ZcA ?_)
 unfold Zaa at hp
 let B:Nat→Prop:=(fun r=>r < h.n)
 have hO:Own B h h []:=Own.start0 h
 refine Zf (Zl (Zd (.sn) rfl (Zb (Za (Zf (Zf (Zl ?_)))))))
 refine Zd (.n count) rfl (Ze (zJ (a:=count) (b:=0) rfl rfl) (Zb (Za ?_)))
 obtain ⟨o'1,ho'1,hp⟩:=Zp hp
 refine W.mono (Q:=fun e fr k=>match (generalizing:=false) o'1 with
   | _=>e = .normal∧fr 0 = v_x∧fr 1 = .n count∧Own B h k []) ?_ ?_
 ·clear hp; have hp:=ho'1; clear ho'1
  rcases Zt hp with ⟨b'1,hp⟩ | ⟨b'1,hp⟩
  ·refine zH (t:=(decide (count < 0))) rfl b'1 ?_
   exact nomatch hp
  ·refine zG (t:=(decide (count < 0))) rfl b'1 ?_
   refine zM ?_
   cases hp
   exact ⟨rfl,rfl,rfl,(hO.pick [] rfl (by decide))⟩
 intro e'1 q'1 k'1 hJ'1
 obtain ⟨rfl,q'1_0,q'1_1,hO'1⟩:=hJ'1
 refine Za (Zf (Zl (Zd v_x q'1_0 (Ze (Zao (hO'1.rd0 s_x.rd) rfl) ?_))))
 obtain ⟨c'1,hp⟩:=Zg hp
 refine Ze (Zd2 (a:=(x.length:Int)) rfl c'1) (Zd (.n count) q'1_1 ?_)
 obtain ⟨c'2,hp⟩:=Zg hp
 refine Ze (Zd2 (a:=count) rfl c'2) ?_
 obtain ⟨⟨x1,x2⟩,hx'1,hp⟩:=Zp hp
 obtain ⟨u'1,k'2,ca'1,rfl,hW'1⟩:=Zcg.ok (h:=k'1)   hx'1
 refine Za8 (id:=89) (caps:=[]) rfl (Zx (v:=.i .u64 (x.length:Int)) rfl (Zx (v:=.i .u64 count) rfl zo)) ca'1 ?_
 have hO'2:=hO'1.call hW'1 rfl
 refine Zd (.tu [.i .u64 x1,.i .u64 x2]) rfl (Ze (Zbn (vs:=[.i .u64 x1,.i .u64 x2]) (v:=.i .u64 x1) rfl rfl) (Ze (Zbn (vs:=[.i .u64 x1,.i .u64 x2]) (v:=.i .u64 x2) rfl rfl) (Zd (.i .u64 x1) rfl (Zd (.i .u64 x2) rfl (Zb (Za (Zf ?_)))))))
 refine Zf (Zl (Zd (.i .u64 x1) rfl (Ze (Zdd (a:=x1) (b:=0) rfl rfl) (Zd (.b (decide (0 < x1))) rfl ?_))))
 refine zT 3 (fun fr' k'=>k'2 = k'∧fr' 26 = .b ((decide (0 < x1)) || (decide (9223372036854775807 < x2)))∧fr' 0 = v_x∧fr' 6 = .i .u64 x2) ?_ ?_
 ·rcases bc (decide (0 < x1)) with b'2 | b'2
  ·skip
   refine Zr rfl b'2 (Zr rfl b'2 (Ze (zb (t:=(decide (0 < x1))) (v:=.b ((decide (0 < x1)) || (decide (9223372036854775807 < x2)))) rfl b'2 (Eq.trans (b:=V.b true) rfl (Zbx b'2))) (Zb ?_)))
   exact ⟨rfl,rfl,q'1_0,rfl⟩
  ·skip
   refine Z9 rfl b'2 (Zd (.i .u64 x2) rfl (Z9 rfl b'2 (Ze (Zdd (a:=x2) (b:=9223372036854775807) rfl rfl) (Ze (ZU (t:=(decide (0 < x1))) (v:=.b ((decide (0 < x1)) || (decide (9223372036854775807 < x2)))) rfl b'2 (Eq.trans (b:=V.b (decide (9223372036854775807 < x2))) rfl (ZbA b'2))) (Zb ?_)))))
   exact ⟨rfl,rfl,q'1_0,rfl⟩
 rintro frg'1 _ ⟨rfl,g'1_26,g'1_0,g'1_6⟩
 refine Zb (Za ?_)
 obtain ⟨o'2,ho'2,hp⟩:=Zp hp
 refine W.mono (Q:=fun e fr k=>match (generalizing:=false) o'2 with
   | _=>e = .normal∧fr 0 = v_x∧fr 6 = .i .u64 x2∧Own B h k []) ?_ ?_
 ·clear hp; have hp:=ho'2; clear ho'2
  rcases Zt hp with ⟨b'3,hp⟩ | ⟨b'3,hp⟩
  ·refine zH (t:=((decide (0 < x1)) || (decide (9223372036854775807 < x2)))) g'1_26 b'3 ?_
   exact nomatch hp
  ·refine zG (t:=((decide (0 < x1)) || (decide (9223372036854775807 < x2)))) g'1_26 b'3 ?_
   refine zM ?_
   cases hp
   exact ⟨rfl,g'1_0,g'1_6,(hO'2.pick [] rfl (by decide))⟩
 intro e'2 q'2 k'3 hJ'2
 obtain ⟨rfl,q'2_0,q'2_6,hO'3⟩:=hJ'2
 refine Za (Zf (Zl (Zd (.i .u64 x2) q'2_6 ?_)))
 obtain ⟨c'3,hp⟩:=Zg hp
 refine Ze (Zd2 (a:=x2) rfl c'3) ?_
 obtain ⟨c'4,hp⟩:=Zg hp
 refine zA (hO'3.mks (E:=zn) (y:=(0:Int)) (bytes:=8) (z:=x2) hO'3.fr rfl rfl rfl c'4 (by decide)) ?_
 rintro v'2 k'4 ⟨r'1,f'1,hW⟩
 have hO'4:=hW
 refine Zd v'2 rfl (Zb (Za (Zf (Zl (Zd v'2 rfl (Zd v_x q'2_0 (zA (hO'4.cpy (E:=zn) 0 rfl (hO'4.rd0 s_x.rd) rfl rfl (fun _=>rfl)) ?_)))))))
 rintro _ k'5 ⟨rfl,f'2,hW⟩
 have hO'5:=hW
 refine Zd (.n ((min x.length (List.replicate x2.toNat (0:Int)).length:Nat):Int)) rfl (Zb (Za (Zf (Zae ?_))))
 obtain ⟨o'3,ho'3,hp⟩:=Zp hp
 refine W.mono (Q:=fun e fr k=>match (generalizing:=false) o'3 with
   | newslice1=>e = (.exit 0)∧fr 7 = v'2∧Own B h k [eSl zn v'2 newslice1]) ?_ ?_
 ·clear hp
  refine zC (fun st fr k=>match st with | (newslice,n)=>fr 7 = v'2∧fr 8 = .n n∧Own B h k [eSl zn v'2 newslice]) ho'3 (s:=(x.take (List.replicate x2.toNat (0:Int)).length++(List.replicate x2.toNat (0:Int)).drop x.length,((min x.length (List.replicate x2.toNat (0:Int)).length:Nat):Int))) ⟨rfl,rfl,(hO'5.pick [0] rfl (by decide))⟩ ?_
  rintro ⟨newslice,n⟩ q'4 k'7 ⟨q'4_7,q'4_8,hO'7⟩ o'4 hp
  dsimp only [Zaa.s0] at hp
  refine Zf (Zf (Zl (Zd (.n n) q'4_8 (Zd v'2 q'4_7 (Ze (Zao (hO'7.sl 0 rfl) rfl) (Ze (zJ (a:=n) (b:=(newslice.length:Int)) rfl rfl) (Zb ?_)))))))
  refine Za ?_
  rcases Zt hp with ⟨b'4,hp⟩ | ⟨b'4,hp⟩
  ·refine zH (t:=(decide (n < (newslice.length:Int)))) rfl b'4 ?_
   refine zM (Za (Zae (ZfN ?_)))
   have hW:=hO'7.bump 10
   have fr'1:=Fresh.start k'7 10
   have nb'1:∀ {i:Nat},h.n≤k'7.n + i:=Nat.le_trans hO'7.n (Nat.le_add_right _ _)
   have hO'8:=hW
   refine Zb7 (.n n) q'4_8 (Zb7 v'2 q'4_7 (Zb7 (.n n) q'4_8 ?_))
   obtain ⟨c'5,hp⟩:=Zg hp
   refine Zah (Zim (E:=zn) (z:=n) (hO'8.sl 0 rfl) rfl rfl c'5) (Zb7 v'2 q'4_7 (Zb7 (.n n) q'4_8 (Zah (Zin (E:=zn) (z:=n) (hO'8.sl 0 rfl) rfl rfl c'5) (Zfc (hO'8.cpyF (E:=zn) (z:=n) 0 rfl c'5 (Sl.cutU (hO'8.sl 0 rfl) c'5:Sl zn (k'7.bump 10) (V.cut v'2 0 n.toNat) (newslice.take n.toNat)) rfl rfl (fun _=>rfl)) ?_))))
   rintro _ k'9 z'1 ⟨rfl,f'3,hW⟩
   have fr'2:=fr'1.kept f'3 (by decide)
   have hO'9:=hW
   obtain ⟨c'6,hp⟩:=Zg hp
   refine Zah (zu (a:=n) (b:=((min (newslice.take n.toNat).length (newslice.drop n.toNat).length:Nat):Int)) rfl rfl c'6) (Zb7 (.n (n + ((min (newslice.take n.toNat).length (newslice.drop n.toNat).length:Nat):Int))) rfl (ZcC ?_))
   refine And.intro ?_ ?_
   ·intro q hq
    cases hq
   refine Zaf ?_
   cases hp
   exact (Or.inl ⟨(newslice.take n.toNat++((newslice.take n.toNat).take (newslice.drop n.toNat).length++(newslice.drop n.toNat).drop (newslice.take n.toNat).length),n + ((min (newslice.take n.toNat).length (newslice.drop n.toNat).length:Nat):Int)),rfl,rfl,q'4_7,rfl,(hO'9.pick [0] rfl (by decide))⟩)
  ·refine zG (t:=(decide (n < (newslice.length:Int)))) rfl b'4 ?_
   refine ZaZ (zN ?_)
   cases hp
   refine (Or.inr ⟨newslice,rfl,(fun h=>nomatch h),(fun he=>?_)⟩)
   subst he; exact ⟨rfl,q'4_7,(hO'7.pick [0] rfl (by decide))⟩
 intro e'3 q'3 k'6 hJ'3
 obtain ⟨newslice1,rfl⟩:∃ x,x = o'3:=⟨_,rfl⟩
 obtain ⟨rfl,q'3_7,hO'6⟩:=hJ'3
 refine Zax (Za (Zf (Zl (Zd v'2 q'3_7 (Zd v'2 rfl (Zb (Za ?_)))))))
 refine Zav (zF (Zap (n:=4) (v:=v'2) rfl zk) ?_)
 cases hp
 exact ⟨v'2,rfl,(hO'6.pick [0] rfl (by decide))⟩

theorem Zat.ok {h:Hp} {cells:List Zc} {v:Int} {v_cells:V} (s_cells:Sl Zh h v_cells cells) {r:(List Int) × (List Int)} (hp:Zat cells v = some r) :
  ∃ u k',Is G 67 [v_cells,.n v] h u k'∧∃ (v'1:V),∃ (v'2:V),V.tu [v'1,v'2] = u∧Own (fun r=>r < h.n) h k' [eSl zn v'1 r.1,eSl zn v'2 r.2]:=by
 refine WC.is (ZaQ ZdP ?_)
 unfold Zat at hp
 let B:Nat→Prop:=(fun r=>r < h.n)
 have hO:Own B h h []:=Own.start0 h
 refine Zf (Zl (Zd (.sn) rfl (Zd (.sn) rfl (Zb (Za (Zf (Zl ?_)))))))
 refine zA (hO.bsl (E:=zn) (l:=([(-1)]:List Int)) hO.fr (by rw [(z9 (v:=.n (-1)) rfl ZaI)]; rfl) rfl) ?_
 rintro v'3 k'1 ⟨r'1,f'1,hW⟩
 have hO'1:=hW
 refine Zd v_cells rfl (Ze (Zao (hO'1.rd0 s_cells.rd) rfl) ?_)
 obtain ⟨x,hx'1,hp⟩:=Zp hp
 obtain ⟨u'1,k'2,ca'1,v'4,rfl,hW'1⟩:=Zaa.ok (h:=k'1)  (hO'1.sl 0 rfl:Sl zn k'1 v'3 ([(-1)]:List Int)) hx'1
 refine Za8 (id:=83) (caps:=[]) rfl (Zx (v:=v'3) rfl (Zx (v:=.n (cells.length:Int)) rfl zo)) ca'1 ?_
 have hO'2:=hO'1.call hW'1 rfl
 refine zA (hO'2.bsl (E:=zn) (l:=([(-1)]:List Int)) hO'2.fr (by rw [(z9 (v:=.n (-1)) rfl ZaI)]; rfl) rfl) ?_
 rintro v'5 k'3 ⟨r'2,f'2,hW⟩
 have hO'3:=hW
 refine Zd v_cells rfl (Ze (Zao (hO'3.rd0 s_cells.rd) rfl) ?_)
 obtain ⟨x1,hx'2,hp⟩:=Zp hp
 obtain ⟨u'2,k'4,ca'2,v'6,rfl,hW'2⟩:=Zaa.ok (h:=k'3)  (hO'3.sl 2 rfl:Sl zn k'3 v'5 ([(-1)]:List Int)) hx'2
 refine Za8 (id:=83) (caps:=[]) rfl (Zx (v:=v'5) rfl (Zx (v:=.n (cells.length:Int)) rfl zo)) ca'2 ?_
 have hO'4:=hO'3.call hW'2 rfl
 refine Zd v'4 rfl (Zd v'6 rfl (Zb (Za (Zf (Zl (Zd (.n v) rfl (zA (hO'4.bsl (E:=zn) (l:=[v]) hO'4.fr (by rw [(z9 (v:=.n v) rfl ZaI)]; rfl) rfl) ?_)))))))
 rintro v'7 k'5 ⟨r'3,f'3,hW⟩
 have hO'5:=hW
 refine Zd v'7 rfl (Zb (Za (Zf (Zl (Zd v_cells rfl (Ze (Zao (hO'5.rd0 s_cells.rd) rfl) ?_))))))
 obtain ⟨c'1,hp⟩:=Zg hp
 refine zA (hO'5.mks (E:=e_bool) (y:=false) (bytes:=1) (z:=(cells.length:Int)) hO'5.fr rfl rfl rfl c'1 (by decide)) ?_
 rintro v'8 k'6 ⟨r'4,f'4,hW⟩
 have hO'6:=hW
 refine Zd v'8 rfl (Zb (Za (Zf (Zl (Zd v'8 rfl (Zd (.n v) rfl ?_))))))
 obtain ⟨c'2,hp⟩:=Zg hp
 refine Ze (z3 (E:=e_bool) (z:=v) (hO'6.sl 5 rfl:Sl e_bool k'6 v'8 (List.replicate ((cells.length:Int):Int).toNat false)) rfl rfl c'2) (zA (hO'6.ste (E:=e_bool) (y:=true) (ws:=[.b true]) 5 rfl rfl (Zo c'2) rfl rfl ⟨rfl,Nat.le_of_ble_eq_true rfl,rfl⟩ rfl) ?_)
 rintro _ k'7 ⟨rfl,f'5,m'1,hW⟩
 have hO'7:=hW
 refine Zb (Za (Zf (Zae ?_)))
 obtain ⟨o'1,ho'1,hp⟩:=Zp hp
 refine W.mono (Q:=fun e fr k=>match (generalizing:=false) o'1 with
   | (from_1,dir1)=>e = (.exit 0)∧fr 6 = v'4∧fr 7 = v'6∧Own B h k [eSl zn v'4 from_1,eSl zn v'6 dir1]) ?_ ?_
 ·clear hp
  refine zC (fun st fr k=>match st with | (from_,dir,l,met)=>∃ (v'9:V),fr 0 = v_cells∧fr 6 = v'4∧fr 7 = v'6∧fr 8 = v'9∧fr 9 = v'8∧Own B h k [eSl zn v'4 from_,eSl zn v'6 dir,eSl zn v'9 l,eSl e_bool v'8 met]) ho'1 (s:=(x,x1,[v],(List.replicate ((cells.length:Int):Int).toNat false).set v.toNat true)) ⟨v'7,rfl,rfl,rfl,rfl,rfl,(hO'7.pick [1,3,4,5] rfl (by decide))⟩ ?_
  rintro ⟨from_,dir,l,met⟩ q'2 k'9 ⟨v'9,q'2_0,q'2_6,q'2_7,q'2_8,q'2_9,hO'9⟩ o'2 hp
  dsimp only [Zat.s0] at hp
  refine Zf (Zf (Zl (Zd v'9 q'2_8 (Ze (Zao (hO'9.sl 2 rfl) rfl) (Ze (Zdd (a:=(l.length:Int)) (b:=0) rfl rfl) (Zb (Za ?_)))))))
  rcases Zt hp with ⟨b'1,hp⟩ | ⟨b'1,hp⟩
  ·refine zH (t:=(decide (0 < (l.length:Int)))) rfl b'1 ?_
   refine zM (Za (Zae (Zf (Zl (Zd v'9 q'2_8 ?_)))))
   obtain ⟨c'3,hp⟩:=Zg hp
   refine Ze (z3 (E:=zn) (z:=0) (hO'9.sl 2 rfl) rfl rfl c'3) (Ze (zO (w:=.n (gi l (0:Int).toNat)) (hO'9.sl 2 rfl) rfl (Zo c'3) rfl) (Zd (.n (gi l (0:Int).toNat)) rfl (Zb (Za (Zf (Zl (Zd v'9 q'2_8 ?_)))))))
   obtain ⟨c'4,hp⟩:=Zg hp
   refine Ze (Zim (E:=zn) (z:=1) (hO'9.sl 2 rfl) rfl rfl c'4) (Zd ((V.cut v'9 (1:Int).toNat (l).length)) rfl (Zb (Za (Zf (Zl (Zd (.n 0) rfl (Zb ?_)))))))
   refine Za (Zae ?_)
   obtain ⟨o'3,ho'2,hp⟩:=Zp hp
   refine W.mono (Q:=fun e fr k=>match (generalizing:=false) o'3 with
     | (from_3,dir3,l2,met2)=>e = (.exit 2)∧∃ (v'11:V),fr 0 = v_cells∧fr 6 = v'4∧fr 7 = v'6∧fr 8 = v'11∧fr 9 = v'8∧Own B h k [eSl zn v'4 from_3,eSl zn v'6 dir3,eSl zn v'11 l2,eSl e_bool v'8 met2]) ?_ ?_
   ·clear hp
    have hO'11:=hO'9.cutF 2 rfl c'4
    refine zC (fun st fr k=>match st with | (from_2,dir2,l1,met1,x2)=>∃ (v'10:V),fr 0 = v_cells∧fr 6 = v'4∧fr 7 = v'6∧fr 8 = v'10∧fr 9 = v'8∧fr 10 = .n (gi l (0:Int).toNat)∧fr 37 = .n x2∧Own B h k [eSl zn v'4 from_2,eSl zn v'6 dir2,eSl zn v'10 l1,eSl e_bool v'8 met1]) ho'2 (s:=(from_,dir,l.drop (1:Int).toNat,met,0)) ⟨(V.cut v'9 (1:Int).toNat (l).length),q'2_0,q'2_6,q'2_7,rfl,q'2_9,rfl,rfl,(hO'11.pick [0,1,2,3] rfl (by decide))⟩ ?_
    rintro ⟨from_2,dir2,l1,met1,x2⟩ q'4 k'11 ⟨v'10,q'4_0,q'4_6,q'4_7,q'4_8,q'4_9,q'4_10,q'4_37,hO'12⟩ o'4 hp
    dsimp only [Zat.s1] at hp
    refine Zf (Zl (Ze (zJ (a:=x2) (b:=4) q'4_37 rfl) (Zb (Za (Zf ?_)))))
    rcases Zt hp with ⟨b'2,hp⟩ | ⟨b'2,hp⟩
    ·refine zH (t:=(decide (x2 < 4))) rfl b'2 ?_
     refine zM (Za (Zf (Zae (Zf (Zl (Zd (.n x2) q'4_37 (Zd (.n x2) rfl ?_)))))))
     refine Zb (Za (Zf (Zl (Zd v_cells q'4_0 (Zd (.n (gi l (0:Int).toNat)) q'4_10 (Zd (.n x2) rfl ?_))))))
     obtain ⟨c'5,hp⟩:=Zg hp
     refine Ze (z3 (E:=Zh) (z:=(gi l (0:Int).toNat)) (hO'12.rd0 s_cells.rd) rfl rfl c'5) (Ze (ZaT (off':=0) (off2:=0) (hO'12.rd0 s_cells.rd) (Zo c'5) rfl rfl) ?_)
     obtain ⟨c'6,hp⟩:=Zg hp
     refine Ze (ZaX (off:=0) (off2:=(0 + x2.toNat * 1)) (z:=x2) (hO'12.rd0 s_cells.rd) (Zo c'5) rfl rfl c'6 rfl) (Ze (zO (w:=.n (((gi cells (gi l (0:Int).toNat:Int).toNat).Next).get x2)) (hO'12.rd0 s_cells.rd) rfl (Zo c'5) (Zaj c'6)) (Zd (.n (((gi cells (gi l (0:Int).toNat:Int).toNat).Next).get x2)) rfl (Zb (Za (Zf (Zl (Zd (.n (((gi cells (gi l (0:Int).toNat:Int).toNat).Next).get x2)) rfl ?_)))))))
     refine Ze (Zcl (a:=(((gi cells (gi l (0:Int).toNat:Int).toNat).Next).get x2)) (b:=0) rfl rfl) (Zd (.b (decide (0≤(((gi cells (gi l (0:Int).toNat:Int).toNat).Next).get x2)))) rfl ?_)
     obtain ⟨t,hv'1,hp⟩:=Zp hp
     refine zT 6 (fun fr' k'=>k'11 = k'∧fr' 55 = .b t∧fr' 0 = v_cells∧fr' 10 = .n (gi l (0:Int).toNat)∧fr' 11 = .n x2∧fr' 12 = .n (((gi cells (gi l (0:Int).toNat:Int).toNat).Next).get x2)∧fr' 37 = .n x2∧fr' 6 = v'4∧fr' 7 = v'6∧fr' 8 = v'10∧fr' 9 = v'8) ?_ ?_
     ·clear hp; rcases Zt hv'1 with ⟨b'3,hp⟩ | ⟨b'3,hp⟩
      ·skip
       refine Z9 rfl b'3 (Zd v'8 q'4_9 (Z9 rfl b'3 (Zd (.n (((gi cells (gi l (0:Int).toNat:Int).toNat).Next).get x2)) rfl (Z9 rfl b'3 ?_))))
       obtain ⟨c'7,hp⟩:=Zg hp
       refine Ze (z3 (E:=e_bool) (z:=(((gi cells (gi l (0:Int).toNat:Int).toNat).Next).get x2)) (hO'12.sl 3 rfl) rfl rfl c'7) (Z9 rfl b'3 (Ze (zO (w:=.b (gi met1 (((gi cells (gi l (0:Int).toNat:Int).toNat).Next).get x2:Int).toNat)) (hO'12.sl 3 rfl) rfl (Zo c'7) rfl) (Z9 rfl b'3 (Ze (Zcb (t:=(gi met1 (((gi cells (gi l (0:Int).toNat:Int).toNat).Next).get x2:Int).toNat)) rfl) (Ze (zb (t:=(decide (0≤(((gi cells (gi l (0:Int).toNat:Int).toNat).Next).get x2)))) (v:=.b t) rfl b'3 (Eq.trans (b:=V.b (!(gi met1 (((gi cells (gi l (0:Int).toNat:Int).toNat).Next).get x2:Int).toNat))) rfl (congrArg V.b (Option.some.inj hp)))) (Zb ?_))))))
       exact ⟨rfl,rfl,q'4_0,q'4_10,rfl,rfl,q'4_37,q'4_6,q'4_7,q'4_8,q'4_9⟩
      ·skip
       refine Zr rfl b'3 (Zr rfl b'3 (Zr rfl b'3 (Zr rfl b'3 (Zr rfl b'3 (Ze (ZU (t:=(decide (0≤(((gi cells (gi l (0:Int).toNat:Int).toNat).Next).get x2)))) (v:=.b t) rfl b'3 (Eq.trans (b:=V.b false) rfl (congrArg V.b (Option.some.inj hp)))) (Zb ?_))))))
       exact ⟨rfl,rfl,q'4_0,q'4_10,rfl,rfl,q'4_37,q'4_6,q'4_7,q'4_8,q'4_9⟩
     rintro frg'1 _ ⟨rfl,g'1_55,g'1_0,g'1_10,g'1_11,g'1_12,g'1_37,g'1_6,g'1_7,g'1_8,g'1_9⟩
     refine Zb (Za ?_)
     rcases Zt hp with ⟨b'4,hp⟩ | ⟨b'4,hp⟩
     ·refine zH (t:=t) g'1_55 b'4 ?_
      refine Zf (Zl (Zd v'8 g'1_9 (Zd (.n (((gi cells (gi l (0:Int).toNat:Int).toNat).Next).get x2)) g'1_12 (Zd v'4 g'1_6 (Zd (.n (((gi cells (gi l (0:Int).toNat:Int).toNat).Next).get x2)) g'1_12 (Zd v'6 g'1_7 (Zd (.n (((gi cells (gi l (0:Int).toNat:Int).toNat).Next).get x2)) g'1_12 ?_)))))))
      refine Zd (.n (gi l (0:Int).toNat)) g'1_10 (Zd (.n x2) g'1_11 ?_)
      obtain ⟨c'8,hp⟩:=Zg hp
      refine Ze (z3 (E:=e_bool) (z:=(((gi cells (gi l (0:Int).toNat:Int).toNat).Next).get x2)) (hO'12.sl 3 rfl) rfl rfl c'8) (zA (hO'12.ste (E:=e_bool) (y:=true) (ws:=[.b true]) 3 rfl rfl (Zo c'8) rfl rfl ⟨rfl,Nat.le_of_ble_eq_true rfl,rfl⟩ rfl) ?_)
      rintro _ k'12 ⟨rfl,f'6,m'2,hW⟩
      have hO'13:=hW
      obtain ⟨c'9,hp⟩:=Zg hp
      refine Ze (z3 (E:=zn) (z:=(((gi cells (gi l (0:Int).toNat:Int).toNat).Next).get x2)) (hO'13.sl 0 rfl) rfl rfl c'9) (zA (hO'13.ste (E:=zn) (y:=(gi l (0:Int).toNat)) (ws:=[.n (gi l (0:Int).toNat)]) 0 rfl rfl (Zo c'9) rfl rfl ⟨rfl,Nat.le_of_ble_eq_true rfl,rfl⟩ rfl) ?_)
      rintro _ k'13 ⟨rfl,f'7,m'3,hW⟩
      have hO'14:=hW
      obtain ⟨c'10,hp⟩:=Zg hp
      refine Ze (z3 (E:=zn) (z:=(((gi cells (gi l (0:Int).toNat:Int).toNat).Next).get x2)) (hO'14.sl 1 rfl) rfl rfl c'10) (zA (hO'14.ste (E:=zn) (y:=x2) (ws:=[.n x2]) 1 rfl rfl (Zo c'10) rfl rfl ⟨rfl,Nat.le_of_ble_eq_true rfl,rfl⟩ rfl) ?_)
      rintro _ k'14 ⟨rfl,f'8,m'4,hW⟩
      have hO'15:=hW
      refine Zb (Za (Zl (Zd v'10 g'1_8 (Zd (.n (((gi cells (gi l (0:Int).toNat:Int).toNat).Next).get x2)) g'1_12 (zA (hO'15.bsl (E:=zn) (l:=[((gi cells (gi l (0:Int).toNat:Int).toNat).Next).get x2]) hO'15.fr (by rw [(z9 (v:=.n (((gi cells (gi l (0:Int).toNat:Int).toNat).Next).get x2)) rfl ZaI)]; rfl) rfl) ?_)))))
      rintro v'12 k'15 ⟨r'5,f'9,hW⟩
      have hO'16:=hW
      obtain ⟨c'11,hp⟩:=Zg hp
      refine zA (hO'16.app (E:=zn) (bytes:=8) 2 hO'16.fr rfl (hO'16.sl 4 rfl:Sl zn k'15 v'12 [((gi cells (gi l (0:Int).toNat:Int).toNat).Next).get x2]) rfl rfl (fun _=>rfl) c'11 (by decide)) ?_
      rintro v'13 k'16 ⟨f'10,hW⟩
      have hO'17:=hW
      refine Zd v'13 rfl (Zb (Zaf (Za (Zl ?_))))
      obtain ⟨c'12,hp⟩:=Zg hp
      refine Ze (zu (a:=x2) (b:=1) g'1_37 rfl c'12) (Zd (.n (x2 + 1)) rfl (Zb ?_))
      cases hp
      exact (Or.inl ⟨(from_2.set (((gi cells (gi l (0:Int).toNat:Int).toNat).Next).get x2:Int).toNat (gi l (0:Int).toNat),dir2.set (((gi cells (gi l (0:Int).toNat:Int).toNat).Next).get x2:Int).toNat x2,l1++[((gi cells (gi l (0:Int).toNat:Int).toNat).Next).get x2],met1.set (((gi cells (gi l (0:Int).toNat:Int).toNat).Next).get x2:Int).toNat true,x2 + 1),rfl,rfl,v'13,g'1_0,g'1_6,g'1_7,rfl,g'1_9,g'1_10,rfl,(hO'17.pick [0,1,2,3] rfl (by decide))⟩)
     ·refine zG (t:=t) g'1_55 b'4 ?_
      refine zM (Zaf (Za (Zl ?_)))
      obtain ⟨c'13,hp⟩:=Zg hp
      refine Ze (zu (a:=x2) (b:=1) g'1_37 rfl c'13) (Zd (.n (x2 + 1)) rfl (Zb ?_))
      cases hp
      exact (Or.inl ⟨(from_2,dir2,l1,met1,x2 + 1),rfl,rfl,v'10,g'1_0,g'1_6,g'1_7,g'1_8,g'1_9,g'1_10,rfl,(hO'12.pick [0,1,2,3] rfl (by decide))⟩)
    ·refine zG (t:=(decide (x2 < 4))) rfl b'2 ?_
     refine ZaZ (zN ?_)
     cases hp
     refine (Or.inr ⟨(from_2,dir2,l1,met1),rfl,(fun h=>nomatch h),(fun he=>?_)⟩)
     subst he; exact ⟨rfl,v'10,q'4_0,q'4_6,q'4_7,q'4_8,q'4_9,(hO'12.pick [0,1,2,3] rfl (by decide))⟩
   intro e'2 q'3 k'10 hJ'2
   obtain ⟨from_3,dir3,l2,met2⟩:=o'3
   obtain ⟨rfl,v'11,q'3_0,q'3_6,q'3_7,q'3_8,q'3_9,hO'10⟩:=hJ'2
   refine Zax (Zaf ?_)
   cases hp
   exact (Or.inl ⟨(from_3,dir3,l2,met2),rfl,rfl,v'11,q'3_0,q'3_6,q'3_7,q'3_8,q'3_9,(hO'10.pick [0,1,2,3] rfl (by decide))⟩)
  ·refine zG (t:=(decide (0 < (l.length:Int)))) rfl b'1 ?_
   refine ZaZ (zN ?_)
   cases hp
   refine (Or.inr ⟨(from_,dir),rfl,(fun h=>nomatch h),(fun he=>?_)⟩)
   subst he; exact ⟨rfl,q'2_6,q'2_7,(hO'9.pick [0,1] rfl (by decide))⟩
 intro e'1 q'1 k'8 hJ'1
 obtain ⟨from_1,dir1⟩:=o'1
 obtain ⟨rfl,q'1_6,q'1_7,hO'8⟩:=hJ'1
 refine Zax (Za (Zf (Zl (Zd v'4 q'1_6 (Zd v'6 q'1_7 (Zd v'4 rfl (Zd v'6 rfl ?_)))))))
 refine Zb (Za (Zav (zF (Zap (n:=4) (v:=v'4) rfl (Zap (n:=5) (v:=v'6) rfl zk)) ?_)))
 cases hp
 exact ⟨v'4,v'6,rfl,(hO'8.pick [0,1] rfl (by decide))⟩

theorem Zay.ok {h:Hp} {cells:List Zc} {v_cells:V} (s_cells:Sl Zh h v_cells cells) {r:(List (List Int)) × Int} (hp:Zay cells = some r) :
  ∃ u k',Is G 29 [v_cells] h u k'∧∃ (v'1:V),∃ (vs'1:List V),V.tu [v'1,.n r.2] = u∧Own (fun r=>r < h.n) h k' [eSl eV v'1 vs'1,Zbt zn vs'1 r.1]:=by
 refine WC.is (ZaQ ZdZ ?_)
 unfold Zay at hp
 let B:Nat→Prop:=(fun r=>r < h.n)
 have hO:Own B h h []:=Own.start0 h
 refine Zf (Zl (Zd (.sn) rfl (Zd (.n 0) rfl (Zb (Za (Zf (Zf ?_)))))))
 refine Zl (Zd v_cells rfl ?_)
 obtain ⟨x,hx'1,hp⟩:=Zp hp
 obtain ⟨u'1,k'1,ca'1,rfl,hW'1⟩:=zR.ok (h:=h)  (hO.rd0 s_cells.rd) hx'1
 refine Za8 (id:=66) (caps:=[]) rfl (Zx (v:=v_cells) rfl zo) ca'1 ?_
 have hO'1:=hO.call hW'1 rfl
 refine Zd (.n x) rfl (Zb (Za (Zf (Zl (Zd (.n x) rfl (Ze (ZbL (a:=x) (b:=0) rfl rfl) (Zb ?_)))))))
 refine Za ?_
 rcases Zt hp with ⟨b'1,hp⟩ | ⟨b'1,hp⟩
 ·refine zH (t:=(!(decide (x = 0)))) rfl b'1 ?_
  refine Zf (Zl (Zd (.n x) rfl (Zd (.sn) rfl (Zd (.n x) rfl (Zb (Za (Zav ?_)))))))
  refine zI ?_
  have hO'2:=hO'1.nil eV
  have hO'3:=hO'2.allNil zn 0
  refine zF (Zap (n:=2) (v:=.sn) rfl (Zap (n:=3) (v:=.n x) rfl zk)) ?_
  cases hp
  exact ⟨V.sn,[],rfl,(hO'3.pick [0,1] rfl (by decide))⟩
 ·refine zG (t:=(!(decide (x = 0)))) rfl b'1 ?_
  refine zM (Za (Zf (Zl (Zd (.sn) rfl (Zb (Za (Zf ?_)))))))
  refine Zl (Zd v_cells rfl (Ze (Zao (hO'1.rd0 s_cells.rd) rfl) ?_))
  obtain ⟨c'1,hp⟩:=Zg hp
  refine zA (hO'1.mks (E:=e_bool) (y:=false) (bytes:=1) (z:=(cells.length:Int)) hO'1.fr rfl rfl rfl c'1 (by decide)) ?_
  rintro v'2 k'2 ⟨r'1,f'1,hW⟩
  have hO'4:=hW
  refine Zd v'2 rfl (Zb (Za (Zf (Zf (Zl (Zd v_cells rfl (Ze (Zao (hO'4.rd0 s_cells.rd) rfl) ?_)))))))
  refine Zd (.n 0) rfl (Zb (Za (Zae ?_)))
  obtain ⟨o'1,ho'1,hp⟩:=Zp hp
  refine W.mono (Q:=fun e fr k=>match (generalizing:=false) o'1 with
    | l1=>e = (.exit 0)∧∃ (v'4:V),∃ (vs'3:List V),fr 5 = v'4∧Own B h k [eSl eV v'4 vs'3,Zbt zn vs'3 l1]) ?_ ?_
  ·clear hp
   have hO'6:=hO'4.nil eV
   have hO'7:=hO'6.allNil zn 0
   refine zC (fun st fr k=>match st with | (l,met,x1)=>∃ (v'3:V),∃ (vs'2:List V),fr 0 = v_cells∧fr 5 = v'3∧fr 6 = v'2∧fr 21 = .n (cells.length:Int)∧fr 22 = .n x1∧Own B h k [eSl eV v'3 vs'2,Zbt zn vs'2 l,eSl e_bool v'2 met]) ho'1 (s:=(([]:List (List Int)),List.replicate ((cells.length:Int):Int).toNat false,0)) ⟨V.sn,[],rfl,rfl,rfl,rfl,rfl,(hO'7.pick [1,2,0] rfl (by decide))⟩ ?_
   rintro ⟨l,met,x1⟩ q'2 k'4 ⟨v'3,vs'2,q'2_0,q'2_5,q'2_6,q'2_21,q'2_22,hO'8⟩ o'2 hp
   dsimp only [Zay.s0] at hp
   refine Zf (Zl (Ze (zJ (a:=x1) (b:=(cells.length:Int)) q'2_22 q'2_21) (Zb (Za (Zf ?_)))))
   rcases Zt hp with ⟨b'2,hp⟩ | ⟨b'2,hp⟩
   ·refine zH (t:=(decide (x1 < (cells.length:Int)))) rfl b'2 ?_
    refine zM (Za (Zf (Zae (Zf (Zl (Zd (.n x1) q'2_22 (Zd (.n x1) rfl ?_)))))))
    refine Zb (Za (Zf (Zf (Zl (Zd v'2 q'2_6 (Zd (.n x1) rfl ?_))))))
    obtain ⟨c'2,hp⟩:=Zg hp
    refine Ze (z3 (E:=e_bool) (z:=x1) (hO'8.sl 2 rfl) rfl rfl c'2) (Ze (zO (w:=.b (gi met x1.toNat)) (hO'8.sl 2 rfl) rfl (Zo c'2) rfl) (Zb (Za ?_)))
    rcases Zt hp with ⟨b'3,hp⟩ | ⟨b'3,hp⟩
    ·refine zH (t:=(gi met x1.toNat)) rfl b'3 ?_
     refine ZaZ (zN (Zax (Za (Zl ?_))))
     obtain ⟨c'3,hp⟩:=Zg hp
     refine Ze (zu (a:=x1) (b:=1) q'2_22 rfl c'3) (Zd (.n (x1 + 1)) rfl (Zb ?_))
     cases hp
     exact (Or.inl ⟨(l,met,x1 + 1),rfl,rfl,v'3,vs'2,q'2_0,q'2_5,q'2_6,q'2_21,rfl,(hO'8.pick [0,1,2] rfl (by decide))⟩)
    ·refine zG (t:=(gi met x1.toNat)) rfl b'3 ?_
     refine zM (Za (Zf (Zl (Zd v_cells q'2_0 (Zd (.n x1) rfl ?_)))))
     obtain ⟨⟨x2,x3⟩,hx'2,hp⟩:=Zp hp
     obtain ⟨u'2,k'5,ca'2,v'5,v'6,rfl,hW'2⟩:=Zat.ok (h:=k'4)  (hO'8.rd0 s_cells.rd) hx'2
     refine Za8 (id:=67) (caps:=[]) rfl (Zx (v:=v_cells) rfl (Zx (v:=.n x1) rfl zo)) ca'2 ?_
     have hO'9:=hO'8.call hW'2 rfl
     refine Zd (.tu [v'5,v'6]) rfl (Ze (Zbn (vs:=[v'5,v'6]) (v:=v'5) rfl rfl) (Ze (Zbn (vs:=[v'5,v'6]) (v:=v'6) rfl rfl) (Zd v'5 rfl (Zd v'6 rfl (Zb (Za (Zf ?_)))))))
     refine Zl (zA (hO'9.bsl (E:=zn) (l:=[]) hO'9.fr (by rw [ZaI]; rfl) rfl) ?_)
     rintro v'7 k'6 ⟨r'2,f'2,hW⟩
     have hO'10:=hW
     refine Zd v'7 rfl (Zb (Za (Zf (Zf (Zl (Zd v_cells q'2_0 (Ze (Zao (hO'10.rd0 s_cells.rd) rfl) ?_)))))))
     refine Zd (.n 0) rfl (Zb (Za (Zae ?_)))
     obtain ⟨o'3,ho'2,hp⟩:=Zp hp
     refine W.mono (Q:=fun e fr k=>match (generalizing:=false) o'3 with
       | (met2,part1)=>e = (.exit 2)∧∃ (v'9:V),fr 0 = v_cells∧fr 5 = v'3∧fr 6 = v'2∧fr 10 = v'9∧fr 21 = .n (cells.length:Int)∧fr 22 = .n x1∧Own B h k [eSl eV v'3 vs'2,Zbt zn vs'2 l,eSl e_bool v'2 met2,eSl zn v'9 part1]) ?_ ?_
     ·clear hp
      refine zC (fun st fr k=>match st with | (met1,part,x4)=>∃ (v'8:V),fr 0 = v_cells∧fr 5 = v'3∧fr 6 = v'2∧fr 7 = .n x1∧fr 9 = v'6∧fr 10 = v'8∧fr 21 = .n (cells.length:Int)∧fr 22 = .n x1∧fr 37 = .n (cells.length:Int)∧fr 38 = .n x4∧Own B h k [eSl eV v'3 vs'2,Zbt zn vs'2 l,eSl e_bool v'2 met1,eSl zn v'6 x3,eSl zn v'8 part]) ho'2 (s:=(met,[],0)) ⟨v'7,q'2_0,q'2_5,q'2_6,rfl,rfl,rfl,q'2_21,q'2_22,rfl,rfl,(hO'10.pick [0,1,2,4,5] rfl (by decide))⟩ ?_
      rintro ⟨met1,part,x4⟩ q'4 k'8 ⟨v'8,q'4_0,q'4_5,q'4_6,q'4_7,q'4_9,q'4_10,q'4_21,q'4_22,q'4_37,q'4_38,hO'12⟩ o'4 hp
      dsimp only [Zay.s1] at hp
      refine Zf (Zl (Ze (zJ (a:=x4) (b:=(cells.length:Int)) q'4_38 q'4_37) (Zb (Za (Zf ?_)))))
      rcases Zt hp with ⟨b'4,hp⟩ | ⟨b'4,hp⟩
      ·refine zH (t:=(decide (x4 < (cells.length:Int)))) rfl b'4 ?_
       refine zM (Za (Zf (Zae (Zf (Zl (Zd (.n x4) q'4_38 (Zd (.n x4) rfl ?_)))))))
       refine Zb (Za (Zf (Zl (Zd (.n x4) rfl (Zd (.n x1) q'4_7 (Ze (ZaS (a:=x4) (b:=x1) rfl rfl) (Zd (.b (decide (x4 = x1))) rfl ?_)))))))
       obtain ⟨t,hv'1,hp⟩:=Zp hp
       refine zT 6 (fun fr' k'=>k'8 = k'∧fr' 50 = .b t∧fr' 0 = v_cells∧fr' 10 = v'8∧fr' 11 = .n x4∧fr' 21 = .n (cells.length:Int)∧fr' 22 = .n x1∧fr' 37 = .n (cells.length:Int)∧fr' 38 = .n x4∧fr' 5 = v'3∧fr' 6 = v'2∧fr' 7 = .n x1∧fr' 9 = v'6) ?_ ?_
       ·clear hp; rcases Zt hv'1 with ⟨b'5,hp⟩ | ⟨b'5,hp⟩
        ·skip
         refine Zr rfl b'5 (Zr rfl b'5 (Zr rfl b'5 (Zr rfl b'5 (Zr rfl b'5 (Ze (zb (t:=(decide (x4 = x1))) (v:=.b t) rfl b'5 (Eq.trans (b:=V.b true) rfl (congrArg V.b (Option.some.inj hp)))) (Zb ?_))))))
         exact ⟨rfl,rfl,q'4_0,q'4_10,rfl,q'4_21,q'4_22,q'4_37,q'4_38,q'4_5,q'4_6,q'4_7,q'4_9⟩
        ·skip
         refine Z9 rfl b'5 (Zd v'6 q'4_9 (Z9 rfl b'5 (Zd (.n x4) rfl (Z9 rfl b'5 ?_))))
         obtain ⟨c'4,hp⟩:=Zg hp
         refine Ze (z3 (E:=zn) (z:=x4) (hO'12.sl 3 rfl) rfl rfl c'4) (Z9 rfl b'5 (Ze (zO (w:=.n (gi x3 x4.toNat)) (hO'12.sl 3 rfl) rfl (Zo c'4) rfl) (Z9 rfl b'5 (Ze (Zcl (a:=(gi x3 x4.toNat)) (b:=0) rfl rfl) (Ze (ZU (t:=(decide (x4 = x1))) (v:=.b t) rfl b'5 (Eq.trans (b:=V.b (decide (0≤(gi x3 x4.toNat)))) rfl (congrArg V.b (Option.some.inj hp)))) (Zb ?_))))))
         exact ⟨rfl,rfl,q'4_0,q'4_10,rfl,q'4_21,q'4_22,q'4_37,q'4_38,q'4_5,q'4_6,q'4_7,q'4_9⟩
       rintro frg'1 _ ⟨rfl,g'1_50,g'1_0,g'1_10,g'1_11,g'1_21,g'1_22,g'1_37,g'1_38,g'1_5,g'1_6,g'1_7,g'1_9⟩
       refine Zb (Za ?_)
       rcases Zt hp with ⟨b'6,hp⟩ | ⟨b'6,hp⟩
       ·refine zH (t:=t) g'1_50 b'6 ?_
        refine Zf (Zl (Zd v'2 g'1_6 (Zd (.n x4) g'1_11 ?_)))
        obtain ⟨c'5,hp⟩:=Zg hp
        refine Ze (z3 (E:=e_bool) (z:=x4) (hO'12.sl 2 rfl) rfl rfl c'5) (zA (hO'12.ste (E:=e_bool) (y:=true) (ws:=[.b true]) 2 rfl rfl (Zo c'5) rfl rfl ⟨rfl,Nat.le_of_ble_eq_true rfl,rfl⟩ rfl) ?_)
        rintro _ k'9 ⟨rfl,f'3,m'1,hW⟩
        have hO'13:=hW
        refine Zb (Za (Zl (Zd v'8 g'1_10 (Zd (.n x4) g'1_11 (zA (hO'13.bsl (E:=zn) (l:=[x4]) hO'13.fr (by rw [(z9 (v:=.n x4) rfl ZaI)]; rfl) rfl) ?_)))))
        rintro v'10 k'10 ⟨r'3,f'4,hW⟩
        have hO'14:=hW
        obtain ⟨c'6,hp⟩:=Zg hp
        refine zA (hO'14.app (E:=zn) (bytes:=8) 4 hO'14.fr rfl (hO'14.sl 5 rfl) rfl rfl (fun _=>rfl) c'6 (by decide)) ?_
        rintro v'11 k'11 ⟨f'5,hW⟩
        have hO'15:=hW
        refine Zd v'11 rfl (Zb (Zaf (Za (Zl ?_))))
        obtain ⟨c'7,hp⟩:=Zg hp
        refine Ze (zu (a:=x4) (b:=1) g'1_38 rfl c'7) (Zd (.n (x4 + 1)) rfl (Zb ?_))
        cases hp
        exact (Or.inl ⟨(met1.set x4.toNat true,part++[x4],x4 + 1),rfl,rfl,v'11,g'1_0,g'1_5,g'1_6,g'1_7,g'1_9,rfl,g'1_21,g'1_22,g'1_37,rfl,(hO'15.pick [0,1,2,3,4] rfl (by decide))⟩)
       ·refine zG (t:=t) g'1_50 b'6 ?_
        refine zM (Zaf (Za (Zl ?_)))
        obtain ⟨c'8,hp⟩:=Zg hp
        refine Ze (zu (a:=x4) (b:=1) g'1_38 rfl c'8) (Zd (.n (x4 + 1)) rfl (Zb ?_))
        cases hp
        exact (Or.inl ⟨(met1,part,x4 + 1),rfl,rfl,v'8,g'1_0,g'1_5,g'1_6,g'1_7,g'1_9,g'1_10,g'1_21,g'1_22,g'1_37,rfl,(hO'12.pick [0,1,2,3,4] rfl (by decide))⟩)
      ·refine zG (t:=(decide (x4 < (cells.length:Int)))) rfl b'4 ?_
       refine ZaZ (zN ?_)
       cases hp
       refine (Or.inr ⟨(met1,part),rfl,(fun h=>nomatch h),(fun he=>?_)⟩)
       subst he; exact ⟨rfl,v'8,q'4_0,q'4_5,q'4_6,q'4_10,q'4_21,q'4_22,(hO'12.pick [0,1,2,4] rfl (by decide))⟩
     intro e'2 q'3 k'7 hJ'2
     obtain ⟨met2,part1⟩:=o'3
     obtain ⟨rfl,v'9,q'3_0,q'3_5,q'3_6,q'3_10,q'3_21,q'3_22,hO'11⟩:=hJ'2
     refine Zax (Za (Zl (Zd v'3 q'3_5 (Zd v'9 q'3_10 (zA (hO'11.bsl (E:=eV) (l:=[v'9]) hO'11.fr (by rw [(z9 (v:=v'9) rfl ZaI)]; simp only [fill,(hO'11.sl 3 rfl).cells]; simp [over]) rfl) ?_)))))
     rintro v'12 k'12 ⟨r'4,f'6,hW⟩
     have hO'16:=hW
     obtain ⟨c'9,hp⟩:=Zg hp
     refine zA (hO'16.appV (bytes:=24) 0 hO'16.fr rfl (hO'16.sl 4 rfl) rfl rfl (by simp only [List.all_cons,List.all_nil,Bool.and_true]; exact (hO'16.sl 3 rfl).oneV) (by rw [(hO'16.allLen 1 rfl:(vs'2).length = (l).length)]; exact c'9) (by decide)) ?_
     rintro v'13 k'13 ⟨f'7,hW⟩
     have hO'17:=hW
     have hO'18:=hO'17.absorb 1 3 rfl rfl (by decide)
     refine Zd v'13 rfl (Zb (Zaf (Za (Zl ?_))))
     obtain ⟨c'10,hp⟩:=Zg hp
     refine Ze (zu (a:=x1) (b:=1) q'3_22 rfl c'10) (Zd (.n (x1 + 1)) rfl (Zb ?_))
     cases hp
     exact (Or.inl ⟨(l++[part1],met2,x1 + 1),rfl,rfl,v'13,vs'2++[v'9],q'3_0,rfl,q'3_6,q'3_21,rfl,(hO'18.pick [0,1,2] rfl (by decide))⟩)
   ·refine zG (t:=(decide (x1 < (cells.length:Int)))) rfl b'2 ?_
    refine ZaZ (zN ?_)
    cases hp
    refine (Or.inr ⟨l,rfl,(fun h=>nomatch h),(fun he=>?_)⟩)
    subst he; exact ⟨rfl,v'3,vs'2,q'2_5,(hO'8.pick [0,1] rfl (by decide))⟩
  intro e'1 q'1 k'3 hJ'1
  obtain ⟨l1,rfl⟩:∃ x,x = o'1:=⟨_,rfl⟩
  obtain ⟨rfl,v'4,vs'3,q'1_5,hO'5⟩:=hJ'1
  refine Zax (Za (Zf (Zl (Zd v'4 q'1_5 (Zd v'4 rfl (Zd (.n 0) rfl (Zb ?_)))))))
  refine Za (Zav (zF (Zap (n:=2) (v:=v'4) rfl (Zap (n:=3) (v:=.n 0) rfl zk)) ?_))
  cases hp
  exact ⟨v'4,vs'3,rfl,(hO'5.pick [0,1] rfl (by decide))⟩

theorem ZbI.ok {h:Hp} {cells:List Zc} {v_cells:V} (s_cells:Sl Zh h v_cells cells) {r:Bool} (hp:ZbI cells = some r) :
  ∃ u k',Is G 32 [v_cells] h u k'∧V.b r = u∧Own (fun r=>r < h.n) h k' []:=by
 refine WC.is (ZaQ Zea ?_)
 unfold ZbI at hp
 let B:Nat→Prop:=(fun r=>r < h.n)
 have hO:Own B h h []:=Own.start0 h
 refine Zf (Zl (Zd (.b false) rfl (Zb (Za (Zf (Zl (Zd v_cells rfl ?_)))))))
 obtain ⟨⟨x,x1⟩,hx'1,hp⟩:=Zp hp
 obtain ⟨u'1,k'1,ca'1,v'1,vs'1,rfl,hW'1⟩:=Zay.ok (h:=h)  (hO.rd0 s_cells.rd) hx'1
 refine Za8 (id:=29) (caps:=[]) rfl (Zx (v:=v_cells) rfl zo) ca'1 ?_
 have hO'1:=hO.call hW'1 rfl
 refine Zd (.tu [v'1,.n x1]) rfl (Ze (Zbn (vs:=[v'1,.n x1]) (v:=v'1) rfl rfl) (Ze (Zbn (vs:=[v'1,.n x1]) (v:=.n x1) rfl rfl) (Zd v'1 rfl (Zd (.n x1) rfl (Zb (Za (Zf ?_)))))))
 refine Zl (Zd (.n x1) rfl (Ze (ZaS (a:=x1) (b:=0) rfl rfl) (Zd (.b (decide (x1 = 0))) rfl ?_)))
 refine zT 4 (fun fr' k'=>k'1 = k'∧fr' 16 = .b ((decide (x1 = 0)) && (decide ((x.length:Int) = 1)))) ?_ ?_
 ·rcases bc (decide (x1 = 0)) with b'1 | b'1
  ·skip
   refine Z9 rfl b'1 (Zd v'1 rfl (Z9 rfl b'1 (Ze (Zgu (n:=(x).length) (hO'1.sl 0 rfl) (hO'1.allLen 1 rfl:(vs'1).length = (x).length) rfl) (Z9 rfl b'1 (Ze (ZaS (a:=(x.length:Int)) (b:=1) rfl rfl) (Ze (zb (t:=(decide (x1 = 0))) (v:=.b ((decide (x1 = 0)) && (decide ((x.length:Int) = 1)))) rfl b'1 (Eq.trans (b:=V.b (decide ((x.length:Int) = 1))) rfl (Zb8 b'1))) (Zb ?_)))))))
   exact ⟨rfl,rfl⟩
  ·skip
   refine Zr rfl b'1 (Zr rfl b'1 (Zr rfl b'1 (Ze (ZU (t:=(decide (x1 = 0))) (v:=.b ((decide (x1 = 0)) && (decide ((x.length:Int) = 1)))) rfl b'1 (Eq.trans (b:=V.b false) rfl (Zby b'1))) (Zb ?_))))
   exact ⟨rfl,rfl⟩
 rintro frg'1 _ ⟨rfl,g'1_16⟩
 refine Zd (.b ((decide (x1 = 0)) && (decide ((x.length:Int) = 1)))) g'1_16 (Zb (Za (Zav (zF (Zap (n:=2) (v:=.b ((decide (x1 = 0)) && (decide ((x.length:Int) = 1)))) rfl zk) ?_))))
 cases hp
 exact ⟨rfl,(hO'1.pick [] rfl (by decide))⟩

theorem ZaO.ok {h:Hp} {d:Zv} {cells:List Zc} {v_cells:V} (s_cells:Sl Zh h v_cells cells) {r:Bool} (hp:ZaO d cells = some r) :
  ∃ u k',Is G 220 [.ag (Zi.c d),v_cells] h u k'∧V.b r = u∧Own (fun r=>r < h.n) h k' []:=by
 refine WC.is (ZaQ Zd8 ?_)
 unfold ZaO at hp
 let B:Nat→Prop:=(fun r=>r < h.n)
 have hO:Own B h h []:=Own.start0 h
 refine Zf (Zl (zA (hO.boxd (v:=.ag (Zi.c d)) (cs:=Zi.c d) hO.fr rfl rfl) ?_))
 rintro _ k'1 ⟨r'1,rfl,n'1,f'1,hW⟩
 have hO'1:=hW
 refine Zd (.b false) rfl (Zb (Za (Zf (ZfN ?_))))
 have hW:=hO'1.bump 28
 have fr'1:=Fresh.start k'1 28
 have nb'1:∀ {i:Nat},h.n≤k'1.n + i:=Nat.le_trans hO'1.n (Nat.le_add_right _ _)
 have hO'2:=hW
 refine Zah (zU (r:=r'1) (o:=0) (o':=0) rfl rfl) (Zah (zy (cs:=(Zi.c d)) (v:=.n d.Cell) (hO'2.box 0 rfl) rfl rfl) (Zah (Zcl (a:=d.Cell) (b:=0) rfl rfl) (Zb7 (.b (decide (0≤d.Cell))) rfl ?_)))
 rcases Zt hp with ⟨b'1,hp⟩ | ⟨b'1,hp⟩
 ·skip
  refine ZcB rfl b'1 (Zah (zU (r:=r'1) (o:=0) (o':=0) rfl rfl) (ZcB rfl b'1 (Zah (zy (cs:=(Zi.c d)) (v:=.n d.Cell) (hO'2.box 0 rfl) rfl rfl) (ZcB rfl b'1 (Zb7 v_cells rfl (ZcB rfl b'1 (Zah (Zao (hO'2.rd0 s_cells.rd) rfl) ?_)))))))
  refine ZcB rfl b'1 (Zah (zJ (a:=d.Cell) (b:=(cells.length:Int)) rfl rfl) (Zah (zb (t:=(decide (0≤d.Cell))) (v:=.b (decide (d.Cell < (cells.length:Int)))) rfl b'1 rfl) (Zb7 (.b (decide (d.Cell < (cells.length:Int)))) rfl ?_)))
  rcases Zt hp with ⟨b'2,hp⟩ | ⟨b'2,hp⟩
  ·skip
   refine ZcB rfl b'2 (Zah (zU (r:=r'1) (o:=0) (o':=1) rfl rfl) (ZcB rfl b'2 (Zah (zy (cs:=(Zi.c d)) (v:=.n d.Dir) (hO'2.box 0 rfl) rfl rfl) (ZcB rfl b'2 ?_))))
   obtain ⟨x,hx'1,hp⟩:=Zp hp
   obtain ⟨u'1,k'3,ca'1,rfl,hW'1⟩:=ZaN.ok (h:=(k'1.bump 28))   hx'1
   refine Zig (id:=90) (caps:=[]) rfl (Zx (v:=.n d.Dir) rfl zo) ca'1 ?_
   have fr'2:=fr'1.call hW'1
   have hO'3:=hO'2.call hW'1 rfl
   refine Zah (zb (t:=(decide (d.Cell < (cells.length:Int)))) (v:=.b x) rfl b'2 rfl) (Zb7 (.b x) rfl ?_)
   rcases Zt hp with ⟨b'3,hp⟩ | ⟨b'3,hp⟩
   ·skip
    refine ZcB rfl b'3 (Zb7 v_cells rfl (ZcB rfl b'3 (Zah (zU (r:=r'1) (o:=0) (o':=0) rfl rfl) (ZcB rfl b'3 (Zah (zy (cs:=(Zi.c d)) (v:=.n d.Cell) (hO'3.box 0 rfl) rfl rfl) (ZcB rfl b'3 (Zah (zU (r:=r'1) (o:=0) (o':=1) rfl rfl) ?_)))))))
    refine ZcB rfl b'3 (Zah (zy (cs:=(Zi.c d)) (v:=.n d.Dir) (hO'3.box 0 rfl) rfl rfl) (ZcB rfl b'3 ?_))
    obtain ⟨c'1,hp⟩:=Zg hp
    refine Zah (z3 (E:=Zh) (z:=d.Cell) (hO'3.rd0 s_cells.rd) rfl rfl c'1) (ZcB rfl b'3 (Zah (ZaT (off':=0) (off2:=0) (hO'3.rd0 s_cells.rd) (Zo c'1) rfl rfl) (ZcB rfl b'3 ?_)))
    obtain ⟨c'2,hp⟩:=Zg hp
    refine Zah (ZaX (off:=0) (off2:=(0 + (d.Dir:Int).toNat * 1)) (z:=d.Dir) (hO'3.rd0 s_cells.rd) (Zo c'1) rfl rfl c'2 rfl) (ZcB rfl b'3 (Zah (zO (w:=.n (((gi cells (d.Cell:Int).toNat).Next).get d.Dir)) (hO'3.rd0 s_cells.rd) rfl (Zo c'1) (Zaj c'2)) (ZcB rfl b'3 (Zah (Zcl (a:=(((gi cells (d.Cell:Int).toNat).Next).get d.Dir)) (b:=0) rfl rfl) (Zah (zb (t:=x) (v:=.b (decide (0≤(((gi cells (d.Cell:Int).toNat).Next).get d.Dir)))) rfl b'3 rfl) (Zb7 (.b (decide (0≤(((gi cells (d.Cell:Int).toNat).Next).get d.Dir)))) rfl (ZcC ?_)))))))
    refine And.intro ?_ ?_
    ·intro q hq
     simp only [List.mem_cons,List.not_mem_nil,or_false] at hq
     rcases hq with rfl
     ·refine ZaG ?_ ?_
      ·exact (fun h=>nomatch h)
      ·exact (fun h=>nomatch h)
    refine Za (Zav (zF (Zap (n:=4) (v:=.b (decide (0≤(((gi cells (d.Cell:Int).toNat).Next).get d.Dir)))) rfl zk) ?_))
    cases hp
    exact ⟨rfl,(hO'3.pick [] rfl (by decide))⟩
   ·skip
    refine ZaF rfl b'3 (ZaF rfl b'3 (ZaF rfl b'3 (ZaF rfl b'3 (ZaF rfl b'3 (ZaF rfl b'3 (ZaF rfl b'3 (ZaF rfl b'3 ?_)))))))
    refine ZaF rfl b'3 (ZaF rfl b'3 (Zah (ZU (t:=x) (v:=.b false) rfl b'3 rfl) (Zb7 (.b false) rfl (ZcC ?_))))
    refine And.intro ?_ ?_
    ·intro q hq
     simp only [List.mem_cons,List.not_mem_nil,or_false] at hq
     rcases hq with rfl
     ·exact Ziw
    refine Za (Zav (zF (Zap (n:=4) (v:=.b false) rfl zk) ?_))
    cases hp
    exact ⟨rfl,(hO'3.pick [] rfl (by decide))⟩
  ·skip
   refine ZaF rfl b'2 (ZaF rfl b'2 (ZaF rfl b'2 (Zah (ZU (t:=(decide (d.Cell < (cells.length:Int)))) (v:=.b false) rfl b'2 rfl) (Zb7 (.b false) rfl (ZaF rfl rfl (ZaF rfl rfl (ZaF rfl rfl ?_)))))))
   refine ZaF rfl rfl (ZaF rfl rfl (ZaF rfl rfl (ZaF rfl rfl (ZaF rfl rfl (ZaF rfl rfl (ZaF rfl rfl (Zah (ZU (t:=false) (v:=.b false) rfl rfl rfl) ?_)))))))
   refine Zb7 (.b false) rfl (ZcC ?_)
   refine And.intro ?_ ?_
   ·intro q hq
    simp only [List.mem_cons,List.not_mem_nil,or_false] at hq
    rcases hq with rfl
    ·exact Ziw
   refine Za (Zav (zF (Zap (n:=4) (v:=.b false) rfl zk) ?_))
   cases hp
   exact ⟨rfl,(hO'2.pick [] rfl (by decide))⟩
 ·skip
  refine ZaF rfl b'1 (ZaF rfl b'1 (ZaF rfl b'1 (ZaF rfl b'1 (ZaF rfl b'1 (Zah (ZU (t:=(decide (0≤d.Cell))) (v:=.b false) rfl b'1 rfl) (Zb7 (.b false) rfl (ZaF rfl rfl ?_)))))))
  refine ZaF rfl rfl (ZaF rfl rfl (Zah (ZU (t:=false) (v:=.b false) rfl rfl rfl) (Zb7 (.b false) rfl (ZaF rfl rfl (ZaF rfl rfl (ZaF rfl rfl (ZaF rfl rfl ?_)))))))
  refine ZaF rfl rfl (ZaF rfl rfl (ZaF rfl rfl (ZaF rfl rfl (ZaF rfl rfl (ZaF rfl rfl (Zah (ZU (t:=false) (v:=.b false) rfl rfl rfl) (Zb7 (.b false) rfl ?_)))))))
  refine ZcC ?_
  refine And.intro ?_ ?_
  ·intro q hq
   simp only [List.mem_cons,List.not_mem_nil,or_false] at hq
   rcases hq with rfl
   ·exact Ziw
  refine Za (Zav (zF (Zap (n:=4) (v:=.b false) rfl zk) ?_))
  cases hp
  exact ⟨rfl,(hO'2.pick [] rfl (by decide))⟩

theorem zY.ok {h:Hp} {d:Zv} {cells:List Zc} {v_cells:V} (s_cells:Sl Zh h v_cells cells) {r:Zv} (hp:zY d cells = some r) :
  ∃ u k',Is G 221 [.ag (Zi.c d),v_cells] h u k'∧V.ag (Zi.c r) = u∧Own (fun r=>r < h.n) h k' []:=by
 refine WC.is (ZaQ ZcI ?_)
 unfold zY at hp
 let B:Nat→Prop:=(fun r=>r < h.n)
 have hO:Own B h h []:=Own.start0 h
 refine Zf (Zl (zA (hO.boxd (v:=.ag (Zi.c d)) (cs:=Zi.c d) hO.fr rfl rfl) ?_))
 rintro _ k'1 ⟨r'1,rfl,n'1,f'1,hW⟩
 have hO'1:=hW
 refine zA (hO'1.alloc (cs:=Zi.c (⟨0,0⟩:Zv)) hO'1.fr) ?_
 rintro _ k'2 ⟨r'2,rfl,n'2,f'2,hW⟩
 have hO'2:=hW
 refine Zb (Za (Zf (Zgs ?_)))
 have hW:=hO'2.bump 10
 have hO'3:=hW
 refine Za7 v_cells rfl (zm rfl (zU (r:=r'1) (o:=0) (o':=0) rfl rfl) (zm rfl (zy (cs:=(Zi.c d)) (v:=.n d.Cell) (hO'3.box 0 rfl) rfl rfl) (zm rfl (zU (r:=r'1) (o:=0) (o':=1) rfl rfl) (zm rfl (zy (cs:=(Zi.c d)) (v:=.n d.Dir) (hO'3.box 0 rfl) rfl rfl) ?_))))
 obtain ⟨c'1,hp⟩:=Zg hp
 refine zm rfl (z3 (E:=Zh) (z:=d.Cell) (hO'3.rd0 s_cells.rd) rfl rfl c'1) (zm rfl (ZaT (off':=0) (off2:=0) (hO'3.rd0 s_cells.rd) (Zo c'1) rfl rfl) ?_)
 obtain ⟨c'2,hp⟩:=Zg hp
 refine zm rfl (ZaX (off:=0) (off2:=(0 + (d.Dir:Int).toNat * 1)) (z:=d.Dir) (hO'3.rd0 s_cells.rd) (Zo c'1) rfl rfl c'2 rfl) (zm rfl (zO (w:=.n (((gi cells (d.Cell:Int).toNat).Next).get d.Dir)) (hO'3.rd0 s_cells.rd) rfl (Zo c'1) (Zaj c'2)) (Za7 (.n (((gi cells (d.Cell:Int).toNat).Next).get d.Dir)) rfl (Za4 (Za (Zf (Zf (Zl ?_)))))))
 refine Ze (ZcG (cs:=ZbO.c (⟨1,0,(-1),2⟩:A4 Int)) (by rw [(z9 (v:=.n 1) rfl (z9 (v:=.n 0) rfl (z9 (v:=.n (-1)) rfl (z9 (v:=.n 2) rfl ZaI))))]; rfl)) (Zd (.n 0) rfl (Zb (Za (Zae ?_))))
 obtain ⟨o'1,ho'1,hp⟩:=Zp hp
 refine W.mono (Q:=fun e fr k=>match (generalizing:=false) o'1 with
   | .inl _=>e = (.exit 0)∧fr 2 = .p r'1 0∧fr 4 = .p r'2 0∧Own B h k [Zac r'1 (Zi.c d),Zac r'2 (Zi.c (⟨0,0⟩:Zv))]
   | .inr x1=>e = .ret∧fr 4 = .p r'2 0∧Own B h k [Zac r'2 (Zi.c x1)]) ?_ ?_
 ·clear hp
  refine zC (fun st fr k=>match st with | x=>fr 1 = v_cells∧fr 2 = .p r'1 0∧fr 4 = .p r'2 0∧fr 5 = .n (((gi cells (d.Cell:Int).toNat).Next).get d.Dir)∧fr 18 = .ag (ZbO.c (⟨1,0,(-1),2⟩:A4 Int))∧fr 19 = .n x∧Own B h k [Zac r'1 (Zi.c d),Zac r'2 (Zi.c (⟨0,0⟩:Zv))]) ho'1 (s:=0) ⟨rfl,rfl,rfl,rfl,rfl,rfl,(hO'3.pick [0,1] rfl (by decide))⟩ ?_
  rintro x q'2 k'5 ⟨q'2_1,q'2_2,q'2_4,q'2_5,q'2_18,q'2_19,hO'5⟩ o'2 hp
  dsimp only [zY.s0] at hp
  refine Zf (Zl (Ze (zJ (a:=x) (b:=4) q'2_19 rfl) (Zb (Za (Zf ?_)))))
  rcases Zt hp with ⟨b'1,hp⟩ | ⟨b'1,hp⟩
  ·refine zH (t:=(decide (x < 4))) rfl b'1 ?_
   refine zM (Za (Zf (Zae (Zf (Zl ?_)))))
   obtain ⟨c'3,hp⟩:=Zg hp
   refine Ze (Zli (cs:=ZbO.c (⟨1,0,(-1),2⟩:A4 Int)) (z:=x) (v:=.n ((⟨1,0,(-1),2⟩:A4 Int).get x)) q'2_18 q'2_19 c'3 (Zgg c'3)) (Zd (.n ((⟨1,0,(-1),2⟩:A4 Int).get x)) rfl (Zb (Za (Zf (Zl (Zd (.n (((gi cells (d.Cell:Int).toNat).Next).get d.Dir)) q'2_5 (Ze (zU (r:=r'1) (o:=0) (o':=1) q'2_2 rfl) ?_)))))))
   refine Ze (zy (cs:=(Zi.c d)) (v:=.n d.Dir) (hO'5.box 0 rfl) rfl rfl) (Zd (.n ((⟨1,0,(-1),2⟩:A4 Int).get x)) rfl ?_)
   obtain ⟨x2,hx'1,hp⟩:=Zp hp
   obtain ⟨u'1,k'6,ca'1,rfl,hW'1⟩:=Zbd.ok (h:=k'5)   hx'1
   refine Za8 (id:=77) (caps:=[]) rfl (Zx (v:=.n d.Dir) rfl (Zx (v:=.n ((⟨1,0,(-1),2⟩:A4 Int).get x)) rfl zo)) ca'1 ?_
   have hO'6:=hO'5.call hW'1 rfl
   refine Ze (ZcG (cs:=Zi.c (⟨((gi cells (d.Cell:Int).toNat).Next).get d.Dir,x2⟩:Zv)) (by rw [(z9 (v:=.n (((gi cells (d.Cell:Int).toNat).Next).get d.Dir)) rfl (z9 (v:=.n x2) rfl ZaI))]; rfl)) (zA (hO'6.alloc (cs:=Zi.c (⟨0,0⟩:Zv)) hO'6.fr) ?_)
   rintro _ k'7 ⟨r'3,rfl,n'3,f'3,hW⟩
   have hO'7:=hW
   refine zA (hO'7.stb (ws:=Zi.c (⟨((gi cells (d.Cell:Int).toNat).Next).get d.Dir,x2⟩:Zv)) (cs':=Zi.c (⟨((gi cells (d.Cell:Int).toNat).Next).get d.Dir,x2⟩:Zv)) (v:=.ag (Zi.c (⟨((gi cells (d.Cell:Int).toNat).Next).get d.Dir,x2⟩:Zv))) 2 rfl rfl rfl rfl ⟨rfl,Nat.le_of_ble_eq_true rfl,rfl⟩ rfl) ?_
   rintro _ k'8 ⟨rfl,f'4,m'1,hW⟩
   have hO'8:=hW
   refine Zb (Za (Zf (Zl (Ze (ZaM (cs:=(Zi.c (⟨((gi cells (d.Cell:Int).toNat).Next).get d.Dir,x2⟩:Zv))) (ws:=Zi.c (⟨((gi cells (d.Cell:Int).toNat).Next).get d.Dir,x2⟩:Zv)) (hO'8.box 2 rfl) rfl rfl) (Zd v_cells q'2_1 ?_)))))
   obtain ⟨x3,hx'2,hp⟩:=Zp hp
   obtain ⟨u'2,k'9,ca'2,rfl,hW'2⟩:=ZaO.ok (h:=k'8)  (hO'8.rd0 s_cells.rd) hx'2
   refine Za8 (id:=220) (caps:=[]) rfl (Zx (v:=.ag (Zi.c (⟨((gi cells (d.Cell:Int).toNat).Next).get d.Dir,x2⟩:Zv))) rfl (Zx (v:=v_cells) rfl zo)) ca'2 ?_
   have hO'9:=hO'8.call hW'2 rfl
   refine Zb (Za ?_)
   rcases Zt hp with ⟨b'2,hp⟩ | ⟨b'2,hp⟩
   ·refine zH (t:=x3) rfl b'2 ?_
    refine Zf (Zl (Ze (ZaM (cs:=(Zi.c (⟨((gi cells (d.Cell:Int).toNat).Next).get d.Dir,x2⟩:Zv))) (ws:=Zi.c (⟨((gi cells (d.Cell:Int).toNat).Next).get d.Dir,x2⟩:Zv)) (hO'9.box 2 rfl) rfl rfl) (zA (hO'9.stb (ws:=Zi.c (⟨((gi cells (d.Cell:Int).toNat).Next).get d.Dir,x2⟩:Zv)) (cs':=Zi.c (⟨((gi cells (d.Cell:Int).toNat).Next).get d.Dir,x2⟩:Zv)) (v:=.ag (Zi.c (⟨((gi cells (d.Cell:Int).toNat).Next).get d.Dir,x2⟩:Zv))) 1 rfl q'2_4 rfl rfl ⟨rfl,Nat.le_of_ble_eq_true rfl,rfl⟩ rfl) ?_)))
    rintro _ k'10 ⟨rfl,f'5,m'2,hW⟩
    have hO'10:=hW
    refine Zb (Za (Zav (Zbs (zI ?_))))
    cases hp
    refine (Or.inr ⟨(.inr (⟨((gi cells (d.Cell:Int).toNat).Next).get d.Dir,x2⟩:Zv)),rfl,(fun h=>nomatch h),(fun he=>?_)⟩)
    subst he; exact ⟨rfl,q'2_4,(hO'10.pick [1] rfl (by decide))⟩
   ·refine zG (t:=x3) rfl b'2 ?_
    refine zM (Zaf (Za (Zl ?_)))
    obtain ⟨c'4,hp⟩:=Zg hp
    refine Ze (zu (a:=x) (b:=1) q'2_19 rfl c'4) (Zd (.n (x + 1)) rfl (Zb ?_))
    cases hp
    exact (Or.inl ⟨x + 1,rfl,rfl,q'2_1,q'2_2,q'2_4,q'2_5,q'2_18,rfl,(hO'9.pick [0,1] rfl (by decide))⟩)
  ·refine zG (t:=(decide (x < 4))) rfl b'1 ?_
   refine ZaZ (zN ?_)
   cases hp
   refine (Or.inr ⟨.inl (),rfl,(fun h=>nomatch h),(fun he=>?_)⟩)
   subst he; exact ⟨rfl,q'2_2,q'2_4,(hO'5.pick [0,1] rfl (by decide))⟩
 intro e'1 q'1 k'4 hJ'1
 rcases o'1 with _ | x1
 ·obtain ⟨rfl,q'1_2,q'1_4,hO'4⟩:=hJ'1
  refine Zax (Za (Zf (Zl (Ze (ZaM (cs:=(Zi.c d)) (ws:=Zi.c d) (hO'4.box 0 rfl) q'1_2 rfl) (zA (hO'4.stb (ws:=Zi.c d) (cs':=Zi.c d) (v:=.ag (Zi.c d)) 1 rfl q'1_4 rfl rfl ⟨rfl,Nat.le_of_ble_eq_true rfl,rfl⟩ rfl) ?_)))))
  rintro _ k'11 ⟨rfl,f'6,m'3,hW⟩
  have hO'11:=hW
  refine Zb (Za (Zav (zF (Zhq (n:=4) (v:=.ag (Zi.c d)) (r:=r'2) q'1_4 (hO'11.box 1 rfl) rfl zk) ?_)))
  cases hp
  exact ⟨rfl,(hO'11.pick [] rfl (by decide))⟩
 ·obtain ⟨rfl,q'1_4,hO'4⟩:=hJ'1
  refine Zbs (zI (zF (Zhq (n:=4) (v:=.ag (Zi.c x1)) (r:=r'2) q'1_4 (hO'4.box 0 rfl) rfl zk) ?_))
  cases hp
  exact ⟨rfl,(hO'4.pick [] rfl (by decide))⟩

theorem Zad.ok {h:Hp} {cells:List Zc} {v_cells:V} (s_cells:Sl Zh h v_cells cells) {r:(List (List Zv)) × Int} (hp:Zad cells = some r) :
  ∃ u k',Is G 203 [v_cells] h u k'∧∃ (v'1:V),∃ (vs'1:List V),V.tu [v'1,.n r.2] = u∧Own (fun r=>r < h.n) h k' [eSl eV v'1 vs'1,Zbt Zi vs'1 r.1]:=by
 refine WC.is (ZaQ ZdW ?_)
 unfold Zad at hp
 let B:Nat→Prop:=(fun r=>r < h.n)
 have hO:Own B h h []:=Own.start0 h
 refine Zf (Zl (Zd (.sn) rfl (Zd (.n 0) rfl (Zb (Za (Zf (Zf ?_)))))))
 refine Zl (Zd v_cells rfl ?_)
 obtain ⟨x,hx'1,hp⟩:=Zp hp
 obtain ⟨u'1,k'1,ca'1,rfl,hW'1⟩:=zR.ok (h:=h)  (hO.rd0 s_cells.rd) hx'1
 refine Za8 (id:=66) (caps:=[]) rfl (Zx (v:=v_cells) rfl zo) ca'1 ?_
 have hO'1:=hO.call hW'1 rfl
 refine Zd (.n x) rfl (Zb (Za (Zf (Zl (Zd (.n x) rfl (Ze (ZbL (a:=x) (b:=0) rfl rfl) (Zb ?_)))))))
 refine Za ?_
 rcases Zt hp with ⟨b'1,hp⟩ | ⟨b'1,hp⟩
 ·refine zH (t:=(!(decide (x = 0)))) rfl b'1 ?_
  refine Zf (Zl (Zd (.n x) rfl (Zd (.sn) rfl (Zd (.n x) rfl (Zb (Za (Zav ?_)))))))
  refine zI ?_
  have hO'2:=hO'1.nil eV
  have hO'3:=hO'2.allNil Zi 0
  refine zF (Zap (n:=2) (v:=.sn) rfl (Zap (n:=3) (v:=.n x) rfl zk)) ?_
  cases hp
  exact ⟨V.sn,[],rfl,(hO'3.pick [0,1] rfl (by decide))⟩
 ·refine zG (t:=(!(decide (x = 0)))) rfl b'1 ?_
  refine zM (Za (Zf (Zl (Zd (.sn) rfl (Zb (Za (Zf ?_)))))))
  refine Zl (zA (hO'1.mkm Zi hO'1.fr) ?_)
  rintro _ k'2 ⟨r'1,rfl,n'1,f'1,hW⟩
  have hO'4:=hW
  refine Zd (.mp r'1) rfl (Zb (Za (Zf (Zf (Zl (Zd v_cells rfl (Ze (Zao (hO'4.rd0 s_cells.rd) rfl) ?_)))))))
  refine Zd (.n 0) rfl (Zb (Za (Zae ?_)))
  obtain ⟨o'1,ho'1,hp⟩:=Zp hp
  refine W.mono (Q:=fun e fr k=>match (generalizing:=false) o'1 with
    | l1=>e = (.exit 0)∧∃ (v'3:V),∃ (vs'3:List V),fr 5 = v'3∧Own B h k [eSl eV v'3 vs'3,Zbt Zi vs'3 l1]) ?_ ?_
  ·clear hp
   have hO'6:=hO'4.nil eV
   have hO'7:=hO'6.allNil Zi 0
   refine zC (fun st fr k=>match st with | (l,met,x1)=>∃ (v'2:V),∃ (vs'2:List V),fr 0 = v_cells∧fr 5 = v'2∧fr 6 = .mp r'1∧fr 19 = .n (cells.length:Int)∧fr 20 = .n x1∧Own B h k [eSl eV v'2 vs'2,Zbt Zi vs'2 l,eMp Zi r'1 met]) ho'1 (s:=(([]:List (List Zv)),([]:List (Zv × Bool)),0)) ⟨V.sn,[],rfl,rfl,rfl,rfl,rfl,(hO'7.pick [1,2,0] rfl (by decide))⟩ ?_
   rintro ⟨l,met,x1⟩ q'2 k'4 ⟨v'2,vs'2,q'2_0,q'2_5,q'2_6,q'2_19,q'2_20,hO'8⟩ o'2 hp
   dsimp only [Zad.s0] at hp
   refine Zf (Zl (Ze (zJ (a:=x1) (b:=(cells.length:Int)) q'2_20 q'2_19) (Zb (Za (Zf ?_)))))
   rcases Zt hp with ⟨b'2,hp⟩ | ⟨b'2,hp⟩
   ·refine zH (t:=(decide (x1 < (cells.length:Int)))) rfl b'2 ?_
    refine zM (Za (Zf (Zae (Zf (Zl (Zd (.n x1) q'2_20 (Zd (.n x1) rfl ?_)))))))
    refine Zb (Za (Zf (Zl (Zd (.n 0) rfl (Zb (Za (Zae ?_)))))))
    obtain ⟨o'3,ho'2,hp⟩:=Zp hp
    refine W.mono (Q:=fun e fr k=>match (generalizing:=false) o'3 with
      | (l3,met2)=>e = (.exit 2)∧∃ (v'5:V),∃ (vs'5:List V),fr 0 = v_cells∧fr 5 = v'5∧fr 6 = .mp r'1∧fr 19 = .n (cells.length:Int)∧fr 20 = .n x1∧Own B h k [eSl eV v'5 vs'5,Zbt Zi vs'5 l3,eMp Zi r'1 met2]) ?_ ?_
    ·clear hp
     refine zC (fun st fr k=>match st with | (l2,met1,x2)=>∃ (v'4:V),∃ (vs'4:List V),fr 0 = v_cells∧fr 5 = v'4∧fr 6 = .mp r'1∧fr 7 = .n x1∧fr 19 = .n (cells.length:Int)∧fr 20 = .n x1∧fr 23 = .n x2∧Own B h k [eSl eV v'4 vs'4,Zbt Zi vs'4 l2,eMp Zi r'1 met1]) ho'2 (s:=(l,met,0)) ⟨v'2,vs'2,q'2_0,q'2_5,q'2_6,rfl,q'2_19,q'2_20,rfl,(hO'8.pick [0,1,2] rfl (by decide))⟩ ?_
     rintro ⟨l2,met1,x2⟩ q'4 k'6 ⟨v'4,vs'4,q'4_0,q'4_5,q'4_6,q'4_7,q'4_19,q'4_20,q'4_23,hO'10⟩ o'4 hp
     dsimp only [Zad.s1] at hp
     refine Zf (Zl (Ze (zJ (a:=x2) (b:=4) q'4_23 rfl) (Zb (Za (Zf ?_)))))
     rcases Zt hp with ⟨b'3,hp⟩ | ⟨b'3,hp⟩
     ·refine zH (t:=(decide (x2 < 4))) rfl b'3 ?_
      refine zM (Za (Zf (Zae (Zf (Zl (Zd (.n x2) q'4_23 (Zd (.n x2) rfl ?_)))))))
      refine Zb (Za (Zf (Zl (Zd (.n x1) q'4_7 (Zd (.n x2) rfl (Ze (ZcG (cs:=Zi.c (⟨x1,x2⟩:Zv)) (by rw [(z9 (v:=.n x1) rfl (z9 (v:=.n x2) rfl ZaI))]; rfl)) (zA (hO'10.alloc (cs:=Zi.c (⟨0,0⟩:Zv)) hO'10.fr) ?_)))))))
      rintro _ k'7 ⟨r'2,rfl,n'2,f'2,hW⟩
      have hO'11:=hW
      refine zA (hO'11.stb (ws:=Zi.c (⟨x1,x2⟩:Zv)) (cs':=Zi.c (⟨x1,x2⟩:Zv)) (v:=.ag (Zi.c (⟨x1,x2⟩:Zv))) 3 rfl rfl rfl rfl ⟨rfl,Nat.le_of_ble_eq_true rfl,rfl⟩ rfl) ?_
      rintro _ k'8 ⟨rfl,f'3,m'1,hW⟩
      have hO'12:=hW
      refine Zb (Za (Zf (Zf (Zl (Ze (ZaM (cs:=(Zi.c (⟨x1,x2⟩:Zv))) (ws:=Zi.c (⟨x1,x2⟩:Zv)) (hO'12.box 3 rfl) rfl rfl) (Zd v_cells q'4_0 ?_))))))
      obtain ⟨x3,hx'2,hp⟩:=Zp hp
      obtain ⟨u'2,k'9,ca'2,rfl,hW'2⟩:=ZaO.ok (h:=k'8)  (hO'12.rd0 s_cells.rd) hx'2
      refine Za8 (id:=220) (caps:=[]) rfl (Zx (v:=.ag (Zi.c (⟨x1,x2⟩:Zv))) rfl (Zx (v:=v_cells) rfl zo)) ca'2 ?_
      have hO'13:=hO'12.call hW'2 rfl
      refine Ze (Zcb (t:=x3) rfl) (Zd (.b (!x3)) rfl ?_)
      refine zT 4 (fun fr' k'=>k'9 = k'∧fr' 37 = .b ((!x3) || (Zcx false (⟨x1,x2⟩:Zv) met1))∧fr' 0 = v_cells∧fr' 19 = .n (cells.length:Int)∧fr' 20 = .n x1∧fr' 23 = .n x2∧fr' 5 = v'4∧fr' 6 = .mp r'1∧fr' 7 = .n x1∧fr' 9 = .p r'2 0) ?_ ?_
      ·rcases bc (!x3) with b'4 | b'4
       ·skip
        refine Zr rfl b'4 (Zr rfl b'4 (Zr rfl b'4 (Ze (zb (t:=(!x3)) (v:=.b ((!x3) || (Zcx false (⟨x1,x2⟩:Zv) met1))) rfl b'4 (Eq.trans (b:=V.b true) rfl (Zbx b'4))) (Zb ?_))))
        exact ⟨rfl,rfl,q'4_0,q'4_19,q'4_20,q'4_23,q'4_5,q'4_6,q'4_7,rfl⟩
       ·skip
        refine Z9 rfl b'4 (Zd (.mp r'1) q'4_6 (Z9 rfl b'4 (Ze (ZaM (cs:=(Zi.c (⟨x1,x2⟩:Zv))) (ws:=Zi.c (⟨x1,x2⟩:Zv)) (hO'13.box 3 rfl) rfl rfl) (Z9 rfl b'4 (Ze (ZjN (E:=Zi) (m:=met1) (q:=(⟨x1,x2⟩:Zv)) (hO'13.mpP 2 rfl) rfl rfl (Mu.Zi.same)) (Ze (ZU (t:=(!x3)) (v:=.b ((!x3) || (Zcx false (⟨x1,x2⟩:Zv) met1))) rfl b'4 (Eq.trans (b:=V.b (Zcx false (⟨x1,x2⟩:Zv) met1)) rfl (ZbA b'4))) (Zb ?_)))))))
        exact ⟨rfl,rfl,q'4_0,q'4_19,q'4_20,q'4_23,q'4_5,q'4_6,q'4_7,rfl⟩
      rintro frg'1 _ ⟨rfl,g'1_37,g'1_0,g'1_19,g'1_20,g'1_23,g'1_5,g'1_6,g'1_7,g'1_9⟩
      refine Zb (Za ?_)
      rcases Zt hp with ⟨b'5,hp⟩ | ⟨b'5,hp⟩
      ·refine zH (t:=((!x3) || (Zcx false (⟨x1,x2⟩:Zv) met1))) g'1_37 b'5 ?_
       refine ZaZ (zN (Zax (Za (Zl ?_))))
       obtain ⟨c'1,hp⟩:=Zg hp
       refine Ze (zu (a:=x2) (b:=1) g'1_23 rfl c'1) (Zd (.n (x2 + 1)) rfl (Zb ?_))
       cases hp
       exact (Or.inl ⟨(l2,met1,x2 + 1),rfl,rfl,v'4,vs'4,g'1_0,g'1_5,g'1_6,g'1_7,g'1_19,g'1_20,rfl,(hO'13.pick [0,1,2] rfl (by decide))⟩)
      ·refine zG (t:=((!x3) || (Zcx false (⟨x1,x2⟩:Zv) met1))) g'1_37 b'5 ?_
       refine zM (Za (Zf (Zl (Zd (.sn) rfl (Zb (Za (Zf ?_)))))))
       refine Zf (Zl (Ze (ZaM (cs:=(Zi.c (⟨x1,x2⟩:Zv))) (ws:=Zi.c (⟨x1,x2⟩:Zv)) (hO'13.box 3 rfl) g'1_9 rfl) (zA (hO'13.alloc (cs:=Zi.c (⟨0,0⟩:Zv)) hO'13.fr) ?_)))
       rintro _ k'10 ⟨r'3,rfl,n'3,f'4,hW⟩
       have hO'14:=hW
       refine zA (hO'14.stb (ws:=Zi.c (⟨x1,x2⟩:Zv)) (cs':=Zi.c (⟨x1,x2⟩:Zv)) (v:=.ag (Zi.c (⟨x1,x2⟩:Zv))) 4 rfl rfl rfl rfl ⟨rfl,Nat.le_of_ble_eq_true rfl,rfl⟩ rfl) ?_
       rintro _ k'11 ⟨rfl,f'5,m'2,hW⟩
       have hO'15:=hW
       refine Zb (Za (Zae ?_))
       obtain ⟨o'5,ho'3,hp⟩:=Zp hp
       refine W.mono (Q:=fun e fr k=>match (generalizing:=false) o'5 with
         | (met4,f1)=>e = (.exit 4)∧∃ (v'7:V),fr 0 = v_cells∧fr 5 = v'4∧fr 6 = .mp r'1∧fr 7 = .n x1∧fr 10 = v'7∧fr 19 = .n (cells.length:Int)∧fr 20 = .n x1∧fr 23 = .n x2∧Own B h k [eSl eV v'4 vs'4,Zbt Zi vs'4 l2,eMp Zi r'1 met4,eSl Zi v'7 f1]) ?_ ?_
       ·clear hp
        have hO'17:=hO'15.nil Zi
        refine zC (fun st fr k=>match st with | (met3,f,x4)=>∃ (v'6:V),∃ (r'4:Nat),fr 0 = v_cells∧fr 5 = v'4∧fr 6 = .mp r'1∧fr 7 = .n x1∧fr 10 = v'6∧fr 11 = .p r'4 0∧fr 19 = .n (cells.length:Int)∧fr 20 = .n x1∧fr 23 = .n x2∧Own B h k [eSl eV v'4 vs'4,Zbt Zi vs'4 l2,eMp Zi r'1 met3,eSl Zi v'6 f,Zac r'4 (Zi.c x4)]) ho'3 (s:=(met1,([]:List Zv),(⟨x1,x2⟩:Zv))) ⟨V.sn,r'3,g'1_0,g'1_5,g'1_6,g'1_7,rfl,rfl,g'1_19,g'1_20,g'1_23,(hO'17.pick [0,1,2,5,4] rfl (by decide))⟩ ?_
        rintro ⟨met3,f,x4⟩ q'6 k'13 ⟨v'6,r'4,q'6_0,q'6_5,q'6_6,q'6_7,q'6_10,q'6_11,q'6_19,q'6_20,q'6_23,hO'18⟩ o'6 hp
        dsimp only [Zad.s2] at hp
        refine Zf (Zf (Zl (Zd (.mp r'1) q'6_6 (Ze (ZaM (cs:=(Zi.c x4)) (ws:=Zi.c x4) (hO'18.box 4 rfl) q'6_11 rfl) (Ze (ZjN (E:=Zi) (m:=met3) (q:=x4) (hO'18.mpP 2 rfl) rfl rfl (Mu.Zi.same)) (Ze (Zcb (t:=(Zcx false x4 met3)) rfl) (Zb ?_)))))))
        refine Za ?_
        rcases Zt hp with ⟨b'6,hp⟩ | ⟨b'6,hp⟩
        ·refine zH (t:=(!(Zcx false x4 met3))) rfl b'6 ?_
         refine zM (Za (Zf (Zae (Zf (Zl (Zd (.mp r'1) q'6_6 (Ze (ZaM (cs:=(Zi.c x4)) (ws:=Zi.c x4) (hO'18.box 4 rfl) q'6_11 rfl) ?_)))))))
         refine zA (hO'18.mup (E:=Zi) (m:=met3) (q:=x4) (v:=true) 2 rfl rfl rfl rfl (Mu.Zi.same)) ?_
         rintro _ k'14 ⟨rfl,f'6,m'3,hW⟩
         have hO'19:=hW
         refine Zb (Za (Zl (Zd v'6 q'6_10 (Ze (ZaM (cs:=(Zi.c x4)) (ws:=Zi.c x4) (hO'19.box 4 rfl) q'6_11 rfl) (zA (hO'19.bsl (E:=Zi) (l:=[x4]) hO'19.fr (by rw [(z9 (v:=.ag (Zi.c x4)) rfl ZaI)]; rfl) rfl) ?_)))))
         rintro v'8 k'15 ⟨r'5,f'7,hW⟩
         have hO'20:=hW
         obtain ⟨c'2,hp⟩:=Zg hp
         refine zA (hO'20.app (E:=Zi) (bytes:=16) 3 hO'20.fr rfl (hO'20.sl 5 rfl) rfl rfl (fun _=>rfl) c'2 (by decide)) ?_
         rintro v'9 k'16 ⟨f'8,hW⟩
         have hO'21:=hW
         refine Zd v'9 rfl (Zb (Zaf (Za (Zf (Zf (Zl (Ze (ZaM (cs:=(Zi.c x4)) (ws:=Zi.c x4) (hO'21.box 4 rfl) q'6_11 rfl) ?_)))))))
         refine Zb (Za (Zl (zA (hO'21.alloc (cs:=Zi.c (⟨0,0⟩:Zv)) hO'21.fr) ?_)))
         rintro _ k'17 ⟨r'6,rfl,n'4,f'9,hW⟩
         have hO'22:=hW
         refine zA (hO'22.stb (ws:=Zi.c x4) (cs':=Zi.c x4) (v:=.ag (Zi.c x4)) 6 rfl rfl rfl rfl ⟨rfl,Nat.le_of_ble_eq_true rfl,rfl⟩ rfl) ?_
         rintro _ k'18 ⟨rfl,f'10,m'4,hW⟩
         have hO'23:=hW
         refine Zb (Za (Zl (Ze (ZaM (cs:=(Zi.c x4)) (ws:=Zi.c x4) (hO'23.box 6 rfl) rfl rfl) (Zd v_cells q'6_0 ?_))))
         obtain ⟨x5,hx'3,hp⟩:=Zp hp
         obtain ⟨u'3,k'19,ca'3,rfl,hW'3⟩:=zY.ok (h:=k'18)  (hO'23.rd0 s_cells.rd) hx'3
         refine Za8 (id:=221) (caps:=[]) rfl (Zx (v:=.ag (Zi.c x4)) rfl (Zx (v:=v_cells) rfl zo)) ca'3 ?_
         have hO'24:=hO'23.call hW'3 rfl
         refine zA (hO'24.stb (ws:=Zi.c x5) (cs':=Zi.c x5) (v:=.ag (Zi.c x5)) 6 rfl rfl rfl rfl ⟨rfl,Nat.le_of_ble_eq_true rfl,rfl⟩ rfl) ?_
         rintro _ k'20 ⟨rfl,f'11,m'5,hW⟩
         have hO'25:=hW
         refine Zb ?_
         cases hp
         exact (Or.inl ⟨(Zdz x4 true met3,f++[x4],x5),rfl,rfl,v'9,r'6,q'6_0,q'6_5,q'6_6,q'6_7,rfl,rfl,q'6_19,q'6_20,q'6_23,(hO'25.pick [0,1,2,3,6] rfl (by decide))⟩)
        ·refine zG (t:=(!(Zcx false x4 met3))) rfl b'6 ?_
         refine ZaZ (zN ?_)
         cases hp
         refine (Or.inr ⟨(met3,f),rfl,(fun h=>nomatch h),(fun he=>?_)⟩)
         subst he; exact ⟨rfl,v'6,q'6_0,q'6_5,q'6_6,q'6_7,q'6_10,q'6_19,q'6_20,q'6_23,(hO'18.pick [0,1,2,3] rfl (by decide))⟩
       intro e'3 q'5 k'12 hJ'3
       obtain ⟨met4,f1⟩:=o'5
       obtain ⟨rfl,v'7,q'5_0,q'5_5,q'5_6,q'5_7,q'5_10,q'5_19,q'5_20,q'5_23,hO'16⟩:=hJ'3
       refine Zax (Za (Zl (Zd v'4 q'5_5 (Zd v'7 q'5_10 (zA (hO'16.bsl (E:=eV) (l:=[v'7]) hO'16.fr (by rw [(z9 (v:=v'7) rfl ZaI)]; simp only [fill,(hO'16.sl 3 rfl).cells]; simp [over]) rfl) ?_)))))
       rintro v'10 k'21 ⟨r'7,f'12,hW⟩
       have hO'26:=hW
       obtain ⟨c'3,hp⟩:=Zg hp
       refine zA (hO'26.appV (bytes:=24) 0 hO'26.fr rfl (hO'26.sl 4 rfl) rfl rfl (by simp only [List.all_cons,List.all_nil,Bool.and_true]; exact (hO'26.sl 3 rfl).oneV) (by rw [(hO'26.allLen 1 rfl:(vs'4).length = (l2).length)]; exact c'3) (by decide)) ?_
       rintro v'11 k'22 ⟨f'13,hW⟩
       have hO'27:=hW
       have hO'28:=hO'27.absorb 1 3 rfl rfl (by decide)
       refine Zd v'11 rfl (Zb (Zaf (Za (Zl ?_))))
       obtain ⟨c'4,hp⟩:=Zg hp
       refine Ze (zu (a:=x2) (b:=1) q'5_23 rfl c'4) (Zd (.n (x2 + 1)) rfl (Zb ?_))
       cases hp
       exact (Or.inl ⟨(l2++[f1],met4,x2 + 1),rfl,rfl,v'11,vs'4++[v'7],q'5_0,rfl,q'5_6,q'5_7,q'5_19,q'5_20,rfl,(hO'28.pick [0,1,2] rfl (by decide))⟩)
     ·refine zG (t:=(decide (x2 < 4))) rfl b'3 ?_
      refine ZaZ (zN ?_)
      cases hp
      refine (Or.inr ⟨(l2,met1),rfl,(fun h=>nomatch h),(fun he=>?_)⟩)
      subst he; exact ⟨rfl,v'4,vs'4,q'4_0,q'4_5,q'4_6,q'4_19,q'4_20,(hO'10.pick [0,1,2] rfl (by decide))⟩
    intro e'2 q'3 k'5 hJ'2
    obtain ⟨l3,met2⟩:=o'3
    obtain ⟨rfl,v'5,vs'5,q'3_0,q'3_5,q'3_6,q'3_19,q'3_20,hO'9⟩:=hJ'2
    refine Zax (Zaf (Za (Zl ?_)))
    obtain ⟨c'5,hp⟩:=Zg hp
    refine Ze (zu (a:=x1) (b:=1) q'3_20 rfl c'5) (Zd (.n (x1 + 1)) rfl (Zb ?_))
    cases hp
    exact (Or.inl ⟨(l3,met2,x1 + 1),rfl,rfl,v'5,vs'5,q'3_0,q'3_5,q'3_6,q'3_19,rfl,(hO'9.pick [0,1,2] rfl (by decide))⟩)
   ·refine zG (t:=(decide (x1 < (cells.length:Int)))) rfl b'2 ?_
    refine ZaZ (zN ?_)
    cases hp
    refine (Or.inr ⟨l,rfl,(fun h=>nomatch h),(fun he=>?_)⟩)
    subst he; exact ⟨rfl,v'2,vs'2,q'2_5,(hO'8.pick [0,1] rfl (by decide))⟩
  intro e'1 q'1 k'3 hJ'1
  obtain ⟨l1,rfl⟩:∃ x,x = o'1:=⟨_,rfl⟩
  obtain ⟨rfl,v'3,vs'3,q'1_5,hO'5⟩:=hJ'1
  refine Zax (Za (Zf (Zl (Zd v'3 q'1_5 (Zd v'3 rfl (Zd (.n 0) rfl (Zb ?_)))))))
  refine Za (Zav (zF (Zap (n:=2) (v:=v'3) rfl (Zap (n:=3) (v:=.n 0) rfl zk)) ?_))
  cases hp
  exact ⟨v'3,vs'3,rfl,(hO'5.pick [0,1] rfl (by decide))⟩

theorem Zb5.ok {h:Hp} {d:Int} {e_:Int}   {r:Int} (hp:Zb5 d e_ = some r) :
  ∃ u k',Is G 222 [.n d,.n e_] h u k'∧V.n r = u∧Own (fun r=>r < h.n) h k' []:=by
 refine WC.is (ZaQ Zd7 ?_)
 unfold Zb5 at hp
 let B:Nat→Prop:=(fun r=>r < h.n)
 have hO:Own B h h []:=Own.start0 h
 refine Zf (Zl (Zd (.n 0) rfl (Zb (Za (Zf (Zf (Zl ?_)))))))
 refine Zd (.n d) rfl ?_
 obtain ⟨x,hx'1,hp⟩:=Zp hp
 obtain ⟨u'1,k'1,ca'1,rfl,hW'1⟩:=ZaN.ok (h:=h)   hx'1
 refine Za8 (id:=90) (caps:=[]) rfl (Zx (v:=.n d) rfl zo) ca'1 ?_
 have hO'1:=hO.call hW'1 rfl
 refine Ze (Zcb (t:=x) rfl) (Zd (.b (!x)) rfl ?_)
 obtain ⟨t,hv'1,hp⟩:=Zp hp
 refine zT 4 (fun fr' k'=>Own B h k' []∧fr' 12 = .b t∧fr' 0 = .n d∧fr' 1 = .n e_) ?_ ?_
 ·clear hp; rcases Zt hv'1 with ⟨b'1,hp⟩ | ⟨b'1,hp⟩
  ·skip
   refine Zr rfl b'1 (Zr rfl b'1 (Zr rfl b'1 (Ze (zb (t:=(!x)) (v:=.b t) rfl b'1 (Eq.trans (b:=V.b true) rfl (congrArg V.b (Option.some.inj hp)))) (Zb ?_))))
   exact ⟨hO'1.pick [] rfl (by decide),rfl,rfl,rfl⟩
  ·skip
   refine Z9 rfl b'1 (Zd (.n e_) rfl (Z9 rfl b'1 ?_))
   obtain ⟨x1,hx'2,hp⟩:=Zp hp
   obtain ⟨u'2,k'2,ca'2,rfl,hW'2⟩:=ZaN.ok (h:=k'1)   hx'2
   refine Za8 (id:=90) (caps:=[]) rfl (Zx (v:=.n e_) rfl zo) ca'2 ?_
   have hO'2:=hO'1.call hW'2 rfl
   refine Z9 rfl b'1 (Ze (Zcb (t:=x1) rfl) (Ze (ZU (t:=(!x)) (v:=.b t) rfl b'1 (Eq.trans (b:=V.b (!x1)) rfl (congrArg V.b (Option.some.inj hp)))) (Zb ?_)))
   exact ⟨hO'2.pick [] rfl (by decide),rfl,rfl,rfl⟩
 rintro frg'1 k'3 ⟨hO'3,g'1_12,g'1_0,g'1_1⟩
 refine Zb (Za ?_)
 rcases Zt hp with ⟨b'2,hp⟩ | ⟨b'2,hp⟩
 ·refine zH (t:=t) g'1_12 b'2 ?_
  refine Zf (Zl (Zd (.n 0) rfl (Zb (Za (Zav (zI (zF (Zap (n:=4) (v:=.n 0) rfl zk) ?_)))))))
  cases hp
  exact ⟨rfl,(hO'3.pick [] rfl (by decide))⟩
 ·refine zG (t:=t) g'1_12 b'2 ?_
  refine zM (Za (Zf (Zl (Ze (ZcG (cs:=ZbO.c (⟨0,1,(-2),(-1)⟩:A4 Int)) (by rw [(z9 (v:=.n 0) rfl (z9 (v:=.n 1) rfl (z9 (v:=.n (-2)) rfl (z9 (v:=.n (-1)) rfl ZaI))))]; rfl)) (Zd (.n e_) g'1_1 (Zd (.n d) g'1_0 ?_))))))
  obtain ⟨c'1,hp⟩:=Zg hp
  refine Ze (Zlk (a:=e_) (b:=d) rfl rfl c'1) ?_
  obtain ⟨c'2,hp⟩:=Zg hp
  refine Ze (zu (a:=(e_ - d)) (b:=4) rfl rfl c'2) (Ze (ZbJ (a:=((e_ - d) + 4)) (b:=4) rfl rfl (by decide)) ?_)
  obtain ⟨c'3,hp⟩:=Zg hp
  refine Ze (Zli (cs:=ZbO.c (⟨0,1,(-2),(-1)⟩:A4 Int)) (z:=(((e_ - d) + 4).tmod 4)) (v:=.n ((⟨0,1,(-2),(-1)⟩:A4 Int).get (((e_ - d) + 4).tmod 4))) rfl rfl c'3 (Zgg c'3)) (Zd (.n ((⟨0,1,(-2),(-1)⟩:A4 Int).get (((e_ - d) + 4).tmod 4))) rfl (Zb (Za (Zav (zF (Zap (n:=4) (v:=.n ((⟨0,1,(-2),(-1)⟩:A4 Int).get (((e_ - d) + 4).tmod 4))) rfl zk) ?_)))))
  cases hp
  exact ⟨rfl,(hO'3.pick [] rfl (by decide))⟩

theorem ZaY.ok {h:Hp} {cells:List Zc} {f:List Zv} {v_cells:V} {v_f:V} (s_cells:Sl Zh h v_cells cells) (s_f:Sl Zi h v_f f) {r:(List Int)} (hp:ZaY cells f = some r) :
  ∃ u k',Is G 204 [v_cells,v_f] h u k'∧∃ (v'1:V),v'1 = u∧Own (fun r=>r < h.n) h k' [eSl zn v'1 r]:=by
 refine WC.is (ZaQ ZdX ?_)
 unfold ZaY at hp
 let B:Nat→Prop:=(fun r=>r < h.n)
 have hO:Own B h h []:=Own.start0 h
 refine Zf (Zl (Zd (.sn) rfl (Zb (Za (Zf (Zl (Zd v_f rfl ?_)))))))
 refine Ze (Zao (hO.rd0 s_f.rd) rfl) ?_
 obtain ⟨c'1,hp⟩:=Zg hp
 refine zA (hO.mks (E:=zn) (y:=(0:Int)) (bytes:=8) (z:=(f.length:Int)) hO.fr rfl rfl rfl c'1 (by decide)) ?_
 rintro v'2 k'1 ⟨r'1,f'1,hW⟩
 have hO'1:=hW
 refine Zd v'2 rfl (Zb (Za (Zf (Zf (Zl (Zd v_cells rfl ?_))))))
 obtain ⟨x,hx'1,hp⟩:=Zp hp
 obtain ⟨u'1,k'2,ca'1,rfl,hW'1⟩:=zR.ok (h:=k'1)  (hO'1.rd0 s_cells.rd) hx'1
 refine Za8 (id:=66) (caps:=[]) rfl (Zx (v:=v_cells) rfl zo) ca'1 ?_
 have hO'2:=hO'1.call hW'1 rfl
 refine Ze (ZbL (a:=x) (b:=0) rfl rfl) (Zb (Za ?_))
 rcases Zt hp with ⟨b'1,hp⟩ | ⟨b'1,hp⟩
 ·refine zH (t:=(!(decide (x = 0)))) rfl b'1 ?_
  refine Zf (Zl (Zd v'2 rfl (Zd v'2 rfl (Zb (Za (Zav (zI ?_)))))))
  refine zF (Zap (n:=4) (v:=v'2) rfl zk) ?_
  cases hp
  exact ⟨v'2,rfl,(hO'2.pick [0] rfl (by decide))⟩
 ·refine zG (t:=(!(decide (x = 0)))) rfl b'1 ?_
  refine zM (Za (Zf (Zf (Zl (Zd v_f rfl (Ze (Zao (hO'2.rd0 s_f.rd) rfl) (Zd (.n 0) rfl ?_)))))))
  refine Zb (Za (Zae ?_))
  obtain ⟨o'1,ho'1,hp⟩:=Zp hp
  refine W.mono (Q:=fun e fr k=>match (generalizing:=false) o'1 with
    | l1=>e = (.exit 0)∧fr 5 = v'2∧Own B h k [eSl zn v'2 l1]) ?_ ?_
  ·clear hp
   refine zC (fun st fr k=>match st with | (l,x1)=>fr 0 = v_cells∧fr 5 = v'2∧fr 15 = v_f∧fr 16 = .n (f.length:Int)∧fr 17 = .n x1∧Own B h k [eSl zn v'2 l]) ho'1 (s:=(List.replicate ((f.length:Int):Int).toNat (0:Int),0)) ⟨rfl,rfl,rfl,rfl,rfl,(hO'2.pick [0] rfl (by decide))⟩ ?_
   rintro ⟨l,x1⟩ q'2 k'4 ⟨q'2_0,q'2_5,q'2_15,q'2_16,q'2_17,hO'4⟩ o'2 hp
   dsimp only [ZaY.s0] at hp
   refine Zf (Zl (Ze (zJ (a:=x1) (b:=(f.length:Int)) q'2_17 q'2_16) (Zb (Za (Zf ?_)))))
   rcases Zt hp with ⟨b'2,hp⟩ | ⟨b'2,hp⟩
   ·refine zH (t:=(decide (x1 < (f.length:Int)))) rfl b'2 ?_
    refine zM (Za (Zf (Zae (Zf (Zl (Zd (.n x1) q'2_17 ?_))))))
    obtain ⟨c'2,hp⟩:=Zg hp
    refine Ze (z3 (E:=Zi) (z:=x1) (hO'4.rd0 s_f.rd) q'2_15 q'2_17 c'2) (Ze (Ze4 (E:=Zi) (hO'4.rd0 s_f.rd) rfl (Zo c'2)) (zA (hO'4.alloc (cs:=Zi.c (⟨0,0⟩:Zv)) hO'4.fr) ?_))
    rintro _ k'5 ⟨r'2,rfl,n'1,f'2,hW⟩
    have hO'5:=hW
    refine Zd (.n x1) rfl (zA (hO'5.stb (ws:=Zi.c (gi f x1.toNat)) (cs':=Zi.c (gi f x1.toNat)) (v:=.ag (Zi.c (gi f x1.toNat))) 1 rfl rfl rfl rfl ⟨rfl,Nat.le_of_ble_eq_true rfl,rfl⟩ rfl) ?_)
    rintro _ k'6 ⟨rfl,f'3,m'1,hW⟩
    have hO'6:=hW
    refine Zb (Za (Zf (Zl (Ze (ZaM (cs:=(Zi.c (gi f x1.toNat))) (ws:=Zi.c (gi f x1.toNat)) (hO'6.box 1 rfl) rfl rfl) (Zd v_cells q'2_0 ?_)))))
    obtain ⟨x2,hx'2,hp⟩:=Zp hp
    obtain ⟨u'2,k'7,ca'2,rfl,hW'2⟩:=ZaO.ok (h:=k'6)  (hO'6.rd0 s_cells.rd) hx'2
    refine Za8 (id:=220) (caps:=[]) rfl (Zx (v:=.ag (Zi.c (gi f x1.toNat))) rfl (Zx (v:=v_cells) rfl zo)) ca'2 ?_
    have hO'7:=hO'6.call hW'2 rfl
    refine Zb (Za ?_)
    rcases Zt hp with ⟨b'3,hp⟩ | ⟨b'3,hp⟩
    ·refine zH (t:=x2) rfl b'3 ?_
     refine ZfN ?_
     have hW:=hO'7.bump 11
     have fr'1:=Fresh.start k'7 11
     have nb'1:∀ {i:Nat},h.n≤k'7.n + i:=Nat.le_trans hO'7.n (Nat.le_add_right _ _)
     have hO'8:=hW
     refine Zb7 v'2 q'2_5 (Zb7 (.n x1) rfl (Zah (zU (r:=r'2) (o:=0) (o':=1) rfl rfl) (Zah (zy (cs:=(Zi.c (gi f x1.toNat))) (v:=.n ((gi f x1.toNat).Dir)) (hO'8.box 1 rfl) rfl rfl) (Zah (ZaM (cs:=(Zi.c (gi f x1.toNat))) (ws:=Zi.c (gi f x1.toNat)) (hO'8.box 1 rfl) rfl rfl) (Zb7 v_cells q'2_0 ?_)))))
     obtain ⟨x3,hx'3,hp⟩:=Zp hp
     obtain ⟨u'3,k'9,ca'3,rfl,hW'3⟩:=zY.ok (h:=(k'7.bump 11))  (hO'8.rd0 s_cells.rd) hx'3
     refine Zig (id:=221) (caps:=[]) rfl (Zx (v:=.ag (Zi.c (gi f x1.toNat))) rfl (Zx (v:=v_cells) rfl zo)) ca'3 ?_
     have fr'2:=fr'1.call hW'3
     have hO'9:=hO'8.call hW'3 rfl
     refine Zah (ZjM (cs:=Zi.c x3) (v:=.n x3.Dir) rfl rfl) ?_
     obtain ⟨x4,hx'4,hp⟩:=Zp hp
     obtain ⟨u'4,k'10,ca'4,rfl,hW'4⟩:=Zb5.ok (h:=k'9)   hx'4
     refine Zig (id:=222) (caps:=[]) rfl (Zx (v:=.n ((gi f x1.toNat).Dir)) rfl (Zx (v:=.n x3.Dir) rfl zo)) ca'4 ?_
     have fr'3:=fr'2.call hW'4
     have hO'10:=hO'9.call hW'4 rfl
     obtain ⟨c'3,hp⟩:=Zg hp
     refine Zah (z3 (E:=zn) (z:=x1) (hO'10.sl 0 rfl) rfl rfl c'3) (Zfc (hO'10.ste (E:=zn) (y:=x4) (ws:=[.n x4]) 0 rfl rfl (Zo c'3) rfl rfl ⟨rfl,Nat.le_of_ble_eq_true rfl,rfl⟩ rfl) ?_)
     rintro _ k'11 z'1 ⟨rfl,f'4,m'2,hW⟩
     have fr'4:=fr'3.kept f'4 (by decide)
     have hO'11:=hW
     refine ZcC ?_
     refine And.intro ?_ ?_
     ·intro q hq
      simp only [List.mem_cons,List.not_mem_nil,or_false] at hq
      rcases hq with rfl | rfl
      ·refine ZaG ?_ ?_
       ·exact (fun h=>nomatch h)
       ·exact (fun h=>nomatch h)
      ·refine Zll rfl rfl ?_
       ·exact (fun r hm hc=>hc (hW'3.base r (Nat.lt_of_lt_of_le (hO'7.ltAt 1 rfl _ (tch (v:=V.p r'2 1) (Zdy hm) rfl)) (Nat.le_trans (Nat.le_add_right _ _) fr'1.n))))
     refine Zaf (Za (Zl ?_))
     obtain ⟨c'4,hp⟩:=Zg hp
     refine Ze (zu (a:=x1) (b:=1) q'2_17 rfl c'4) (Zd (.n (x1 + 1)) rfl (Zb ?_))
     cases hp
     exact (Or.inl ⟨(l.set x1.toNat x4,x1 + 1),rfl,rfl,q'2_0,q'2_5,q'2_15,q'2_16,rfl,(hO'11.pick [0] rfl (by decide))⟩)
    ·refine zG (t:=x2) rfl b'3 ?_
     refine zM (Zaf (Za (Zl ?_)))
     obtain ⟨c'5,hp⟩:=Zg hp
     refine Ze (zu (a:=x1) (b:=1) q'2_17 rfl c'5) (Zd (.n (x1 + 1)) rfl (Zb ?_))
     cases hp
     exact (Or.inl ⟨(l,x1 + 1),rfl,rfl,q'2_0,q'2_5,q'2_15,q'2_16,rfl,(hO'7.pick [0] rfl (by decide))⟩)
   ·refine zG (t:=(decide (x1 < (f.length:Int)))) rfl b'2 ?_
    refine ZaZ (zN ?_)
    cases hp
    refine (Or.inr ⟨l,rfl,(fun h=>nomatch h),(fun he=>?_)⟩)
    subst he; exact ⟨rfl,q'2_5,(hO'4.pick [0] rfl (by decide))⟩
  intro e'1 q'1 k'3 hJ'1
  obtain ⟨l1,rfl⟩:∃ x,x = o'1:=⟨_,rfl⟩
  obtain ⟨rfl,q'1_5,hO'3⟩:=hJ'1
  refine Zax (Za (Zf (Zl (Zd v'2 q'1_5 (Zd v'2 rfl (Zb (Za ?_)))))))
  refine Zav (zF (Zap (n:=4) (v:=v'2) rfl zk) ?_)
  cases hp
  exact ⟨v'2,rfl,(hO'3.pick [0] rfl (by decide))⟩

end Mu
