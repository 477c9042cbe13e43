/- The code comes to what was worked out. -/
import Derived.Test.YtdefkboekpjiiaaMuDf
import Derived.Test.YtdefkboekpjiiaaMuPa
import Derived.Test.YtdefkboekpjiiaaMuC0
set_option linter.unusedVariables false
set_option linter.unnecessarySimpa false
set_option linter.unusedSimpArgs false
set_option maxHeartbeats 2000000
set_option maxRecDepth 10000
namespace Mu
open Go (IntKind BinOp UnOp)
theorem zq.ok {h:Hp} {l:List Za} {v:Int} {d:Int} {w:Int} {o:Int} {v_l:V} (H:Own (Bm h [eSl Zh v_l l]) h h [eSl Zh v_l l]) {r:(List Za) × Int} (hp:zq l v d w o = some r) :
  ∃ u k',Is G 53 [v_l,.n v,.n d,.n w,.n o] h u k'∧∃ (v'1:V),V.tu [v'1,.n r.2] = u∧Own (Bm h [eSl Zh v_l l]) h k' [eSl Zh v'1 r.1]:=by
 refine WC.is (Za0 ZbD ?_)
 unfold zq at hp
 let B:Nat→Prop:=(Bm h [eSl Zh v_l l])
 have hO:Own B h h [eSl Zh v_l l]:=H
 refine Zm (Zs (Zd (.sn) rfl (Zd (.n 0) rfl (Zc (Zb (Zm (Zm ?_)))))))
 refine Zs (Zd (.n v) rfl (Zi (z4 (a:=v) (b:=0) rfl rfl) (Zd (.b (decide (v < 0))) rfl ?_)))
 refine zU 5 (fun fr' k'=>h = k'∧fr' 20 = .b ((decide (v < 0)) || (decide ((l.length:Int)≤v)))∧fr' 0 = v_l∧fr' 1 = .n v∧fr' 2 = .n d∧fr' 3 = .n w∧fr' 4 = .n o) ?_ ?_
 ·rcases bc (decide (v < 0)) with b'1 | b'1
  ·skip
   refine ZC rfl b'1 (ZC rfl b'1 (ZC rfl b'1 (ZC rfl b'1 (Zi (ZV (t:=(decide (v < 0))) (v:=.b ((decide (v < 0)) || (decide ((l.length:Int)≤v)))) rfl b'1 (Eq.trans (b:=V.b true) rfl (Zbz b'1))) (Zc ?_)))))
   exact ⟨rfl,rfl,rfl,rfl,rfl,rfl,rfl⟩
  ·skip
   refine ZO rfl b'1 (Zd (.n v) rfl (ZO rfl b'1 (Zd v_l rfl (ZO rfl b'1 (Zi (Zam (hO.sl 0 rfl) rfl) (ZO rfl b'1 (Zi (Zcx (a:=v) (b:=(l.length:Int)) rfl rfl) ?_)))))))
   refine Zi (ZT (t:=(decide (v < 0))) (v:=.b ((decide (v < 0)) || (decide ((l.length:Int)≤v)))) rfl b'1 (Eq.trans (b:=V.b (decide ((l.length:Int)≤v))) rfl (Zcn b'1))) (Zc ?_)
   exact ⟨rfl,rfl,rfl,rfl,rfl,rfl,rfl⟩
 rintro frg'1 _ ⟨rfl,g'1_20,g'1_0,g'1_1,g'1_2,g'1_3,g'1_4⟩
 refine Zd (.b ((decide (v < 0)) || (decide ((l.length:Int)≤v)))) g'1_20 ?_
 refine zU 3 (fun fr' k'=>h = k'∧fr' 24 = .b (((decide (v < 0)) || (decide ((l.length:Int)≤v))) || (decide (w < 0)))∧fr' 0 = v_l∧fr' 1 = .n v∧fr' 2 = .n d∧fr' 3 = .n w∧fr' 4 = .n o) ?_ ?_
 ·rcases bc ((decide (v < 0)) || (decide ((l.length:Int)≤v))) with b'2 | b'2
  ·skip
   refine ZC rfl b'2 (ZC rfl b'2 (Zi (ZV (t:=((decide (v < 0)) || (decide ((l.length:Int)≤v)))) (v:=.b (((decide (v < 0)) || (decide ((l.length:Int)≤v))) || (decide (w < 0)))) rfl b'2 (Eq.trans (b:=V.b true) rfl (Zbz b'2))) (Zc ?_)))
   exact ⟨rfl,rfl,g'1_0,g'1_1,g'1_2,g'1_3,g'1_4⟩
  ·skip
   refine ZO rfl b'2 (Zd (.n w) g'1_3 (ZO rfl b'2 (Zi (z4 (a:=w) (b:=0) rfl rfl) (Zi (ZT (t:=((decide (v < 0)) || (decide ((l.length:Int)≤v)))) (v:=.b (((decide (v < 0)) || (decide ((l.length:Int)≤v))) || (decide (w < 0)))) rfl b'2 (Eq.trans (b:=V.b (decide (w < 0))) rfl (Zcn b'2))) (Zc ?_)))))
   exact ⟨rfl,rfl,g'1_0,g'1_1,g'1_2,g'1_3,g'1_4⟩
 rintro frg'2 _ ⟨rfl,g'2_24,g'2_0,g'2_1,g'2_2,g'2_3,g'2_4⟩
 refine Zd (.b (((decide (v < 0)) || (decide ((l.length:Int)≤v))) || (decide (w < 0)))) g'2_24 ?_
 refine zU 5 (fun fr' k'=>h = k'∧fr' 30 = .b ((((decide (v < 0)) || (decide ((l.length:Int)≤v))) || (decide (w < 0))) || (decide ((l.length:Int)≤w)))∧fr' 0 = v_l∧fr' 1 = .n v∧fr' 2 = .n d∧fr' 3 = .n w∧fr' 4 = .n o) ?_ ?_
 ·rcases bc (((decide (v < 0)) || (decide ((l.length:Int)≤v))) || (decide (w < 0))) with b'3 | b'3
  ·skip
   refine ZC rfl b'3 (ZC rfl b'3 (ZC rfl b'3 (ZC rfl b'3 (Zi (ZV (t:=(((decide (v < 0)) || (decide ((l.length:Int)≤v))) || (decide (w < 0)))) (v:=.b ((((decide (v < 0)) || (decide ((l.length:Int)≤v))) || (decide (w < 0))) || (decide ((l.length:Int)≤w)))) rfl b'3 (Eq.trans (b:=V.b true) rfl (Zbz b'3))) (Zc ?_)))))
   exact ⟨rfl,rfl,g'2_0,g'2_1,g'2_2,g'2_3,g'2_4⟩
  ·skip
   refine ZO rfl b'3 (Zd (.n w) g'2_3 (ZO rfl b'3 (Zd v_l g'2_0 (ZO rfl b'3 (Zi (Zam (hO.sl 0 rfl) rfl) (ZO rfl b'3 (Zi (Zcx (a:=w) (b:=(l.length:Int)) rfl rfl) ?_)))))))
   refine Zi (ZT (t:=(((decide (v < 0)) || (decide ((l.length:Int)≤v))) || (decide (w < 0)))) (v:=.b ((((decide (v < 0)) || (decide ((l.length:Int)≤v))) || (decide (w < 0))) || (decide ((l.length:Int)≤w)))) rfl b'3 (Eq.trans (b:=V.b (decide ((l.length:Int)≤w))) rfl (Zcn b'3))) (Zc ?_)
   exact ⟨rfl,rfl,g'2_0,g'2_1,g'2_2,g'2_3,g'2_4⟩
 rintro frg'3 _ ⟨rfl,g'3_30,g'3_0,g'3_1,g'3_2,g'3_3,g'3_4⟩
 refine Zd (.b ((((decide (v < 0)) || (decide ((l.length:Int)≤v))) || (decide (w < 0))) || (decide ((l.length:Int)≤w)))) g'3_30 ?_
 refine zU 4 (fun fr' k'=>h = k'∧fr' 35 = .b (((((decide (v < 0)) || (decide ((l.length:Int)≤v))) || (decide (w < 0))) || (decide ((l.length:Int)≤w))) || (decide (v = w)))∧fr' 0 = v_l∧fr' 1 = .n v∧fr' 2 = .n d∧fr' 3 = .n w∧fr' 4 = .n o) ?_ ?_
 ·rcases bc ((((decide (v < 0)) || (decide ((l.length:Int)≤v))) || (decide (w < 0))) || (decide ((l.length:Int)≤w))) with b'4 | b'4
  ·skip
   refine ZC rfl b'4 (ZC rfl b'4 (ZC rfl b'4 (Zi (ZV (t:=((((decide (v < 0)) || (decide ((l.length:Int)≤v))) || (decide (w < 0))) || (decide ((l.length:Int)≤w)))) (v:=.b (((((decide (v < 0)) || (decide ((l.length:Int)≤v))) || (decide (w < 0))) || (decide ((l.length:Int)≤w))) || (decide (v = w)))) rfl b'4 (Eq.trans (b:=V.b true) rfl (Zbz b'4))) (Zc ?_))))
   exact ⟨rfl,rfl,g'3_0,g'3_1,g'3_2,g'3_3,g'3_4⟩
  ·skip
   refine ZO rfl b'4 (Zd (.n v) g'3_1 (ZO rfl b'4 (Zd (.n w) g'3_3 (ZO rfl b'4 (Zi (Za7 (a:=v) (b:=w) rfl rfl) (Zi (ZT (t:=((((decide (v < 0)) || (decide ((l.length:Int)≤v))) || (decide (w < 0))) || (decide ((l.length:Int)≤w)))) (v:=.b (((((decide (v < 0)) || (decide ((l.length:Int)≤v))) || (decide (w < 0))) || (decide ((l.length:Int)≤w))) || (decide (v = w)))) rfl b'4 (Eq.trans (b:=V.b (decide (v = w))) rfl (Zcn b'4))) (Zc ?_)))))))
   exact ⟨rfl,rfl,g'3_0,g'3_1,g'3_2,g'3_3,g'3_4⟩
 rintro frg'4 _ ⟨rfl,g'4_35,g'4_0,g'4_1,g'4_2,g'4_3,g'4_4⟩
 refine Zd (.b (((((decide (v < 0)) || (decide ((l.length:Int)≤v))) || (decide (w < 0))) || (decide ((l.length:Int)≤w))) || (decide (v = w)))) g'4_35 ?_
 refine zU 3 (fun fr' k'=>h = k'∧fr' 39 = .b ((((((decide (v < 0)) || (decide ((l.length:Int)≤v))) || (decide (w < 0))) || (decide ((l.length:Int)≤w))) || (decide (v = w))) || (decide (d < 0)))∧fr' 0 = v_l∧fr' 1 = .n v∧fr' 2 = .n d∧fr' 3 = .n w∧fr' 4 = .n o) ?_ ?_
 ·rcases bc (((((decide (v < 0)) || (decide ((l.length:Int)≤v))) || (decide (w < 0))) || (decide ((l.length:Int)≤w))) || (decide (v = w))) with b'5 | b'5
  ·skip
   refine ZC rfl b'5 (ZC rfl b'5 (Zi (ZV (t:=(((((decide (v < 0)) || (decide ((l.length:Int)≤v))) || (decide (w < 0))) || (decide ((l.length:Int)≤w))) || (decide (v = w)))) (v:=.b ((((((decide (v < 0)) || (decide ((l.length:Int)≤v))) || (decide (w < 0))) || (decide ((l.length:Int)≤w))) || (decide (v = w))) || (decide (d < 0)))) rfl b'5 (Eq.trans (b:=V.b true) rfl (Zbz b'5))) (Zc ?_)))
   exact ⟨rfl,rfl,g'4_0,g'4_1,g'4_2,g'4_3,g'4_4⟩
  ·skip
   refine ZO rfl b'5 (Zd (.n d) g'4_2 (ZO rfl b'5 (Zi (z4 (a:=d) (b:=0) rfl rfl) (Zi (ZT (t:=(((((decide (v < 0)) || (decide ((l.length:Int)≤v))) || (decide (w < 0))) || (decide ((l.length:Int)≤w))) || (decide (v = w)))) (v:=.b ((((((decide (v < 0)) || (decide ((l.length:Int)≤v))) || (decide (w < 0))) || (decide ((l.length:Int)≤w))) || (decide (v = w))) || (decide (d < 0)))) rfl b'5 (Eq.trans (b:=V.b (decide (d < 0))) rfl (Zcn b'5))) (Zc ?_)))))
   exact ⟨rfl,rfl,g'4_0,g'4_1,g'4_2,g'4_3,g'4_4⟩
 rintro frg'5 _ ⟨rfl,g'5_39,g'5_0,g'5_1,g'5_2,g'5_3,g'5_4⟩
 refine Zd (.b ((((((decide (v < 0)) || (decide ((l.length:Int)≤v))) || (decide (w < 0))) || (decide ((l.length:Int)≤w))) || (decide (v = w))) || (decide (d < 0)))) g'5_39 ?_
 refine zU 3 (fun fr' k'=>h = k'∧fr' 43 = .b (((((((decide (v < 0)) || (decide ((l.length:Int)≤v))) || (decide (w < 0))) || (decide ((l.length:Int)≤w))) || (decide (v = w))) || (decide (d < 0))) || (decide (3 < d)))∧fr' 0 = v_l∧fr' 1 = .n v∧fr' 2 = .n d∧fr' 3 = .n w∧fr' 4 = .n o) ?_ ?_
 ·rcases bc ((((((decide (v < 0)) || (decide ((l.length:Int)≤v))) || (decide (w < 0))) || (decide ((l.length:Int)≤w))) || (decide (v = w))) || (decide (d < 0))) with b'6 | b'6
  ·skip
   refine ZC rfl b'6 (ZC rfl b'6 (Zi (ZV (t:=((((((decide (v < 0)) || (decide ((l.length:Int)≤v))) || (decide (w < 0))) || (decide ((l.length:Int)≤w))) || (decide (v = w))) || (decide (d < 0)))) (v:=.b (((((((decide (v < 0)) || (decide ((l.length:Int)≤v))) || (decide (w < 0))) || (decide ((l.length:Int)≤w))) || (decide (v = w))) || (decide (d < 0))) || (decide (3 < d)))) rfl b'6 (Eq.trans (b:=V.b true) rfl (Zbz b'6))) (Zc ?_)))
   exact ⟨rfl,rfl,g'5_0,g'5_1,g'5_2,g'5_3,g'5_4⟩
  ·skip
   refine ZO rfl b'6 (Zd (.n d) g'5_2 (ZO rfl b'6 (Zi (Zec (a:=d) (b:=3) rfl rfl) (Zi (ZT (t:=((((((decide (v < 0)) || (decide ((l.length:Int)≤v))) || (decide (w < 0))) || (decide ((l.length:Int)≤w))) || (decide (v = w))) || (decide (d < 0)))) (v:=.b (((((((decide (v < 0)) || (decide ((l.length:Int)≤v))) || (decide (w < 0))) || (decide ((l.length:Int)≤w))) || (decide (v = w))) || (decide (d < 0))) || (decide (3 < d)))) rfl b'6 (Eq.trans (b:=V.b (decide (3 < d))) rfl (Zcn b'6))) (Zc ?_)))))
   exact ⟨rfl,rfl,g'5_0,g'5_1,g'5_2,g'5_3,g'5_4⟩
 rintro frg'6 _ ⟨rfl,g'6_43,g'6_0,g'6_1,g'6_2,g'6_3,g'6_4⟩
 refine Zd (.b (((((((decide (v < 0)) || (decide ((l.length:Int)≤v))) || (decide (w < 0))) || (decide ((l.length:Int)≤w))) || (decide (v = w))) || (decide (d < 0))) || (decide (3 < d)))) g'6_43 ?_
 refine zU 3 (fun fr' k'=>h = k'∧fr' 47 = .b ((((((((decide (v < 0)) || (decide ((l.length:Int)≤v))) || (decide (w < 0))) || (decide ((l.length:Int)≤w))) || (decide (v = w))) || (decide (d < 0))) || (decide (3 < d))) || (decide (o < (-2))))∧fr' 0 = v_l∧fr' 1 = .n v∧fr' 2 = .n d∧fr' 3 = .n w∧fr' 4 = .n o) ?_ ?_
 ·rcases bc (((((((decide (v < 0)) || (decide ((l.length:Int)≤v))) || (decide (w < 0))) || (decide ((l.length:Int)≤w))) || (decide (v = w))) || (decide (d < 0))) || (decide (3 < d))) with b'7 | b'7
  ·skip
   refine ZC rfl b'7 (ZC rfl b'7 (Zi (ZV (t:=(((((((decide (v < 0)) || (decide ((l.length:Int)≤v))) || (decide (w < 0))) || (decide ((l.length:Int)≤w))) || (decide (v = w))) || (decide (d < 0))) || (decide (3 < d)))) (v:=.b ((((((((decide (v < 0)) || (decide ((l.length:Int)≤v))) || (decide (w < 0))) || (decide ((l.length:Int)≤w))) || (decide (v = w))) || (decide (d < 0))) || (decide (3 < d))) || (decide (o < (-2))))) rfl b'7 (Eq.trans (b:=V.b true) rfl (Zbz b'7))) (Zc ?_)))
   exact ⟨rfl,rfl,g'6_0,g'6_1,g'6_2,g'6_3,g'6_4⟩
  ·skip
   refine ZO rfl b'7 (Zd (.n o) g'6_4 (ZO rfl b'7 (Zi (z4 (a:=o) (b:=(-2)) rfl rfl) (Zi (ZT (t:=(((((((decide (v < 0)) || (decide ((l.length:Int)≤v))) || (decide (w < 0))) || (decide ((l.length:Int)≤w))) || (decide (v = w))) || (decide (d < 0))) || (decide (3 < d)))) (v:=.b ((((((((decide (v < 0)) || (decide ((l.length:Int)≤v))) || (decide (w < 0))) || (decide ((l.length:Int)≤w))) || (decide (v = w))) || (decide (d < 0))) || (decide (3 < d))) || (decide (o < (-2))))) rfl b'7 (Eq.trans (b:=V.b (decide (o < (-2)))) rfl (Zcn b'7))) (Zc ?_)))))
   exact ⟨rfl,rfl,g'6_0,g'6_1,g'6_2,g'6_3,g'6_4⟩
 rintro frg'7 _ ⟨rfl,g'7_47,g'7_0,g'7_1,g'7_2,g'7_3,g'7_4⟩
 refine Zc (Zb ?_)
 rcases Zy hp with ⟨b'8,hp⟩ | ⟨b'8,hp⟩
 ·refine zA (t:=((((((((decide (v < 0)) || (decide ((l.length:Int)≤v))) || (decide (w < 0))) || (decide ((l.length:Int)≤w))) || (decide (v = w))) || (decide (d < 0))) || (decide (3 < d))) || (decide (o < (-2))))) g'7_47 b'8 ?_
  refine Zm (Zs (Zd v_l g'7_0 (Zd v_l rfl (Zd (.n 2) rfl (Zc (Zb (Zao ?_)))))))
  refine zX (z6 (zR (n:=10) (v:=v_l) rfl (zR (n:=11) (v:=.n 2) rfl zj)) ?_)
  cases hp
  exact ⟨v_l,rfl,(hO.pick [0] rfl (by decide))⟩
 ·refine z9 (t:=((((((((decide (v < 0)) || (decide ((l.length:Int)≤v))) || (decide (w < 0))) || (decide ((l.length:Int)≤w))) || (decide (v = w))) || (decide (d < 0))) || (decide (3 < d))) || (decide (o < (-2))))) g'7_47 b'8 ?_
  refine zB (Zb (Zm (Zm (Zs (Zd v_l g'7_0 (Zd (.n v) g'7_1 (Zd (.n d) g'7_2 ?_)))))))
  obtain ⟨c'1,hp⟩:=Zp hp
  refine Zi (zn (E:=Zh) (z:=v) (hO.sl 0 rfl) rfl rfl c'1) (Zi (Zar (off':=0) (off2:=0) (hO.sl 0 rfl) (Zr c'1) rfl rfl) ?_)
  obtain ⟨c'2,hp⟩:=Zp hp
  refine Zi (Zbd (off:=0) (off2:=(0 + d.toNat * 1)) (z:=d) (hO.sl 0 rfl) (Zr c'1) rfl rfl c'2 rfl) (Zi (zI (w:=.n (((gi l v.toNat).Next).get d)) (hO.sl 0 rfl) rfl (Zr c'1) (z7 c'2)) (Zi (ZcL (a:=(((gi l v.toNat).Next).get d)) (b:=(-1)) rfl rfl) (Zd (.b (!(decide (((gi l v.toNat).Next).get d = (-1))))) rfl ?_)))
  obtain ⟨t,hv'1,hp⟩:=Zv hp
  refine zU 11 (fun fr' k'=>h = k'∧fr' 68 = .b t∧fr' 0 = v_l∧fr' 1 = .n v∧fr' 2 = .n d∧fr' 3 = .n w∧fr' 4 = .n o) ?_ ?_
  ·clear hp; rcases Zy hv'1 with ⟨b'9,hp⟩ | ⟨b'9,hp⟩
   ·skip
    refine ZC rfl b'9 (ZC rfl b'9 (ZC rfl b'9 (ZC rfl b'9 (ZC rfl b'9 (ZC rfl b'9 (ZC rfl b'9 (ZC rfl b'9 ?_)))))))
    refine ZC rfl b'9 (ZC rfl b'9 (Zi (ZV (t:=(!(decide (((gi l v.toNat).Next).get d = (-1))))) (v:=.b t) rfl b'9 (Eq.trans (b:=V.b true) rfl (congrArg V.b (Option.some.inj hp)))) (Zc ?_)))
    exact ⟨rfl,rfl,g'7_0,g'7_1,g'7_2,g'7_3,g'7_4⟩
   ·skip
    refine ZO rfl b'9 (Zd v_l g'7_0 (ZO rfl b'9 (Zd (.n w) g'7_3 (ZO rfl b'9 (Zd (.n d) g'7_2 (ZO rfl b'9 ?_))))))
    obtain ⟨c'3,hp⟩:=Zp hp
    refine Zi (z8 (a:=d) (b:=2) rfl rfl c'3) (ZO rfl b'9 (Zi (Zed (a:=(d + 2)) (b:=4) rfl rfl (by decide)) (ZO rfl b'9 ?_)))
    obtain ⟨c'4,hp⟩:=Zp hp
    refine Zi (zn (E:=Zh) (z:=w) (hO.sl 0 rfl) rfl rfl c'4) (ZO rfl b'9 (Zi (Zar (off':=0) (off2:=0) (hO.sl 0 rfl) (Zr c'4) rfl rfl) (ZO rfl b'9 ?_)))
    obtain ⟨c'5,hp⟩:=Zp hp
    refine Zi (Zbd (off:=0) (off2:=(0 + ((d + 2).tmod 4:Int).toNat * 1)) (z:=((d + 2).tmod 4)) (hO.sl 0 rfl) (Zr c'4) rfl rfl c'5 rfl) (ZO rfl b'9 (Zi (zI (w:=.n (((gi l w.toNat).Next).get ((d + 2).tmod 4))) (hO.sl 0 rfl) rfl (Zr c'4) (z7 c'5)) (ZO rfl b'9 (Zi (ZcL (a:=(((gi l w.toNat).Next).get ((d + 2).tmod 4))) (b:=(-1)) rfl rfl) (Zi (ZT (t:=(!(decide (((gi l v.toNat).Next).get d = (-1))))) (v:=.b t) rfl b'9 (Eq.trans (b:=V.b (!(decide (((gi l w.toNat).Next).get ((d + 2).tmod 4) = (-1))))) rfl (congrArg V.b (Option.some.inj hp)))) (Zc ?_))))))
    exact ⟨rfl,rfl,g'7_0,g'7_1,g'7_2,g'7_3,g'7_4⟩
  rintro frg'8 _ ⟨rfl,g'8_68,g'8_0,g'8_1,g'8_2,g'8_3,g'8_4⟩
  refine Zc (Zb ?_)
  rcases Zy hp with ⟨b'10,hp⟩ | ⟨b'10,hp⟩
  ·refine zA (t:=t) g'8_68 b'10 ?_
   refine Zm (Zs (Zd v_l g'8_0 (Zd v_l rfl (Zd (.n 9) rfl (Zc (Zb (Zao ?_)))))))
   refine zX (z6 (zR (n:=10) (v:=v_l) rfl (zR (n:=11) (v:=.n 9) rfl zj)) ?_)
   cases hp
   exact ⟨v_l,rfl,(hO.pick [0] rfl (by decide))⟩
  ·refine z9 (t:=t) g'8_68 b'10 ?_
   refine zB (Zb (Zm (Zs (Zd v_l g'8_0 (Zd (.n v) g'8_1 (Zd (.n d) g'8_2 (Zd (.n w) g'8_3 ?_)))))))
   refine Zd (.n o) g'8_4 ?_
   obtain ⟨x,hx'1,hp⟩:=Zv hp
   obtain ⟨u'1,k'1,ca'1,v'2,rfl,hW'1⟩:=zf.ok (h:=h)  (hO.sl 0 rfl) hx'1
   refine Zat (id:=65) (caps:=[]) rfl (Z4 (v:=v_l) rfl (Z4 (v:=.n v) rfl (Z4 (v:=.n d) rfl (Z4 (v:=.n w) rfl (Z4 (v:=.n o) rfl zh))))) ca'1 ?_
   have hO'1:=hO.call hW'1 rfl
   refine Zd v'2 rfl (Zc (Zb (Zm (Zs (Zd v'2 rfl (Zd v'2 rfl (Zd (.n 0) rfl ?_)))))))
   refine Zc (Zb (Zao (z6 (zR (n:=10) (v:=v'2) rfl (zR (n:=11) (v:=.n 0) rfl zj)) ?_)))
   cases hp
   exact ⟨v'2,rfl,(hO'1.pick [1] rfl (by decide))⟩

theorem zN.ok {h:Hp}    {r:(List Za)} (hp:zN  = some r) :
  ∃ u k',Is G 196 [] h u k'∧∃ (v'1:V),v'1 = u∧Own (fun r=>r < h.n) h k' [eSl Zh v'1 r]:=by
 refine WC.is (Za0 Zbp ?_)
 unfold zN at hp
 let B:Nat→Prop:=(fun r=>r < h.n)
 have hO:Own B h h []:=Own.start0 h
 refine Zm (Zs (Zd (.sn) rfl (Zc (Zb (Zm (Zs ?_))))))
 obtain ⟨x,hx'1,hp⟩:=Zv hp
 obtain ⟨u'1,k'1,ca'1,v'2,rfl,hW'1⟩:=ZE.ok (h:=h)   hx'1
 refine Zat (id:=46) (caps:=[]) rfl (Z4 (v:=.n 4) rfl zh) ca'1 ?_
 have hO'1:=hO.call hW'1 rfl
 refine Zd v'2 rfl (Zc (Zb (Zm (Zs (Zd v'2 rfl ?_)))))
 obtain ⟨⟨x1,x2⟩,hx'2,hp⟩:=Zv hp
 obtain ⟨u'2,k'2,ca'2,v'3,rfl,hW'2⟩:=zq.ok (h:=k'1) (l:=x) (v:=0) (d:=0) (w:=1) (o:=0) (hO'1.toM [0] rfl (by decide))  hx'2
 refine Zat (id:=53) (caps:=[]) rfl (Z4 (v:=v'2) rfl (Z4 (v:=.n 0) rfl (Z4 (v:=.n 0) rfl (Z4 (v:=.n 1) rfl (Z4 (v:=.n 0) rfl zh))))) ca'2 ?_
 have hO'2:=(hO'1.callM [0] [] rfl rfl (by decide) hW'2 rfl).pick [900,0] rfl (by decide)
 refine Zd (.tu [v'3,.n x2]) rfl (Zi (Za8 (vs:=[v'3,.n x2]) (v:=v'3) rfl rfl) (Zi (Za8 (vs:=[v'3,.n x2]) (v:=.n x2) rfl rfl) (Zd v'3 rfl (Zc (Zb (Zm (Zs ?_)))))))
 refine Zd v'3 rfl ?_
 obtain ⟨⟨x3,x4⟩,hx'3,hp⟩:=Zv hp
 obtain ⟨u'3,k'3,ca'3,v'4,rfl,hW'3⟩:=zq.ok (h:=k'2) (l:=x1) (v:=1) (d:=1) (w:=2) (o:=0) (hO'2.toM [1] rfl (by decide))  hx'3
 refine Zat (id:=53) (caps:=[]) rfl (Z4 (v:=v'3) rfl (Z4 (v:=.n 1) rfl (Z4 (v:=.n 1) rfl (Z4 (v:=.n 2) rfl (Z4 (v:=.n 0) rfl zh))))) ca'3 ?_
 have hO'3:=(hO'2.callM [1] [] rfl rfl (by decide) hW'3 rfl).pick [900,901,0] rfl (by decide)
 refine Zd (.tu [v'4,.n x4]) rfl (Zi (Za8 (vs:=[v'4,.n x4]) (v:=v'4) rfl rfl) (Zi (Za8 (vs:=[v'4,.n x4]) (v:=.n x4) rfl rfl) (Zd v'4 rfl (Zc (Zb (Zm (Zs ?_)))))))
 refine Zd v'4 rfl ?_
 obtain ⟨⟨x5,x6⟩,hx'4,hp⟩:=Zv hp
 obtain ⟨u'4,k'4,ca'4,v'5,rfl,hW'4⟩:=zq.ok (h:=k'3) (l:=x3) (v:=2) (d:=2) (w:=3) (o:=0) (hO'3.toM [2] rfl (by decide))  hx'4
 refine Zat (id:=53) (caps:=[]) rfl (Z4 (v:=v'4) rfl (Z4 (v:=.n 2) rfl (Z4 (v:=.n 2) rfl (Z4 (v:=.n 3) rfl (Z4 (v:=.n 0) rfl zh))))) ca'4 ?_
 have hO'4:=(hO'3.callM [2] [] rfl rfl (by decide) hW'4 rfl).pick [900,901,902,0] rfl (by decide)
 refine Zd (.tu [v'5,.n x6]) rfl (Zi (Za8 (vs:=[v'5,.n x6]) (v:=v'5) rfl rfl) (Zi (Za8 (vs:=[v'5,.n x6]) (v:=.n x6) rfl rfl) (Zd v'5 rfl (Zc (Zb (Zm (Zs ?_)))))))
 refine Zd v'5 rfl ?_
 obtain ⟨⟨x7,x8⟩,hx'5,hp⟩:=Zv hp
 obtain ⟨u'5,k'5,ca'5,v'6,rfl,hW'5⟩:=zq.ok (h:=k'4) (l:=x5) (v:=3) (d:=3) (w:=0) (o:=0) (hO'4.toM [3] rfl (by decide))  hx'5
 refine Zat (id:=53) (caps:=[]) rfl (Z4 (v:=v'5) rfl (Z4 (v:=.n 3) rfl (Z4 (v:=.n 3) rfl (Z4 (v:=.n 0) rfl (Z4 (v:=.n 0) rfl zh))))) ca'5 ?_
 have hO'5:=(hO'4.callM [3] [] rfl rfl (by decide) hW'5 rfl).pick [900,901,902,903,0] rfl (by decide)
 refine Zd (.tu [v'6,.n x8]) rfl (Zi (Za8 (vs:=[v'6,.n x8]) (v:=v'6) rfl rfl) (Zi (Za8 (vs:=[v'6,.n x8]) (v:=.n x8) rfl rfl) (Zd v'6 rfl (Zc (Zb (Zm (Zs ?_)))))))
 refine Zd v'6 rfl (Zd v'6 rfl (Zc (Zb (Zao (z6 (zR (n:=0) (v:=v'6) rfl zj) ?_)))))
 cases hp
 exact ⟨v'6,rfl,(hO'5.pick [4] rfl (by decide))⟩

theorem zC.ok {h:Hp} {d:Int}   {r:Bool} (hp:zC d = some r) :
  ∃ u k',Is G 90 [.n d] h u k'∧V.b r = u∧Own (fun r=>r < h.n) h k' []:=by
 refine WC.is (Za0 Zcs ?_)
 unfold zC at hp
 let B:Nat→Prop:=(fun r=>r < h.n)
 have hO:Own B h h []:=Own.start0 h
 refine Zm (Zs (Zd (.b false) rfl (Zc (Zb (Zm (Zs (Zd (.n d) rfl ?_)))))))
 refine Zi (Zcx (a:=d) (b:=0) rfl rfl) (Zd (.b (decide (0≤d))) rfl ?_)
 refine zU 3 (fun fr' k'=>h = k'∧fr' 8 = .b ((decide (0≤d)) && (decide (d≤3)))) ?_ ?_
 ·rcases bc (decide (0≤d)) with b'1 | b'1
  ·skip
   refine ZO rfl b'1 (Zd (.n d) rfl (ZO rfl b'1 (Zi (ZjA (a:=d) (b:=3) rfl rfl) (Zi (ZV (t:=(decide (0≤d))) (v:=.b ((decide (0≤d)) && (decide (d≤3)))) rfl b'1 (Eq.trans (b:=V.b (decide (d≤3))) rfl (Zc7 b'1))) (Zc ?_)))))
   exact ⟨rfl,rfl⟩
  ·skip
   refine ZC rfl b'1 (ZC rfl b'1 (Zi (ZT (t:=(decide (0≤d))) (v:=.b ((decide (0≤d)) && (decide (d≤3)))) rfl b'1 (Eq.trans (b:=V.b false) rfl (ZbU b'1))) (Zc ?_)))
   exact ⟨rfl,rfl⟩
 rintro frg'1 _ ⟨rfl,g'1_8⟩
 refine Zd (.b ((decide (0≤d)) && (decide (d≤3)))) g'1_8 (Zc (Zb (Zao (z6 (zR (n:=2) (v:=.b ((decide (0≤d)) && (decide (d≤3)))) rfl zj) ?_))))
 cases hp
 exact ⟨rfl,(hO.pick [] rfl (by decide))⟩

theorem zW.ok {h:Hp} {d:Int} {times:Int}   {r:Int} (hp:zW d times = some r) :
  ∃ u k',Is G 77 [.n d,.n times] h u k'∧V.n r = u∧Own (fun r=>r < h.n) h k' []:=by
 refine WC.is (Za0 Zct ?_)
 unfold zW at hp
 let B:Nat→Prop:=(fun r=>r < h.n)
 have hO:Own B h h []:=Own.start0 h
 refine Zm (Zs (Zd (.n 0) rfl (Zc (Zb (Zm (Zm (Zs ?_)))))))
 refine Zd (.n d) rfl ?_
 obtain ⟨x,hx'1,hp⟩:=Zv hp
 obtain ⟨u'1,k'1,ca'1,rfl,hW'1⟩:=zC.ok (h:=h)   hx'1
 refine Zat (id:=90) (caps:=[]) rfl (Z4 (v:=.n d) rfl zh) ca'1 ?_
 have hO'1:=hO.call hW'1 rfl
 refine Zi (ZcU (t:=x) rfl) (Zc (Zb ?_))
 rcases Zy hp with ⟨b'1,hp⟩ | ⟨b'1,hp⟩
 ·refine zA (t:=(!x)) rfl b'1 ?_
  refine Zm (Zs (Zd (.n 0) rfl (Zc (Zb (Zao (zX (z6 (zR (n:=4) (v:=.n 0) rfl zj) ?_)))))))
  cases hp
  exact ⟨rfl,(hO'1.pick [] rfl (by decide))⟩
 ·refine z9 (t:=(!x)) rfl b'1 ?_
  refine zB (Zb (Zm (Zs (Zd (.n d) rfl (Zd (.n times) rfl (Zi (Zed (a:=times) (b:=4) rfl rfl (by decide)) ?_))))))
  obtain ⟨c'1,hp⟩:=Zp hp
  refine Zi (z8 (a:=d) (b:=(times.tmod 4)) rfl rfl c'1) ?_
  obtain ⟨c'2,hp⟩:=Zp hp
  refine Zi (z8 (a:=(d + (times.tmod 4))) (b:=4) rfl rfl c'2) (Zi (Zed (a:=((d + (times.tmod 4)) + 4)) (b:=4) rfl rfl (by decide)) (Zd (.n (((d + (times.tmod 4)) + 4).tmod 4)) rfl (Zc (Zb (Zao (z6 (zR (n:=4) (v:=.n (((d + (times.tmod 4)) + 4).tmod 4)) rfl zj) ?_))))))
  cases hp
  exact ⟨rfl,(hO'1.pick [] rfl (by decide))⟩

theorem ZaS.ok {h:Hp} {cells:List Za} {v:Int} {d:Int} {v_cells:V} (s_cells:Sl Zh h v_cells cells) {r:Int} (hp:ZaS cells v d = some r) :
  ∃ u k',Is G 82 [v_cells,.n v,.n d] h u k'∧V.n r = u∧Own (fun r=>r < h.n) h k' []:=by
 refine WC.is (Za0 Zds ?_)
 unfold ZaS at hp
 let B:Nat→Prop:=(fun r=>r < h.n)
 have hO:Own B h h []:=Own.start0 h
 refine Zm (Zs (Zd (.n 0) rfl (Zc (Zb (Zm (Zg0 ?_))))))
 have hW:=hO.bump 16
 have hO'1:=hW
 refine zx v_cells rfl (zx (.n v) rfl (zx (.n d) rfl ?_))
 obtain ⟨c'1,hp⟩:=Zp hp
 refine ZJ rfl (zn (E:=Zh) (z:=v) (hO'1.rd0 s_cells.rd) rfl rfl c'1) (ZJ rfl (Zar (off':=0) (off2:=0) (hO'1.rd0 s_cells.rd) (Zr c'1) rfl rfl) ?_)
 obtain ⟨c'2,hp⟩:=Zp hp
 refine ZJ rfl (Zbd (off:=0) (off2:=(0 + d.toNat * 1)) (z:=d) (hO'1.rd0 s_cells.rd) (Zr c'1) rfl rfl c'2 rfl) (ZJ rfl (zI (w:=.n (((gi cells v.toNat).Next).get d)) (hO'1.rd0 s_cells.rd) rfl (Zr c'1) (z7 c'2)) (zx v_cells rfl (zx (.n v) rfl (zx (.n d) rfl (ZJ rfl (zn (E:=Zh) (z:=v) (hO'1.rd0 s_cells.rd) rfl rfl c'1) (ZJ rfl (Zar (off':=0) (off2:=4) (hO'1.rd0 s_cells.rd) (Zr c'1) rfl rfl) (ZJ rfl (Zbd (off:=4) (off2:=(4 + d.toNat * 1)) (z:=d) (hO'1.rd0 s_cells.rd) (Zr c'1) rfl rfl c'2 rfl) ?_)))))))
 refine ZJ rfl (zI (w:=.n (((gi cells v.toNat).Owner).get d)) (hO'1.rd0 s_cells.rd) rfl (Zr c'1) (ZbS c'2)) (zx (.n (((gi cells v.toNat).Next).get d)) rfl (zx (.n (((gi cells v.toNat).Owner).get d)) rfl (zr (Zb (Zm (Zm (Zs ?_)))))))
 refine Zd (.n (((gi cells v.toNat).Next).get d)) rfl (Zi (Za7 (a:=(((gi cells v.toNat).Next).get d)) (b:=(-1)) rfl rfl) (Zc (Zb ?_)))
 rcases Zy hp with ⟨b'1,hp⟩ | ⟨b'1,hp⟩
 ·refine zA (t:=(decide (((gi cells v.toNat).Next).get d = (-1)))) rfl b'1 ?_
  refine Zm (Zm (Zs (Zd (.n (((gi cells v.toNat).Owner).get d)) rfl (Zi (ZcL (a:=(((gi cells v.toNat).Owner).get d)) (b:=0) rfl rfl) (Zc (Zb ?_))))))
  rcases Zy hp with ⟨b'2,hp⟩ | ⟨b'2,hp⟩
  ·refine zA (t:=(!(decide (((gi cells v.toNat).Owner).get d = 0)))) rfl b'2 ?_
   refine Zm (Zs (Zd (.n 9) rfl (Zc (Zb (Zao (zX (zX ?_)))))))
   refine z6 (zR (n:=6) (v:=.n 9) rfl zj) ?_
   cases hp
   exact ⟨rfl,(hO'1.pick [] rfl (by decide))⟩
  ·refine z9 (t:=(!(decide (((gi cells v.toNat).Owner).get d = 0)))) rfl b'2 ?_
   refine zB (Zb (Zm (Zs (Zd (.n 0) rfl (Zc (Zb (Zao ?_)))))))
   refine zX (z6 (zR (n:=6) (v:=.n 0) rfl zj) ?_)
   cases hp
   exact ⟨rfl,(hO'1.pick [] rfl (by decide))⟩
 ·refine z9 (t:=(decide (((gi cells v.toNat).Next).get d = (-1)))) rfl b'1 ?_
  refine zB (Zb (Zm (Zm (Zs (Zd (.n (((gi cells v.toNat).Next).get d)) rfl (Zi (z4 (a:=(((gi cells v.toNat).Next).get d)) (b:=0) rfl rfl) (Zd (.b (decide ((((gi cells v.toNat).Next).get d) < 0))) rfl ?_)))))))
  refine zU 5 (fun fr' k'=>(h.bump 16) = k'∧fr' 35 = .b ((decide ((((gi cells v.toNat).Next).get d) < 0)) || (decide ((cells.length:Int)≤(((gi cells v.toNat).Next).get d))))∧fr' 0 = v_cells∧fr' 1 = .n v∧fr' 2 = .n d∧fr' 7 = .n (((gi cells v.toNat).Next).get d)∧fr' 8 = .n (((gi cells v.toNat).Owner).get d)) ?_ ?_
  ·rcases bc (decide ((((gi cells v.toNat).Next).get d) < 0)) with b'3 | b'3
   ·skip
    refine ZC rfl b'3 (ZC rfl b'3 (ZC rfl b'3 (ZC rfl b'3 (Zi (ZV (t:=(decide ((((gi cells v.toNat).Next).get d) < 0))) (v:=.b ((decide ((((gi cells v.toNat).Next).get d) < 0)) || (decide ((cells.length:Int)≤(((gi cells v.toNat).Next).get d))))) rfl b'3 (Eq.trans (b:=V.b true) rfl (Zbz b'3))) (Zc ?_)))))
    exact ⟨rfl,rfl,rfl,rfl,rfl,rfl,rfl⟩
   ·skip
    refine ZO rfl b'3 (Zd (.n (((gi cells v.toNat).Next).get d)) rfl (ZO rfl b'3 (Zd v_cells rfl (ZO rfl b'3 (Zi (Zam (hO'1.rd0 s_cells.rd) rfl) (ZO rfl b'3 (Zi (Zcx (a:=(((gi cells v.toNat).Next).get d)) (b:=(cells.length:Int)) rfl rfl) ?_)))))))
    refine Zi (ZT (t:=(decide ((((gi cells v.toNat).Next).get d) < 0))) (v:=.b ((decide ((((gi cells v.toNat).Next).get d) < 0)) || (decide ((cells.length:Int)≤(((gi cells v.toNat).Next).get d))))) rfl b'3 (Eq.trans (b:=V.b (decide ((cells.length:Int)≤(((gi cells v.toNat).Next).get d)))) rfl (Zcn b'3))) (Zc ?_)
    exact ⟨rfl,rfl,rfl,rfl,rfl,rfl,rfl⟩
  rintro frg'1 _ ⟨rfl,g'1_35,g'1_0,g'1_1,g'1_2,g'1_7,g'1_8⟩
  refine Zd (.b ((decide ((((gi cells v.toNat).Next).get d) < 0)) || (decide ((cells.length:Int)≤(((gi cells v.toNat).Next).get d))))) g'1_35 ?_
  refine zU 4 (fun fr' k'=>(h.bump 16) = k'∧fr' 40 = .b (((decide ((((gi cells v.toNat).Next).get d) < 0)) || (decide ((cells.length:Int)≤(((gi cells v.toNat).Next).get d)))) || (decide (((gi cells v.toNat).Next).get d = v)))∧fr' 0 = v_cells∧fr' 1 = .n v∧fr' 2 = .n d∧fr' 7 = .n (((gi cells v.toNat).Next).get d)∧fr' 8 = .n (((gi cells v.toNat).Owner).get d)) ?_ ?_
  ·rcases bc ((decide ((((gi cells v.toNat).Next).get d) < 0)) || (decide ((cells.length:Int)≤(((gi cells v.toNat).Next).get d)))) with b'4 | b'4
   ·skip
    refine ZC rfl b'4 (ZC rfl b'4 (ZC rfl b'4 (Zi (ZV (t:=((decide ((((gi cells v.toNat).Next).get d) < 0)) || (decide ((cells.length:Int)≤(((gi cells v.toNat).Next).get d))))) (v:=.b (((decide ((((gi cells v.toNat).Next).get d) < 0)) || (decide ((cells.length:Int)≤(((gi cells v.toNat).Next).get d)))) || (decide (((gi cells v.toNat).Next).get d = v)))) rfl b'4 (Eq.trans (b:=V.b true) rfl (Zbz b'4))) (Zc ?_))))
    exact ⟨rfl,rfl,g'1_0,g'1_1,g'1_2,g'1_7,g'1_8⟩
   ·skip
    refine ZO rfl b'4 (Zd (.n (((gi cells v.toNat).Next).get d)) g'1_7 (ZO rfl b'4 (Zd (.n v) g'1_1 (ZO rfl b'4 (Zi (Za7 (a:=(((gi cells v.toNat).Next).get d)) (b:=v) rfl rfl) (Zi (ZT (t:=((decide ((((gi cells v.toNat).Next).get d) < 0)) || (decide ((cells.length:Int)≤(((gi cells v.toNat).Next).get d))))) (v:=.b (((decide ((((gi cells v.toNat).Next).get d) < 0)) || (decide ((cells.length:Int)≤(((gi cells v.toNat).Next).get d)))) || (decide (((gi cells v.toNat).Next).get d = v)))) rfl b'4 (Eq.trans (b:=V.b (decide (((gi cells v.toNat).Next).get d = v))) rfl (Zcn b'4))) (Zc ?_)))))))
    exact ⟨rfl,rfl,g'1_0,g'1_1,g'1_2,g'1_7,g'1_8⟩
  rintro frg'2 _ ⟨rfl,g'2_40,g'2_0,g'2_1,g'2_2,g'2_7,g'2_8⟩
  refine Zc (Zb ?_)
  rcases Zy hp with ⟨b'5,hp⟩ | ⟨b'5,hp⟩
  ·refine zA (t:=(((decide ((((gi cells v.toNat).Next).get d) < 0)) || (decide ((cells.length:Int)≤(((gi cells v.toNat).Next).get d)))) || (decide (((gi cells v.toNat).Next).get d = v)))) g'2_40 b'5 ?_
   refine Zm (Zs (Zd (.n 3) rfl (Zc (Zb (Zao (zX (z6 (zR (n:=6) (v:=.n 3) rfl zj) ?_)))))))
   cases hp
   exact ⟨rfl,(hO'1.pick [] rfl (by decide))⟩
  ·refine z9 (t:=(((decide ((((gi cells v.toNat).Next).get d) < 0)) || (decide ((cells.length:Int)≤(((gi cells v.toNat).Next).get d)))) || (decide (((gi cells v.toNat).Next).get d = v)))) g'2_40 b'5 ?_
   refine zB (Zb (Zm (Zs (Zd (.n d) g'2_2 ?_))))
   obtain ⟨x,hx'1,hp⟩:=Zv hp
   obtain ⟨u'1,k'2,ca'1,rfl,hW'1⟩:=zW.ok (h:=(h.bump 16))   hx'1
   refine Zat (id:=77) (caps:=[]) rfl (Z4 (v:=.n d) rfl (Z4 (v:=.n 2) rfl zh)) ca'1 ?_
   have hO'2:=hO'1.call hW'1 rfl
   refine Zd (.n x) rfl (Zc (Zb (Zm (Zm (Zs (Zd v_cells g'2_0 (Zd (.n (((gi cells v.toNat).Next).get d)) g'2_7 ?_)))))))
   refine Zd (.n x) rfl ?_
   obtain ⟨c'3,hp⟩:=Zp hp
   refine Zi (zn (E:=Zh) (z:=(((gi cells v.toNat).Next).get d)) (hO'2.rd0 s_cells.rd) rfl rfl c'3) (Zi (Zar (off':=0) (off2:=0) (hO'2.rd0 s_cells.rd) (Zr c'3) rfl rfl) ?_)
   obtain ⟨c'4,hp⟩:=Zp hp
   refine Zi (Zbd (off:=0) (off2:=(0 + x.toNat * 1)) (z:=x) (hO'2.rd0 s_cells.rd) (Zr c'3) rfl rfl c'4 rfl) (Zi (zI (w:=.n (((gi cells (((gi cells v.toNat).Next).get d:Int).toNat).Next).get x)) (hO'2.rd0 s_cells.rd) rfl (Zr c'3) (z7 c'4)) (Zd (.n v) g'2_1 (Zi (ZcL (a:=(((gi cells (((gi cells v.toNat).Next).get d:Int).toNat).Next).get x)) (b:=v) rfl rfl) (Zd (.b (!(decide (((gi cells (((gi cells v.toNat).Next).get d:Int).toNat).Next).get x = v)))) rfl ?_))))
   refine zU 10 (fun fr' k'=>k'2 = k'∧fr' 62 = .b ((!(decide (((gi cells (((gi cells v.toNat).Next).get d:Int).toNat).Next).get x = v))) || (!(decide (((gi cells (((gi cells v.toNat).Next).get d:Int).toNat).Owner).get x = ((gi cells v.toNat).Owner).get d))))∧fr' 8 = .n (((gi cells v.toNat).Owner).get d)) ?_ ?_
   ·rcases bc (!(decide (((gi cells (((gi cells v.toNat).Next).get d:Int).toNat).Next).get x = v))) with b'6 | b'6
    ·skip
     refine ZC rfl b'6 (ZC rfl b'6 (ZC rfl b'6 (ZC rfl b'6 (ZC rfl b'6 (ZC rfl b'6 (ZC rfl b'6 (ZC rfl b'6 ?_)))))))
     refine ZC rfl b'6 (Zi (ZV (t:=(!(decide (((gi cells (((gi cells v.toNat).Next).get d:Int).toNat).Next).get x = v)))) (v:=.b ((!(decide (((gi cells (((gi cells v.toNat).Next).get d:Int).toNat).Next).get x = v))) || (!(decide (((gi cells (((gi cells v.toNat).Next).get d:Int).toNat).Owner).get x = ((gi cells v.toNat).Owner).get d))))) rfl b'6 (Eq.trans (b:=V.b true) rfl (Zbz b'6))) (Zc ?_))
     exact ⟨rfl,rfl,g'2_8⟩
    ·skip
     refine ZO rfl b'6 (Zd v_cells g'2_0 (ZO rfl b'6 (Zd (.n (((gi cells v.toNat).Next).get d)) g'2_7 (ZO rfl b'6 (Zd (.n x) rfl (ZO rfl b'6 (Zi (zn (E:=Zh) (z:=(((gi cells v.toNat).Next).get d)) (hO'2.rd0 s_cells.rd) rfl rfl c'3) ?_)))))))
     refine ZO rfl b'6 (Zi (Zar (off':=0) (off2:=4) (hO'2.rd0 s_cells.rd) (Zr c'3) rfl rfl) (ZO rfl b'6 (Zi (Zbd (off:=4) (off2:=(4 + x.toNat * 1)) (z:=x) (hO'2.rd0 s_cells.rd) (Zr c'3) rfl rfl c'4 rfl) (ZO rfl b'6 (Zi (zI (w:=.n (((gi cells (((gi cells v.toNat).Next).get d:Int).toNat).Owner).get x)) (hO'2.rd0 s_cells.rd) rfl (Zr c'3) (ZbS c'4)) (ZO rfl b'6 (Zd (.n (((gi cells v.toNat).Owner).get d)) g'2_8 ?_)))))))
     refine ZO rfl b'6 (Zi (ZcL (a:=(((gi cells (((gi cells v.toNat).Next).get d:Int).toNat).Owner).get x)) (b:=(((gi cells v.toNat).Owner).get d)) rfl rfl) (Zi (ZT (t:=(!(decide (((gi cells (((gi cells v.toNat).Next).get d:Int).toNat).Next).get x = v)))) (v:=.b ((!(decide (((gi cells (((gi cells v.toNat).Next).get d:Int).toNat).Next).get x = v))) || (!(decide (((gi cells (((gi cells v.toNat).Next).get d:Int).toNat).Owner).get x = ((gi cells v.toNat).Owner).get d))))) rfl b'6 (Eq.trans (b:=V.b (!(decide (((gi cells (((gi cells v.toNat).Next).get d:Int).toNat).Owner).get x = ((gi cells v.toNat).Owner).get d)))) rfl (Zcn b'6))) (Zc ?_)))
     exact ⟨rfl,rfl,g'2_8⟩
   rintro frg'3 _ ⟨rfl,g'3_62,g'3_8⟩
   refine Zd (.b ((!(decide (((gi cells (((gi cells v.toNat).Next).get d:Int).toNat).Next).get x = v))) || (!(decide (((gi cells (((gi cells v.toNat).Next).get d:Int).toNat).Owner).get x = ((gi cells v.toNat).Owner).get d))))) g'3_62 ?_
   refine zU 3 (fun fr' k'=>k'2 = k'∧fr' 66 = .b (((!(decide (((gi cells (((gi cells v.toNat).Next).get d:Int).toNat).Next).get x = v))) || (!(decide (((gi cells (((gi cells v.toNat).Next).get d:Int).toNat).Owner).get x = ((gi cells v.toNat).Owner).get d)))) || (decide ((((gi cells v.toNat).Owner).get d) < (-2))))) ?_ ?_
   ·rcases bc ((!(decide (((gi cells (((gi cells v.toNat).Next).get d:Int).toNat).Next).get x = v))) || (!(decide (((gi cells (((gi cells v.toNat).Next).get d:Int).toNat).Owner).get x = ((gi cells v.toNat).Owner).get d)))) with b'7 | b'7
    ·skip
     refine ZC rfl b'7 (ZC rfl b'7 (Zi (ZV (t:=((!(decide (((gi cells (((gi cells v.toNat).Next).get d:Int).toNat).Next).get x = v))) || (!(decide (((gi cells (((gi cells v.toNat).Next).get d:Int).toNat).Owner).get x = ((gi cells v.toNat).Owner).get d))))) (v:=.b (((!(decide (((gi cells (((gi cells v.toNat).Next).get d:Int).toNat).Next).get x = v))) || (!(decide (((gi cells (((gi cells v.toNat).Next).get d:Int).toNat).Owner).get x = ((gi cells v.toNat).Owner).get d)))) || (decide ((((gi cells v.toNat).Owner).get d) < (-2))))) rfl b'7 (Eq.trans (b:=V.b true) rfl (Zbz b'7))) (Zc ?_)))
     exact ⟨rfl,rfl⟩
    ·skip
     refine ZO rfl b'7 (Zd (.n (((gi cells v.toNat).Owner).get d)) g'3_8 (ZO rfl b'7 (Zi (z4 (a:=(((gi cells v.toNat).Owner).get d)) (b:=(-2)) rfl rfl) (Zi (ZT (t:=((!(decide (((gi cells (((gi cells v.toNat).Next).get d:Int).toNat).Next).get x = v))) || (!(decide (((gi cells (((gi cells v.toNat).Next).get d:Int).toNat).Owner).get x = ((gi cells v.toNat).Owner).get d))))) (v:=.b (((!(decide (((gi cells (((gi cells v.toNat).Next).get d:Int).toNat).Next).get x = v))) || (!(decide (((gi cells (((gi cells v.toNat).Next).get d:Int).toNat).Owner).get x = ((gi cells v.toNat).Owner).get d)))) || (decide ((((gi cells v.toNat).Owner).get d) < (-2))))) rfl b'7 (Eq.trans (b:=V.b (decide ((((gi cells v.toNat).Owner).get d) < (-2)))) rfl (Zcn b'7))) (Zc ?_)))))
     exact ⟨rfl,rfl⟩
   rintro frg'4 _ ⟨rfl,g'4_66⟩
   refine Zc (Zb ?_)
   rcases Zy hp with ⟨b'8,hp⟩ | ⟨b'8,hp⟩
   ·refine zA (t:=(((!(decide (((gi cells (((gi cells v.toNat).Next).get d:Int).toNat).Next).get x = v))) || (!(decide (((gi cells (((gi cells v.toNat).Next).get d:Int).toNat).Owner).get x = ((gi cells v.toNat).Owner).get d)))) || (decide ((((gi cells v.toNat).Owner).get d) < (-2))))) g'4_66 b'8 ?_
    refine Zm (Zs (Zd (.n 9) rfl (Zc (Zb (Zao (zX (z6 (zR (n:=6) (v:=.n 9) rfl zj) ?_)))))))
    cases hp
    exact ⟨rfl,(hO'2.pick [] rfl (by decide))⟩
   ·refine z9 (t:=(((!(decide (((gi cells (((gi cells v.toNat).Next).get d:Int).toNat).Next).get x = v))) || (!(decide (((gi cells (((gi cells v.toNat).Next).get d:Int).toNat).Owner).get x = ((gi cells v.toNat).Owner).get d)))) || (decide ((((gi cells v.toNat).Owner).get d) < (-2))))) g'4_66 b'8 ?_
    refine zB (Zb (Zm (Zs (Zd (.n 0) rfl (Zc (Zb (Zao ?_)))))))
    refine z6 (zR (n:=6) (v:=.n 0) rfl zj) ?_
    cases hp
    exact ⟨rfl,(hO'2.pick [] rfl (by decide))⟩

theorem ZX.ok {h:Hp} {cells:List Za} {v_cells:V} (s_cells:Sl Zh h v_cells cells) {r:Int} (hp:ZX cells = some r) :
  ∃ u k',Is G 66 [v_cells] h u k'∧V.n r = u∧Own (fun r=>r < h.n) h k' []:=by
 refine WC.is (Za0 ZcR ?_)
 unfold ZX at hp
 let B:Nat→Prop:=(fun r=>r < h.n)
 have hO:Own B h h []:=Own.start0 h
 refine Zm (Zs (Zd (.n 0) rfl (Zc (Zb (Zm (Zm (Zs ?_)))))))
 refine Zd v_cells rfl (Zi (Zam (hO.rd0 s_cells.rd) rfl) (Zi (Zec (a:=(cells.length:Int)) (b:=4096) rfl rfl) (Zc (Zb ?_))))
 rcases Zy hp with ⟨b'1,hp⟩ | ⟨b'1,hp⟩
 ·refine zA (t:=(decide (4096 < (cells.length:Int)))) rfl b'1 ?_
  refine Zm (Zs (Zd (.n 6) rfl (Zc (Zb (Zao (zX (z6 (zR (n:=2) (v:=.n 6) rfl zj) ?_)))))))
  cases hp
  exact ⟨rfl,(hO.pick [] rfl (by decide))⟩
 ·refine z9 (t:=(decide (4096 < (cells.length:Int)))) rfl b'1 ?_
  refine zB (Zb (Zm (Zm (Zs (Zd v_cells rfl (Zi (Zam (hO.rd0 s_cells.rd) rfl) (Zd (.n 0) rfl ?_)))))))
  refine Zc (Zb (Zae ?_))
  obtain ⟨o'1,ho'1,hp⟩:=Zv hp
  refine W.mono (Q:=fun e fr k=>match (generalizing:=false) o'1 with
    | .inl _=>e = (.exit 0)∧Own B h k []
    | .inr x1=>e = .ret∧fr 2 = .n x1∧Own B h k []) ?_ ?_
  ·clear hp
   refine zE (fun st fr k=>match st with | x=>fr 0 = v_cells∧fr 10 = .n (cells.length:Int)∧fr 11 = .n x∧Own B h k []) ho'1 (s:=0) ⟨rfl,rfl,rfl,(hO.pick [] rfl (by decide))⟩ ?_
   rintro x q'2 k'2 ⟨q'2_0,q'2_10,q'2_11,hO'2⟩ o'2 hp
   dsimp only [ZX.s0] at hp
   refine Zm (Zs (Zi (z4 (a:=x) (b:=(cells.length:Int)) q'2_11 q'2_10) (Zc (Zb (Zm ?_)))))
   rcases Zy hp with ⟨b'2,hp⟩ | ⟨b'2,hp⟩
   ·refine zA (t:=(decide (x < (cells.length:Int)))) rfl b'2 ?_
    refine zB (Zb (Zm (Zae (Zm (Zs (Zd (.n x) q'2_11 (Zd (.n x) rfl ?_)))))))
    refine Zc (Zb (Zm (Zs (Zd (.n 0) rfl (Zc (Zb (Zae ?_)))))))
    obtain ⟨o'3,ho'2,hp⟩:=Zv hp
    refine W.mono (Q:=fun e fr k=>match (generalizing:=false) o'3 with
      | .inl _=>e = (.exit 2)∧fr 0 = v_cells∧fr 10 = .n (cells.length:Int)∧fr 11 = .n x∧Own B h k []
      | .inr x3=>e = .ret∧fr 2 = .n x3∧Own B h k []) ?_ ?_
    ·clear hp
     refine zE (fun st fr k=>match st with | x2=>fr 0 = v_cells∧fr 3 = .n x∧fr 10 = .n (cells.length:Int)∧fr 11 = .n x∧fr 14 = .n x2∧Own B h k []) ho'2 (s:=0) ⟨q'2_0,rfl,q'2_10,q'2_11,rfl,(hO'2.pick [] rfl (by decide))⟩ ?_
     rintro x2 q'4 k'4 ⟨q'4_0,q'4_3,q'4_10,q'4_11,q'4_14,hO'4⟩ o'4 hp
     dsimp only [ZX.s1] at hp
     refine Zm (Zs (Zi (z4 (a:=x2) (b:=4) q'4_14 rfl) (Zc (Zb (Zm ?_)))))
     rcases Zy hp with ⟨b'3,hp⟩ | ⟨b'3,hp⟩
     ·refine zA (t:=(decide (x2 < 4))) rfl b'3 ?_
      refine zB (Zb (Zm (Zae (Zm (Zs (Zd (.n x2) q'4_14 (Zd (.n x2) rfl ?_)))))))
      refine Zc (Zb (Zm (Zs (Zd v_cells q'4_0 (Zd (.n x) q'4_3 (Zd (.n x2) rfl ?_))))))
      obtain ⟨x4,hx'1,hp⟩:=Zv hp
      obtain ⟨u'1,k'5,ca'1,rfl,hW'1⟩:=ZaS.ok (h:=k'4)  (hO'4.rd0 s_cells.rd) hx'1
      refine Zat (id:=82) (caps:=[]) rfl (Z4 (v:=v_cells) rfl (Z4 (v:=.n x) rfl (Z4 (v:=.n x2) rfl zh))) ca'1 ?_
      have hO'5:=hO'4.call hW'1 rfl
      refine Zd (.n x4) rfl (Zc (Zb (Zm (Zs (Zd (.n x4) rfl (Zi (ZcL (a:=x4) (b:=0) rfl rfl) (Zc ?_)))))))
      refine Zb ?_
      rcases Zy hp with ⟨b'4,hp⟩ | ⟨b'4,hp⟩
      ·refine zA (t:=(!(decide (x4 = 0)))) rfl b'4 ?_
       refine Zm (Zs (Zd (.n x4) rfl (Zd (.n x4) rfl (Zc (Zb (Zao (ZbQ ?_)))))))
       refine zX ?_
       cases hp
       refine (Or.inr ⟨.inr x4,rfl,(fun h=>nomatch h),(fun he=>?_)⟩)
       subst he; exact ⟨rfl,rfl,(hO'5.pick [] rfl (by decide))⟩
      ·refine z9 (t:=(!(decide (x4 = 0)))) rfl b'4 ?_
       refine zB (zV (Zb (Zs ?_)))
       obtain ⟨c'1,hp⟩:=Zp hp
       refine Zi (z8 (a:=x2) (b:=1) q'4_14 rfl c'1) (Zd (.n (x2 + 1)) rfl (Zc ?_))
       cases hp
       exact (Or.inl ⟨x2 + 1,rfl,rfl,q'4_0,q'4_3,q'4_10,q'4_11,rfl,(hO'5.pick [] rfl (by decide))⟩)
     ·refine z9 (t:=(decide (x2 < 4))) rfl b'3 ?_
      refine ZaL (zO ?_)
      cases hp
      refine (Or.inr ⟨.inl (),rfl,(fun h=>nomatch h),(fun he=>?_)⟩)
      subst he; exact ⟨rfl,q'4_0,q'4_10,q'4_11,(hO'4.pick [] rfl (by decide))⟩
    intro e'2 q'3 k'3 hJ'2
    rcases o'3 with _ | x3
    ·obtain ⟨rfl,q'3_0,q'3_10,q'3_11,hO'3⟩:=hJ'2
     refine Zav (zV (Zb (Zs ?_)))
     obtain ⟨c'2,hp⟩:=Zp hp
     refine Zi (z8 (a:=x) (b:=1) q'3_11 rfl c'2) (Zd (.n (x + 1)) rfl (Zc ?_))
     cases hp
     exact (Or.inl ⟨x + 1,rfl,rfl,q'3_0,q'3_10,rfl,(hO'3.pick [] rfl (by decide))⟩)
    ·obtain ⟨rfl,q'3_2,hO'3⟩:=hJ'2
     refine ZbQ (ZbQ (zX ?_))
     cases hp
     refine (Or.inr ⟨.inr x3,rfl,(fun h=>nomatch h),(fun he=>?_)⟩)
     subst he; exact ⟨rfl,q'3_2,(hO'3.pick [] rfl (by decide))⟩
   ·refine z9 (t:=(decide (x < (cells.length:Int)))) rfl b'2 ?_
    refine ZaL (zO ?_)
    cases hp
    refine (Or.inr ⟨.inl (),rfl,(fun h=>nomatch h),(fun he=>?_)⟩)
    subst he; exact ⟨rfl,(hO'2.pick [] rfl (by decide))⟩
  intro e'1 q'1 k'1 hJ'1
  rcases o'1 with _ | x1
  ·obtain ⟨rfl,hO'1⟩:=hJ'1
   refine Zav (Zb (Zm (Zs (Zd (.n 0) rfl (Zc (Zb (Zao ?_)))))))
   refine z6 (zR (n:=2) (v:=.n 0) rfl zj) ?_
   cases hp
   exact ⟨rfl,(hO'1.pick [] rfl (by decide))⟩
  ·obtain ⟨rfl,q'1_2,hO'1⟩:=hJ'1
   refine ZbQ (zX (z6 (zR (n:=2) (v:=.n x1) q'1_2 zj) ?_))
   cases hp
   exact ⟨rfl,(hO'1.pick [] rfl (by decide))⟩

theorem Zb0.ok {h:Hp} {x:Int} {y:Int}   {r:Int × Int} (hp:Zb0 x y = some r) :
  ∃ u k',Is G 98 [.i .u64 x,.i .u64 y] h u k'∧V.tu [.i .u64 r.1,.i .u64 r.2] = u∧Own (fun r=>r < h.n) h k' []:=by
 refine WC.is (Za0 ZcO ?_)
 unfold Zb0 at hp
 let B:Nat→Prop:=(fun r=>r < h.n)
 have hO:Own B h h []:=Own.start0 h
 refine Zm (Zs (Zd (.i .u64 0) rfl (Zd (.i .u64 0) rfl (Zc (Zb (Zm (Zs ?_)))))))
 refine Zd (.i .u64 x) rfl (Zi (Zcw (a:=x) (b:=4294967295) (v:=.i .u64 (Zo .u64 x 4294967295)) rfl rfl (by decide) rfl) (Zd (.i .u64 (Zo .u64 x 4294967295)) rfl (Zc (Zb (Zm (Zs (Zd (.i .u64 x) rfl ?_)))))))
 refine Zi (Zdh (a:=x) (b:=32) (v:=.i .u64 (Zx .u64 x 32)) rfl rfl (by decide) (ZbW (by decide))) (Zd (.i .u64 (Zx .u64 x 32)) rfl (Zc (Zb (Zm (Zs (Zd (.i .u64 y) rfl (Zi (Zcw (a:=y) (b:=4294967295) (v:=.i .u64 (Zo .u64 y 4294967295)) rfl rfl (by decide) rfl) ?_)))))))
 refine Zd (.i .u64 (Zo .u64 y 4294967295)) rfl (Zc (Zb (Zm (Zs (Zd (.i .u64 y) rfl (Zi (Zdh (a:=y) (b:=32) (v:=.i .u64 (Zx .u64 y 32)) rfl rfl (by decide) (ZbW (by decide))) (Zd (.i .u64 (Zx .u64 y 32)) rfl ?_)))))))
 refine Zc (Zb (Zm (Zs (Zd (.i .u64 (Zo .u64 x 4294967295)) rfl (Zd (.i .u64 (Zo .u64 y 4294967295)) rfl (Zi (Zcw (a:=(Zo .u64 x 4294967295)) (b:=(Zo .u64 y 4294967295)) (v:=.i .u64 (Z7 .u64 (Zo .u64 x 4294967295) (Zo .u64 y 4294967295))) rfl rfl (by decide) rfl) (Zd (.i .u64 (Z7 .u64 (Zo .u64 x 4294967295) (Zo .u64 y 4294967295))) rfl ?_)))))))
 refine Zc (Zb (Zm (Zs (Zd (.i .u64 (Zx .u64 x 32)) rfl (Zd (.i .u64 (Zo .u64 y 4294967295)) rfl (Zi (Zcw (a:=(Zx .u64 x 32)) (b:=(Zo .u64 y 4294967295)) (v:=.i .u64 (Z7 .u64 (Zx .u64 x 32) (Zo .u64 y 4294967295))) rfl rfl (by decide) rfl) (Zd (.i .u64 (Z7 .u64 (Zo .u64 x 4294967295) (Zo .u64 y 4294967295))) rfl ?_)))))))
 refine Zi (Zdh (a:=(Z7 .u64 (Zo .u64 x 4294967295) (Zo .u64 y 4294967295))) (b:=32) (v:=.i .u64 (Zx .u64 (Z7 .u64 (Zo .u64 x 4294967295) (Zo .u64 y 4294967295)) 32)) rfl rfl (by decide) (ZbW (by decide))) (Zi (Zcw (a:=(Z7 .u64 (Zx .u64 x 32) (Zo .u64 y 4294967295))) (b:=(Zx .u64 (Z7 .u64 (Zo .u64 x 4294967295) (Zo .u64 y 4294967295)) 32)) (v:=.i .u64 (za .u64 (Z7 .u64 (Zx .u64 x 32) (Zo .u64 y 4294967295)) (Zx .u64 (Z7 .u64 (Zo .u64 x 4294967295) (Zo .u64 y 4294967295)) 32))) rfl rfl (by decide) rfl) (Zd (.i .u64 (za .u64 (Z7 .u64 (Zx .u64 x 32) (Zo .u64 y 4294967295)) (Zx .u64 (Z7 .u64 (Zo .u64 x 4294967295) (Zo .u64 y 4294967295)) 32))) rfl (Zc (Zb (Zm (Zs (Zd (.i .u64 (za .u64 (Z7 .u64 (Zx .u64 x 32) (Zo .u64 y 4294967295)) (Zx .u64 (Z7 .u64 (Zo .u64 x 4294967295) (Zo .u64 y 4294967295)) 32))) rfl ?_)))))))
 refine Zi (Zcw (a:=(za .u64 (Z7 .u64 (Zx .u64 x 32) (Zo .u64 y 4294967295)) (Zx .u64 (Z7 .u64 (Zo .u64 x 4294967295) (Zo .u64 y 4294967295)) 32))) (b:=4294967295) (v:=.i .u64 (Zo .u64 (za .u64 (Z7 .u64 (Zx .u64 x 32) (Zo .u64 y 4294967295)) (Zx .u64 (Z7 .u64 (Zo .u64 x 4294967295) (Zo .u64 y 4294967295)) 32)) 4294967295)) rfl rfl (by decide) rfl) (Zd (.i .u64 (Zo .u64 (za .u64 (Z7 .u64 (Zx .u64 x 32) (Zo .u64 y 4294967295)) (Zx .u64 (Z7 .u64 (Zo .u64 x 4294967295) (Zo .u64 y 4294967295)) 32)) 4294967295)) rfl (Zc (Zb (Zm (Zs (Zd (.i .u64 (za .u64 (Z7 .u64 (Zx .u64 x 32) (Zo .u64 y 4294967295)) (Zx .u64 (Z7 .u64 (Zo .u64 x 4294967295) (Zo .u64 y 4294967295)) 32))) rfl (Zi (Zdh (a:=(za .u64 (Z7 .u64 (Zx .u64 x 32) (Zo .u64 y 4294967295)) (Zx .u64 (Z7 .u64 (Zo .u64 x 4294967295) (Zo .u64 y 4294967295)) 32))) (b:=32) (v:=.i .u64 (Zx .u64 (za .u64 (Z7 .u64 (Zx .u64 x 32) (Zo .u64 y 4294967295)) (Zx .u64 (Z7 .u64 (Zo .u64 x 4294967295) (Zo .u64 y 4294967295)) 32)) 32)) rfl rfl (by decide) (ZbW (by decide))) ?_)))))))
 refine Zd (.i .u64 (Zx .u64 (za .u64 (Z7 .u64 (Zx .u64 x 32) (Zo .u64 y 4294967295)) (Zx .u64 (Z7 .u64 (Zo .u64 x 4294967295) (Zo .u64 y 4294967295)) 32)) 32)) rfl (Zc (Zb (Zm (Zs (Zd (.i .u64 (Zo .u64 (za .u64 (Z7 .u64 (Zx .u64 x 32) (Zo .u64 y 4294967295)) (Zx .u64 (Z7 .u64 (Zo .u64 x 4294967295) (Zo .u64 y 4294967295)) 32)) 4294967295)) rfl (Zd (.i .u64 (Zo .u64 x 4294967295)) rfl (Zd (.i .u64 (Zx .u64 y 32)) rfl ?_)))))))
 refine Zi (Zcw (a:=(Zo .u64 x 4294967295)) (b:=(Zx .u64 y 32)) (v:=.i .u64 (Z7 .u64 (Zo .u64 x 4294967295) (Zx .u64 y 32))) rfl rfl (by decide) rfl) (Zi (Zcw (a:=(Zo .u64 (za .u64 (Z7 .u64 (Zx .u64 x 32) (Zo .u64 y 4294967295)) (Zx .u64 (Z7 .u64 (Zo .u64 x 4294967295) (Zo .u64 y 4294967295)) 32)) 4294967295)) (b:=(Z7 .u64 (Zo .u64 x 4294967295) (Zx .u64 y 32))) (v:=.i .u64 (za .u64 (Zo .u64 (za .u64 (Z7 .u64 (Zx .u64 x 32) (Zo .u64 y 4294967295)) (Zx .u64 (Z7 .u64 (Zo .u64 x 4294967295) (Zo .u64 y 4294967295)) 32)) 4294967295) (Z7 .u64 (Zo .u64 x 4294967295) (Zx .u64 y 32)))) rfl rfl (by decide) rfl) (Zd (.i .u64 (za .u64 (Zo .u64 (za .u64 (Z7 .u64 (Zx .u64 x 32) (Zo .u64 y 4294967295)) (Zx .u64 (Z7 .u64 (Zo .u64 x 4294967295) (Zo .u64 y 4294967295)) 32)) 4294967295) (Z7 .u64 (Zo .u64 x 4294967295) (Zx .u64 y 32)))) rfl (Zc (Zb (Zm (Zs (Zd (.i .u64 (Zx .u64 x 32)) rfl ?_)))))))
 refine Zd (.i .u64 (Zx .u64 y 32)) rfl (Zi (Zcw (a:=(Zx .u64 x 32)) (b:=(Zx .u64 y 32)) (v:=.i .u64 (Z7 .u64 (Zx .u64 x 32) (Zx .u64 y 32))) rfl rfl (by decide) rfl) (Zd (.i .u64 (Zx .u64 (za .u64 (Z7 .u64 (Zx .u64 x 32) (Zo .u64 y 4294967295)) (Zx .u64 (Z7 .u64 (Zo .u64 x 4294967295) (Zo .u64 y 4294967295)) 32)) 32)) rfl (Zi (Zcw (a:=(Z7 .u64 (Zx .u64 x 32) (Zx .u64 y 32))) (b:=(Zx .u64 (za .u64 (Z7 .u64 (Zx .u64 x 32) (Zo .u64 y 4294967295)) (Zx .u64 (Z7 .u64 (Zo .u64 x 4294967295) (Zo .u64 y 4294967295)) 32)) 32)) (v:=.i .u64 (za .u64 (Z7 .u64 (Zx .u64 x 32) (Zx .u64 y 32)) (Zx .u64 (za .u64 (Z7 .u64 (Zx .u64 x 32) (Zo .u64 y 4294967295)) (Zx .u64 (Z7 .u64 (Zo .u64 x 4294967295) (Zo .u64 y 4294967295)) 32)) 32))) rfl rfl (by decide) rfl) (Zd (.i .u64 (za .u64 (Zo .u64 (za .u64 (Z7 .u64 (Zx .u64 x 32) (Zo .u64 y 4294967295)) (Zx .u64 (Z7 .u64 (Zo .u64 x 4294967295) (Zo .u64 y 4294967295)) 32)) 4294967295) (Z7 .u64 (Zo .u64 x 4294967295) (Zx .u64 y 32)))) rfl (Zi (Zdh (a:=(za .u64 (Zo .u64 (za .u64 (Z7 .u64 (Zx .u64 x 32) (Zo .u64 y 4294967295)) (Zx .u64 (Z7 .u64 (Zo .u64 x 4294967295) (Zo .u64 y 4294967295)) 32)) 4294967295) (Z7 .u64 (Zo .u64 x 4294967295) (Zx .u64 y 32)))) (b:=32) (v:=.i .u64 (Zx .u64 (za .u64 (Zo .u64 (za .u64 (Z7 .u64 (Zx .u64 x 32) (Zo .u64 y 4294967295)) (Zx .u64 (Z7 .u64 (Zo .u64 x 4294967295) (Zo .u64 y 4294967295)) 32)) 4294967295) (Z7 .u64 (Zo .u64 x 4294967295) (Zx .u64 y 32))) 32)) rfl rfl (by decide) (ZbW (by decide))) (Zi (Zcw (a:=(za .u64 (Z7 .u64 (Zx .u64 x 32) (Zx .u64 y 32)) (Zx .u64 (za .u64 (Z7 .u64 (Zx .u64 x 32) (Zo .u64 y 4294967295)) (Zx .u64 (Z7 .u64 (Zo .u64 x 4294967295) (Zo .u64 y 4294967295)) 32)) 32))) (b:=(Zx .u64 (za .u64 (Zo .u64 (za .u64 (Z7 .u64 (Zx .u64 x 32) (Zo .u64 y 4294967295)) (Zx .u64 (Z7 .u64 (Zo .u64 x 4294967295) (Zo .u64 y 4294967295)) 32)) 4294967295) (Z7 .u64 (Zo .u64 x 4294967295) (Zx .u64 y 32))) 32)) (v:=.i .u64 (za .u64 (za .u64 (Z7 .u64 (Zx .u64 x 32) (Zx .u64 y 32)) (Zx .u64 (za .u64 (Z7 .u64 (Zx .u64 x 32) (Zo .u64 y 4294967295)) (Zx .u64 (Z7 .u64 (Zo .u64 x 4294967295) (Zo .u64 y 4294967295)) 32)) 32)) (Zx .u64 (za .u64 (Zo .u64 (za .u64 (Z7 .u64 (Zx .u64 x 32) (Zo .u64 y 4294967295)) (Zx .u64 (Z7 .u64 (Zo .u64 x 4294967295) (Zo .u64 y 4294967295)) 32)) 4294967295) (Z7 .u64 (Zo .u64 x 4294967295) (Zx .u64 y 32))) 32))) rfl rfl (by decide) rfl) (Zd (.i .u64 (za .u64 (za .u64 (Z7 .u64 (Zx .u64 x 32) (Zx .u64 y 32)) (Zx .u64 (za .u64 (Z7 .u64 (Zx .u64 x 32) (Zo .u64 y 4294967295)) (Zx .u64 (Z7 .u64 (Zo .u64 x 4294967295) (Zo .u64 y 4294967295)) 32)) 32)) (Zx .u64 (za .u64 (Zo .u64 (za .u64 (Z7 .u64 (Zx .u64 x 32) (Zo .u64 y 4294967295)) (Zx .u64 (Z7 .u64 (Zo .u64 x 4294967295) (Zo .u64 y 4294967295)) 32)) 4294967295) (Z7 .u64 (Zo .u64 x 4294967295) (Zx .u64 y 32))) 32))) rfl ?_)))))))
 refine Zc (Zb (Zm (Zs (Zd (.i .u64 x) rfl (Zd (.i .u64 y) rfl (Zi (Zcw (a:=x) (b:=y) (v:=.i .u64 (Z7 .u64 x y)) rfl rfl (by decide) rfl) (Zd (.i .u64 (Z7 .u64 x y)) rfl ?_)))))))
 refine Zc (Zb (Zao (z6 (zR (n:=4) (v:=.i .u64 (za .u64 (za .u64 (Z7 .u64 (Zx .u64 x 32) (Zx .u64 y 32)) (Zx .u64 (za .u64 (Z7 .u64 (Zx .u64 x 32) (Zo .u64 y 4294967295)) (Zx .u64 (Z7 .u64 (Zo .u64 x 4294967295) (Zo .u64 y 4294967295)) 32)) 32)) (Zx .u64 (za .u64 (Zo .u64 (za .u64 (Z7 .u64 (Zx .u64 x 32) (Zo .u64 y 4294967295)) (Zx .u64 (Z7 .u64 (Zo .u64 x 4294967295) (Zo .u64 y 4294967295)) 32)) 4294967295) (Z7 .u64 (Zo .u64 x 4294967295) (Zx .u64 y 32))) 32))) rfl (zR (n:=5) (v:=.i .u64 (Z7 .u64 x y)) rfl zj)) ?_)))
 cases hp
 exact ⟨rfl,(hO.pick [] rfl (by decide))⟩

theorem Zbg.ok {h:Hp} {x:Int} {y:Int}   {r:Int × Int} (hp:Zbg x y = some r) :
  ∃ u k',Is G 89 [.i .u64 x,.i .u64 y] h u k'∧V.tu [.i .u64 r.1,.i .u64 r.2] = u∧Own (fun r=>r < h.n) h k' []:=by
 refine WC.is (Za0 Zd6 ?_)
 unfold Zbg at hp
 let B:Nat→Prop:=(fun r=>r < h.n)
 have hO:Own B h h []:=Own.start0 h
 refine Zm (Zs (Zd (.i .u64 0) rfl (Zd (.i .u64 0) rfl (Zc (Zb (Zm (z9 (t:=false) rfl rfl ?_)))))))
 refine zB (Zb (Zm (Zs (Zd (.i .u64 x) rfl (Zd (.i .u64 y) rfl ?_)))))
 obtain ⟨⟨x1,x2⟩,hx'1,hp⟩:=Zv hp
 obtain ⟨u'1,k'1,ca'1,rfl,hW'1⟩:=Zb0.ok (h:=h)   hx'1
 refine Zat (id:=98) (caps:=[]) rfl (Z4 (v:=.i .u64 x) rfl (Z4 (v:=.i .u64 y) rfl zh)) ca'1 ?_
 have hO'1:=hO.call hW'1 rfl
 refine Zd (.tu [.i .u64 x1,.i .u64 x2]) rfl (Zi (Za8 (vs:=[.i .u64 x1,.i .u64 x2]) (v:=.i .u64 x1) rfl rfl) (Zi (Za8 (vs:=[.i .u64 x1,.i .u64 x2]) (v:=.i .u64 x2) rfl rfl) (Zd (.i .u64 x1) rfl (Zd (.i .u64 x2) rfl (Zc (Zb (Zm ?_)))))))
 refine Zs (Zd (.i .u64 x1) rfl (Zd (.i .u64 x2) rfl (Zd (.i .u64 x1) rfl (Zd (.i .u64 x2) rfl (Zc (Zb (Zao ?_)))))))
 refine z6 (zR (n:=4) (v:=.i .u64 x1) rfl (zR (n:=5) (v:=.i .u64 x2) rfl zj)) ?_
 cases hp
 exact ⟨rfl,(hO'1.pick [] rfl (by decide))⟩

theorem zb.ok {h:Hp} {x:List Int} {count:Int} {v_x:V} (s_x:Sl zt h v_x x) {r:(List Int)} (hp:zb x count = some r) :
  ∃ u k',Is G 83 [v_x,.n count] h u k'∧∃ (v'1:V),v'1 = u∧Own (fun r=>r < h.n) h k' [eSl zt v'1 r]:=by
 refine WC.is (Za0 Zb6 ?_)
 unfold zb at hp
 let B:Nat→Prop:=(fun r=>r < h.n)
 have hO:Own B h h []:=Own.start0 h
 refine Zm (Zs (Zd (.sn) rfl (Zc (Zb (Zm (Zm (Zs ?_)))))))
 refine Zd (.n count) rfl (Zi (z4 (a:=count) (b:=0) rfl rfl) (Zc (Zb ?_)))
 obtain ⟨o'1,ho'1,hp⟩:=Zv hp
 refine W.mono (Q:=fun e fr k=>match (generalizing:=false) o'1 with
   | _=>e = .normal∧fr 0 = v_x∧fr 1 = .n count∧Own B h k []) ?_ ?_
 ·clear hp; have hp:=ho'1; clear ho'1
  rcases Zy hp with ⟨b'1,hp⟩ | ⟨b'1,hp⟩
  ·refine zA (t:=(decide (count < 0))) rfl b'1 ?_
   exact nomatch hp
  ·refine z9 (t:=(decide (count < 0))) rfl b'1 ?_
   refine zB ?_
   cases hp
   exact ⟨rfl,rfl,rfl,(hO.pick [] rfl (by decide))⟩
 intro e'1 q'1 k'1 hJ'1
 obtain ⟨rfl,q'1_0,q'1_1,hO'1⟩:=hJ'1
 refine Zb (Zm (Zs (Zd v_x q'1_0 (Zi (Zam (hO'1.rd0 s_x.rd) rfl) ?_))))
 obtain ⟨c'1,hp⟩:=Zp hp
 refine Zi (ZdP (a:=(x.length:Int)) rfl c'1) (Zd (.n count) q'1_1 ?_)
 obtain ⟨c'2,hp⟩:=Zp hp
 refine Zi (ZdP (a:=count) rfl c'2) ?_
 obtain ⟨⟨x1,x2⟩,hx'1,hp⟩:=Zv hp
 obtain ⟨u'1,k'2,ca'1,rfl,hW'1⟩:=Zbg.ok (h:=k'1)   hx'1
 refine Zat (id:=89) (caps:=[]) rfl (Z4 (v:=.i .u64 (x.length:Int)) rfl (Z4 (v:=.i .u64 count) rfl zh)) ca'1 ?_
 have hO'2:=hO'1.call hW'1 rfl
 refine Zd (.tu [.i .u64 x1,.i .u64 x2]) rfl (Zi (Za8 (vs:=[.i .u64 x1,.i .u64 x2]) (v:=.i .u64 x1) rfl rfl) (Zi (Za8 (vs:=[.i .u64 x1,.i .u64 x2]) (v:=.i .u64 x2) rfl rfl) (Zd (.i .u64 x1) rfl (Zd (.i .u64 x2) rfl (Zc (Zb (Zm ?_)))))))
 refine Zm (Zs (Zd (.i .u64 x1) rfl (Zi (Zec (a:=x1) (b:=0) rfl rfl) (Zd (.b (decide (0 < x1))) rfl ?_))))
 refine zU 3 (fun fr' k'=>k'2 = k'∧fr' 26 = .b ((decide (0 < x1)) || (decide (9223372036854775807 < x2)))∧fr' 0 = v_x∧fr' 6 = .i .u64 x2) ?_ ?_
 ·rcases bc (decide (0 < x1)) with b'2 | b'2
  ·skip
   refine ZC rfl b'2 (ZC rfl b'2 (Zi (ZV (t:=(decide (0 < x1))) (v:=.b ((decide (0 < x1)) || (decide (9223372036854775807 < x2)))) rfl b'2 (Eq.trans (b:=V.b true) rfl (Zbz b'2))) (Zc ?_)))
   exact ⟨rfl,rfl,q'1_0,rfl⟩
  ·skip
   refine ZO rfl b'2 (Zd (.i .u64 x2) rfl (ZO rfl b'2 (Zi (Zec (a:=x2) (b:=9223372036854775807) rfl rfl) (Zi (ZT (t:=(decide (0 < x1))) (v:=.b ((decide (0 < x1)) || (decide (9223372036854775807 < x2)))) rfl b'2 (Eq.trans (b:=V.b (decide (9223372036854775807 < x2))) rfl (Zcn b'2))) (Zc ?_)))))
   exact ⟨rfl,rfl,q'1_0,rfl⟩
 rintro frg'1 _ ⟨rfl,g'1_26,g'1_0,g'1_6⟩
 refine Zc (Zb ?_)
 obtain ⟨o'2,ho'2,hp⟩:=Zv hp
 refine W.mono (Q:=fun e fr k=>match (generalizing:=false) o'2 with
   | _=>e = .normal∧fr 0 = v_x∧fr 6 = .i .u64 x2∧Own B h k []) ?_ ?_
 ·clear hp; have hp:=ho'2; clear ho'2
  rcases Zy hp with ⟨b'3,hp⟩ | ⟨b'3,hp⟩
  ·refine zA (t:=((decide (0 < x1)) || (decide (9223372036854775807 < x2)))) g'1_26 b'3 ?_
   exact nomatch hp
  ·refine z9 (t:=((decide (0 < x1)) || (decide (9223372036854775807 < x2)))) g'1_26 b'3 ?_
   refine zB ?_
   cases hp
   exact ⟨rfl,g'1_0,g'1_6,(hO'2.pick [] rfl (by decide))⟩
 intro e'2 q'2 k'3 hJ'2
 obtain ⟨rfl,q'2_0,q'2_6,hO'3⟩:=hJ'2
 refine Zb (Zm (Zs (Zd (.i .u64 x2) q'2_6 ?_)))
 obtain ⟨c'3,hp⟩:=Zp hp
 refine Zi (ZdP (a:=x2) rfl c'3) ?_
 obtain ⟨c'4,hp⟩:=Zp hp
 refine zK (hO'3.mks (E:=zt) (y:=(0:Int)) (bytes:=8) (z:=x2) hO'3.fr rfl rfl rfl c'4 (by decide)) ?_
 rintro v'2 k'4 ⟨r'1,f'1,hW⟩
 have hO'4:=hW
 refine Zd v'2 rfl (Zc (Zb (Zm (Zs (Zd v'2 rfl (Zd v_x q'2_0 (zK (hO'4.cpy (E:=zt) 0 rfl (hO'4.rd0 s_x.rd) rfl rfl (fun _=>rfl)) ?_)))))))
 rintro _ k'5 ⟨rfl,f'2,hW⟩
 have hO'5:=hW
 refine Zd (.n ((min x.length (List.replicate x2.toNat (0:Int)).length:Nat):Int)) rfl (Zc (Zb (Zm (Zae ?_))))
 obtain ⟨o'3,ho'3,hp⟩:=Zv hp
 refine W.mono (Q:=fun e fr k=>match (generalizing:=false) o'3 with
   | newslice1=>e = (.exit 0)∧fr 7 = v'2∧Own B h k [eSl zt v'2 newslice1]) ?_ ?_
 ·clear hp
  refine zE (fun st fr k=>match st with | (newslice,n)=>fr 7 = v'2∧fr 8 = .n n∧Own B h k [eSl zt v'2 newslice]) ho'3 (s:=(x.take (List.replicate x2.toNat (0:Int)).length++(List.replicate x2.toNat (0:Int)).drop x.length,((min x.length (List.replicate x2.toNat (0:Int)).length:Nat):Int))) ⟨rfl,rfl,(hO'5.pick [0] rfl (by decide))⟩ ?_
  rintro ⟨newslice,n⟩ q'4 k'7 ⟨q'4_7,q'4_8,hO'7⟩ o'4 hp
  dsimp only [zb.s0] at hp
  refine Zm (Zm (Zs (Zd (.n n) q'4_8 (Zd v'2 q'4_7 (Zi (Zam (hO'7.sl 0 rfl) rfl) (Zi (z4 (a:=n) (b:=(newslice.length:Int)) rfl rfl) (Zc ?_)))))))
  refine Zb ?_
  rcases Zy hp with ⟨b'4,hp⟩ | ⟨b'4,hp⟩
  ·refine zA (t:=(decide (n < (newslice.length:Int)))) rfl b'4 ?_
   refine zB (Zb (Zae (ZiH ?_)))
   have hW:=hO'7.bump 10
   have fr'1:=Fresh.start k'7 10
   have nb'1:∀ {i:Nat},h.n≤k'7.n + i:=Nat.le_trans hO'7.n (Nat.le_add_right _ _)
   have hO'8:=hW
   refine ZbX (.n n) q'4_8 (ZbX v'2 q'4_7 (ZbX (.n n) q'4_8 ?_))
   obtain ⟨c'5,hp⟩:=Zp hp
   refine Zax (ZhI (E:=zt) (z:=n) (hO'8.sl 0 rfl) rfl rfl c'5) (ZbX v'2 q'4_7 (ZbX (.n n) q'4_8 (Zax (ZjP (E:=zt) (z:=n) (hO'8.sl 0 rfl) rfl rfl c'5) (ZiF (hO'8.cpyF (E:=zt) (z:=n) 0 rfl c'5 (Sl.cutU (hO'8.sl 0 rfl) c'5:Sl zt (k'7.bump 10) (V.cut v'2 0 n.toNat) (newslice.take n.toNat)) rfl rfl (fun _=>rfl)) ?_))))
   rintro _ k'9 z'1 ⟨rfl,f'3,hW⟩
   have fr'2:=fr'1.kept f'3 (by decide)
   have hO'9:=hW
   obtain ⟨c'6,hp⟩:=Zp hp
   refine Zax (z8 (a:=n) (b:=((min (newslice.take n.toNat).length (newslice.drop n.toNat).length:Nat):Int)) rfl rfl c'6) (ZbX (.n (n + ((min (newslice.take n.toNat).length (newslice.drop n.toNat).length:Nat):Int))) rfl (Zdx ?_))
   refine And.intro ?_ ?_
   ·intro q hq
    cases hq
   refine zV ?_
   cases hp
   exact (Or.inl ⟨(newslice.take n.toNat++((newslice.take n.toNat).take (newslice.drop n.toNat).length++(newslice.drop n.toNat).drop (newslice.take n.toNat).length),n + ((min (newslice.take n.toNat).length (newslice.drop n.toNat).length:Nat):Int)),rfl,rfl,q'4_7,rfl,(hO'9.pick [0] rfl (by decide))⟩)
  ·refine z9 (t:=(decide (n < (newslice.length:Int)))) rfl b'4 ?_
   refine ZaL (zO ?_)
   cases hp
   refine (Or.inr ⟨newslice,rfl,(fun h=>nomatch h),(fun he=>?_)⟩)
   subst he; exact ⟨rfl,q'4_7,(hO'7.pick [0] rfl (by decide))⟩
 intro e'3 q'3 k'6 hJ'3
 obtain ⟨newslice1,rfl⟩:∃ x,x = o'3:=⟨_,rfl⟩
 obtain ⟨rfl,q'3_7,hO'6⟩:=hJ'3
 refine Zav (Zb (Zm (Zs (Zd v'2 q'3_7 (Zd v'2 rfl (Zc (Zb ?_)))))))
 refine Zao (z6 (zR (n:=4) (v:=v'2) rfl zj) ?_)
 cases hp
 exact ⟨v'2,rfl,(hO'6.pick [0] rfl (by decide))⟩

theorem zl.ok {h:Hp} {cells:List Za} {v:Int} {v_cells:V} (s_cells:Sl Zh h v_cells cells) {r:(List Int) × (List Int)} (hp:zl cells v = some r) :
  ∃ u k',Is G 67 [v_cells,.n v] h u k'∧∃ (v'1:V),∃ (v'2:V),V.tu [v'1,v'2] = u∧Own (fun r=>r < h.n) h k' [eSl zt v'1 r.1,eSl zt v'2 r.2]:=by
 refine WC.is (Za0 ZcH ?_)
 unfold zl at hp
 let B:Nat→Prop:=(fun r=>r < h.n)
 have hO:Own B h h []:=Own.start0 h
 refine Zm (Zs (Zd (.sn) rfl (Zd (.sn) rfl (Zc (Zb (Zm (Zs ?_)))))))
 refine zK (hO.bsl (E:=zt) (l:=([(-1)]:List Int)) hO.fr (by rw [(zP (v:=.n (-1)) rfl ZaF)]; rfl) rfl) ?_
 rintro v'3 k'1 ⟨r'1,f'1,hW⟩
 have hO'1:=hW
 refine Zd v_cells rfl (Zi (Zam (hO'1.rd0 s_cells.rd) rfl) ?_)
 obtain ⟨x,hx'1,hp⟩:=Zv hp
 obtain ⟨u'1,k'2,ca'1,v'4,rfl,hW'1⟩:=zb.ok (h:=k'1)  (hO'1.sl 0 rfl:Sl zt k'1 v'3 ([(-1)]:List Int)) hx'1
 refine Zat (id:=83) (caps:=[]) rfl (Z4 (v:=v'3) rfl (Z4 (v:=.n (cells.length:Int)) rfl zh)) ca'1 ?_
 have hO'2:=hO'1.call hW'1 rfl
 refine zK (hO'2.bsl (E:=zt) (l:=([(-1)]:List Int)) hO'2.fr (by rw [(zP (v:=.n (-1)) rfl ZaF)]; rfl) rfl) ?_
 rintro v'5 k'3 ⟨r'2,f'2,hW⟩
 have hO'3:=hW
 refine Zd v_cells rfl (Zi (Zam (hO'3.rd0 s_cells.rd) rfl) ?_)
 obtain ⟨x1,hx'2,hp⟩:=Zv hp
 obtain ⟨u'2,k'4,ca'2,v'6,rfl,hW'2⟩:=zb.ok (h:=k'3)  (hO'3.sl 2 rfl:Sl zt k'3 v'5 ([(-1)]:List Int)) hx'2
 refine Zat (id:=83) (caps:=[]) rfl (Z4 (v:=v'5) rfl (Z4 (v:=.n (cells.length:Int)) rfl zh)) ca'2 ?_
 have hO'4:=hO'3.call hW'2 rfl
 refine Zd v'4 rfl (Zd v'6 rfl (Zc (Zb (Zm (Zs (Zd (.n v) rfl (zK (hO'4.bsl (E:=zt) (l:=[v]) hO'4.fr (by rw [(zP (v:=.n v) rfl ZaF)]; rfl) rfl) ?_)))))))
 rintro v'7 k'5 ⟨r'3,f'3,hW⟩
 have hO'5:=hW
 refine Zd v'7 rfl (Zc (Zb (Zm (Zs (Zd v_cells rfl (Zi (Zam (hO'5.rd0 s_cells.rd) rfl) ?_))))))
 obtain ⟨c'1,hp⟩:=Zp hp
 refine zK (hO'5.mks (E:=e_bool) (y:=false) (bytes:=1) (z:=(cells.length:Int)) hO'5.fr rfl rfl rfl c'1 (by decide)) ?_
 rintro v'8 k'6 ⟨r'4,f'4,hW⟩
 have hO'6:=hW
 refine Zd v'8 rfl (Zc (Zb (Zm (Zs (Zd v'8 rfl (Zd (.n v) rfl ?_))))))
 obtain ⟨c'2,hp⟩:=Zp hp
 refine Zi (zn (E:=e_bool) (z:=v) (hO'6.sl 5 rfl:Sl e_bool k'6 v'8 (List.replicate ((cells.length:Int):Int).toNat false)) rfl rfl c'2) (zK (hO'6.ste (E:=e_bool) (y:=true) (ws:=[.b true]) 5 rfl rfl (Zr c'2) rfl rfl ⟨rfl,Nat.le_of_ble_eq_true rfl,rfl⟩ rfl) ?_)
 rintro _ k'7 ⟨rfl,f'5,m'1,hW⟩
 have hO'7:=hW
 refine Zc (Zb (Zm (Zae ?_)))
 obtain ⟨o'1,ho'1,hp⟩:=Zv hp
 refine W.mono (Q:=fun e fr k=>match (generalizing:=false) o'1 with
   | (from_1,dir1)=>e = (.exit 0)∧fr 6 = v'4∧fr 7 = v'6∧Own B h k [eSl zt v'4 from_1,eSl zt v'6 dir1]) ?_ ?_
 ·clear hp
  refine zE (fun st fr k=>match st with | (from_,dir,l,met)=>∃ (v'9:V),fr 0 = v_cells∧fr 6 = v'4∧fr 7 = v'6∧fr 8 = v'9∧fr 9 = v'8∧Own B h k [eSl zt v'4 from_,eSl zt v'6 dir,eSl zt v'9 l,eSl e_bool v'8 met]) ho'1 (s:=(x,x1,[v],(List.replicate ((cells.length:Int):Int).toNat false).set v.toNat true)) ⟨v'7,rfl,rfl,rfl,rfl,rfl,(hO'7.pick [1,3,4,5] rfl (by decide))⟩ ?_
  rintro ⟨from_,dir,l,met⟩ q'2 k'9 ⟨v'9,q'2_0,q'2_6,q'2_7,q'2_8,q'2_9,hO'9⟩ o'2 hp
  dsimp only [zl.s0] at hp
  refine Zm (Zm (Zs (Zd v'9 q'2_8 (Zi (Zam (hO'9.sl 2 rfl) rfl) (Zi (Zec (a:=(l.length:Int)) (b:=0) rfl rfl) (Zc (Zb ?_)))))))
  rcases Zy hp with ⟨b'1,hp⟩ | ⟨b'1,hp⟩
  ·refine zA (t:=(decide (0 < (l.length:Int)))) rfl b'1 ?_
   refine zB (Zb (Zae (Zm (Zs (Zd v'9 q'2_8 ?_)))))
   obtain ⟨c'3,hp⟩:=Zp hp
   refine Zi (zn (E:=zt) (z:=0) (hO'9.sl 2 rfl) rfl rfl c'3) (Zi (zI (w:=.n (gi l (0:Int).toNat)) (hO'9.sl 2 rfl) rfl (Zr c'3) rfl) (Zd (.n (gi l (0:Int).toNat)) rfl (Zc (Zb (Zm (Zs (Zd v'9 q'2_8 ?_)))))))
   obtain ⟨c'4,hp⟩:=Zp hp
   refine Zi (ZhI (E:=zt) (z:=1) (hO'9.sl 2 rfl) rfl rfl c'4) (Zd ((V.cut v'9 (1:Int).toNat (l).length)) rfl (Zc (Zb (Zm (Zs (Zd (.n 0) rfl (Zc ?_)))))))
   refine Zb (Zae ?_)
   obtain ⟨o'3,ho'2,hp⟩:=Zv hp
   refine W.mono (Q:=fun e fr k=>match (generalizing:=false) o'3 with
     | (from_3,dir3,l2,met2)=>e = (.exit 2)∧∃ (v'11:V),fr 0 = v_cells∧fr 6 = v'4∧fr 7 = v'6∧fr 8 = v'11∧fr 9 = v'8∧Own B h k [eSl zt v'4 from_3,eSl zt v'6 dir3,eSl zt v'11 l2,eSl e_bool v'8 met2]) ?_ ?_
   ·clear hp
    have hO'11:=hO'9.cutF 2 rfl c'4
    refine zE (fun st fr k=>match st with | (from_2,dir2,l1,met1,x2)=>∃ (v'10:V),fr 0 = v_cells∧fr 6 = v'4∧fr 7 = v'6∧fr 8 = v'10∧fr 9 = v'8∧fr 10 = .n (gi l (0:Int).toNat)∧fr 37 = .n x2∧Own B h k [eSl zt v'4 from_2,eSl zt v'6 dir2,eSl zt v'10 l1,eSl e_bool v'8 met1]) ho'2 (s:=(from_,dir,l.drop (1:Int).toNat,met,0)) ⟨(V.cut v'9 (1:Int).toNat (l).length),q'2_0,q'2_6,q'2_7,rfl,q'2_9,rfl,rfl,(hO'11.pick [0,1,2,3] rfl (by decide))⟩ ?_
    rintro ⟨from_2,dir2,l1,met1,x2⟩ q'4 k'11 ⟨v'10,q'4_0,q'4_6,q'4_7,q'4_8,q'4_9,q'4_10,q'4_37,hO'12⟩ o'4 hp
    dsimp only [zl.s1] at hp
    refine Zm (Zs (Zi (z4 (a:=x2) (b:=4) q'4_37 rfl) (Zc (Zb (Zm ?_)))))
    rcases Zy hp with ⟨b'2,hp⟩ | ⟨b'2,hp⟩
    ·refine zA (t:=(decide (x2 < 4))) rfl b'2 ?_
     refine zB (Zb (Zm (Zae (Zm (Zs (Zd (.n x2) q'4_37 (Zd (.n x2) rfl ?_)))))))
     refine Zc (Zb (Zm (Zs (Zd v_cells q'4_0 (Zd (.n (gi l (0:Int).toNat)) q'4_10 (Zd (.n x2) rfl ?_))))))
     obtain ⟨c'5,hp⟩:=Zp hp
     refine Zi (zn (E:=Zh) (z:=(gi l (0:Int).toNat)) (hO'12.rd0 s_cells.rd) rfl rfl c'5) (Zi (Zar (off':=0) (off2:=0) (hO'12.rd0 s_cells.rd) (Zr c'5) rfl rfl) ?_)
     obtain ⟨c'6,hp⟩:=Zp hp
     refine Zi (Zbd (off:=0) (off2:=(0 + x2.toNat * 1)) (z:=x2) (hO'12.rd0 s_cells.rd) (Zr c'5) rfl rfl c'6 rfl) (Zi (zI (w:=.n (((gi cells (gi l (0:Int).toNat:Int).toNat).Next).get x2)) (hO'12.rd0 s_cells.rd) rfl (Zr c'5) (z7 c'6)) (Zd (.n (((gi cells (gi l (0:Int).toNat:Int).toNat).Next).get x2)) rfl (Zc (Zb (Zm (Zs (Zd (.n (((gi cells (gi l (0:Int).toNat:Int).toNat).Next).get x2)) rfl ?_)))))))
     refine Zi (Zcx (a:=(((gi cells (gi l (0:Int).toNat:Int).toNat).Next).get x2)) (b:=0) rfl rfl) (Zd (.b (decide (0≤(((gi cells (gi l (0:Int).toNat:Int).toNat).Next).get x2)))) rfl ?_)
     obtain ⟨t,hv'1,hp⟩:=Zv hp
     refine zU 6 (fun fr' k'=>k'11 = k'∧fr' 55 = .b t∧fr' 0 = v_cells∧fr' 10 = .n (gi l (0:Int).toNat)∧fr' 11 = .n x2∧fr' 12 = .n (((gi cells (gi l (0:Int).toNat:Int).toNat).Next).get x2)∧fr' 37 = .n x2∧fr' 6 = v'4∧fr' 7 = v'6∧fr' 8 = v'10∧fr' 9 = v'8) ?_ ?_
     ·clear hp; rcases Zy hv'1 with ⟨b'3,hp⟩ | ⟨b'3,hp⟩
      ·skip
       refine ZO rfl b'3 (Zd v'8 q'4_9 (ZO rfl b'3 (Zd (.n (((gi cells (gi l (0:Int).toNat:Int).toNat).Next).get x2)) rfl (ZO rfl b'3 ?_))))
       obtain ⟨c'7,hp⟩:=Zp hp
       refine Zi (zn (E:=e_bool) (z:=(((gi cells (gi l (0:Int).toNat:Int).toNat).Next).get x2)) (hO'12.sl 3 rfl) rfl rfl c'7) (ZO rfl b'3 (Zi (zI (w:=.b (gi met1 (((gi cells (gi l (0:Int).toNat:Int).toNat).Next).get x2:Int).toNat)) (hO'12.sl 3 rfl) rfl (Zr c'7) rfl) (ZO rfl b'3 (Zi (ZcU (t:=(gi met1 (((gi cells (gi l (0:Int).toNat:Int).toNat).Next).get x2:Int).toNat)) rfl) (Zi (ZV (t:=(decide (0≤(((gi cells (gi l (0:Int).toNat:Int).toNat).Next).get x2)))) (v:=.b t) rfl b'3 (Eq.trans (b:=V.b (!(gi met1 (((gi cells (gi l (0:Int).toNat:Int).toNat).Next).get x2:Int).toNat))) rfl (congrArg V.b (Option.some.inj hp)))) (Zc ?_))))))
       exact ⟨rfl,rfl,q'4_0,q'4_10,rfl,rfl,q'4_37,q'4_6,q'4_7,q'4_8,q'4_9⟩
      ·skip
       refine ZC rfl b'3 (ZC rfl b'3 (ZC rfl b'3 (ZC rfl b'3 (ZC rfl b'3 (Zi (ZT (t:=(decide (0≤(((gi cells (gi l (0:Int).toNat:Int).toNat).Next).get x2)))) (v:=.b t) rfl b'3 (Eq.trans (b:=V.b false) rfl (congrArg V.b (Option.some.inj hp)))) (Zc ?_))))))
       exact ⟨rfl,rfl,q'4_0,q'4_10,rfl,rfl,q'4_37,q'4_6,q'4_7,q'4_8,q'4_9⟩
     rintro frg'1 _ ⟨rfl,g'1_55,g'1_0,g'1_10,g'1_11,g'1_12,g'1_37,g'1_6,g'1_7,g'1_8,g'1_9⟩
     refine Zc (Zb ?_)
     rcases Zy hp with ⟨b'4,hp⟩ | ⟨b'4,hp⟩
     ·refine zA (t:=t) g'1_55 b'4 ?_
      refine Zm (Zs (Zd v'8 g'1_9 (Zd (.n (((gi cells (gi l (0:Int).toNat:Int).toNat).Next).get x2)) g'1_12 (Zd v'4 g'1_6 (Zd (.n (((gi cells (gi l (0:Int).toNat:Int).toNat).Next).get x2)) g'1_12 (Zd v'6 g'1_7 (Zd (.n (((gi cells (gi l (0:Int).toNat:Int).toNat).Next).get x2)) g'1_12 ?_)))))))
      refine Zd (.n (gi l (0:Int).toNat)) g'1_10 (Zd (.n x2) g'1_11 ?_)
      obtain ⟨c'8,hp⟩:=Zp hp
      refine Zi (zn (E:=e_bool) (z:=(((gi cells (gi l (0:Int).toNat:Int).toNat).Next).get x2)) (hO'12.sl 3 rfl) rfl rfl c'8) (zK (hO'12.ste (E:=e_bool) (y:=true) (ws:=[.b true]) 3 rfl rfl (Zr c'8) rfl rfl ⟨rfl,Nat.le_of_ble_eq_true rfl,rfl⟩ rfl) ?_)
      rintro _ k'12 ⟨rfl,f'6,m'2,hW⟩
      have hO'13:=hW
      obtain ⟨c'9,hp⟩:=Zp hp
      refine Zi (zn (E:=zt) (z:=(((gi cells (gi l (0:Int).toNat:Int).toNat).Next).get x2)) (hO'13.sl 0 rfl) rfl rfl c'9) (zK (hO'13.ste (E:=zt) (y:=(gi l (0:Int).toNat)) (ws:=[.n (gi l (0:Int).toNat)]) 0 rfl rfl (Zr c'9) rfl rfl ⟨rfl,Nat.le_of_ble_eq_true rfl,rfl⟩ rfl) ?_)
      rintro _ k'13 ⟨rfl,f'7,m'3,hW⟩
      have hO'14:=hW
      obtain ⟨c'10,hp⟩:=Zp hp
      refine Zi (zn (E:=zt) (z:=(((gi cells (gi l (0:Int).toNat:Int).toNat).Next).get x2)) (hO'14.sl 1 rfl) rfl rfl c'10) (zK (hO'14.ste (E:=zt) (y:=x2) (ws:=[.n x2]) 1 rfl rfl (Zr c'10) rfl rfl ⟨rfl,Nat.le_of_ble_eq_true rfl,rfl⟩ rfl) ?_)
      rintro _ k'14 ⟨rfl,f'8,m'4,hW⟩
      have hO'15:=hW
      refine Zc (Zb (Zs (Zd v'10 g'1_8 (Zd (.n (((gi cells (gi l (0:Int).toNat:Int).toNat).Next).get x2)) g'1_12 (zK (hO'15.bsl (E:=zt) (l:=[((gi cells (gi l (0:Int).toNat:Int).toNat).Next).get x2]) hO'15.fr (by rw [(zP (v:=.n (((gi cells (gi l (0:Int).toNat:Int).toNat).Next).get x2)) rfl ZaF)]; rfl) rfl) ?_)))))
      rintro v'12 k'15 ⟨r'5,f'9,hW⟩
      have hO'16:=hW
      obtain ⟨c'11,hp⟩:=Zp hp
      refine zK (hO'16.app (E:=zt) (bytes:=8) 2 hO'16.fr rfl (hO'16.sl 4 rfl:Sl zt k'15 v'12 [((gi cells (gi l (0:Int).toNat:Int).toNat).Next).get x2]) rfl rfl (fun _=>rfl) c'11 (by decide)) ?_
      rintro v'13 k'16 ⟨f'10,hW⟩
      have hO'17:=hW
      refine Zd v'13 rfl (Zc (zV (Zb (Zs ?_))))
      obtain ⟨c'12,hp⟩:=Zp hp
      refine Zi (z8 (a:=x2) (b:=1) g'1_37 rfl c'12) (Zd (.n (x2 + 1)) rfl (Zc ?_))
      cases hp
      exact (Or.inl ⟨(from_2.set (((gi cells (gi l (0:Int).toNat:Int).toNat).Next).get x2:Int).toNat (gi l (0:Int).toNat),dir2.set (((gi cells (gi l (0:Int).toNat:Int).toNat).Next).get x2:Int).toNat x2,l1++[((gi cells (gi l (0:Int).toNat:Int).toNat).Next).get x2],met1.set (((gi cells (gi l (0:Int).toNat:Int).toNat).Next).get x2:Int).toNat true,x2 + 1),rfl,rfl,v'13,g'1_0,g'1_6,g'1_7,rfl,g'1_9,g'1_10,rfl,(hO'17.pick [0,1,2,3] rfl (by decide))⟩)
     ·refine z9 (t:=t) g'1_55 b'4 ?_
      refine zB (zV (Zb (Zs ?_)))
      obtain ⟨c'13,hp⟩:=Zp hp
      refine Zi (z8 (a:=x2) (b:=1) g'1_37 rfl c'13) (Zd (.n (x2 + 1)) rfl (Zc ?_))
      cases hp
      exact (Or.inl ⟨(from_2,dir2,l1,met1,x2 + 1),rfl,rfl,v'10,g'1_0,g'1_6,g'1_7,g'1_8,g'1_9,g'1_10,rfl,(hO'12.pick [0,1,2,3] rfl (by decide))⟩)
    ·refine z9 (t:=(decide (x2 < 4))) rfl b'2 ?_
     refine ZaL (zO ?_)
     cases hp
     refine (Or.inr ⟨(from_2,dir2,l1,met1),rfl,(fun h=>nomatch h),(fun he=>?_)⟩)
     subst he; exact ⟨rfl,v'10,q'4_0,q'4_6,q'4_7,q'4_8,q'4_9,(hO'12.pick [0,1,2,3] rfl (by decide))⟩
   intro e'2 q'3 k'10 hJ'2
   obtain ⟨from_3,dir3,l2,met2⟩:=o'3
   obtain ⟨rfl,v'11,q'3_0,q'3_6,q'3_7,q'3_8,q'3_9,hO'10⟩:=hJ'2
   refine Zav (zV ?_)
   cases hp
   exact (Or.inl ⟨(from_3,dir3,l2,met2),rfl,rfl,v'11,q'3_0,q'3_6,q'3_7,q'3_8,q'3_9,(hO'10.pick [0,1,2,3] rfl (by decide))⟩)
  ·refine z9 (t:=(decide (0 < (l.length:Int)))) rfl b'1 ?_
   refine ZaL (zO ?_)
   cases hp
   refine (Or.inr ⟨(from_,dir),rfl,(fun h=>nomatch h),(fun he=>?_)⟩)
   subst he; exact ⟨rfl,q'2_6,q'2_7,(hO'9.pick [0,1] rfl (by decide))⟩
 intro e'1 q'1 k'8 hJ'1
 obtain ⟨from_1,dir1⟩:=o'1
 obtain ⟨rfl,q'1_6,q'1_7,hO'8⟩:=hJ'1
 refine Zav (Zb (Zm (Zs (Zd v'4 q'1_6 (Zd v'6 q'1_7 (Zd v'4 rfl (Zd v'6 rfl ?_)))))))
 refine Zc (Zb (Zao (z6 (zR (n:=4) (v:=v'4) rfl (zR (n:=5) (v:=v'6) rfl zj)) ?_)))
 cases hp
 exact ⟨v'4,v'6,rfl,(hO'8.pick [0,1] rfl (by decide))⟩

theorem zm.ok {h:Hp} {cells:List Za} {v_cells:V} (s_cells:Sl Zh h v_cells cells) {r:(List (List Int)) × Int} (hp:zm cells = some r) :
  ∃ u k',Is G 29 [v_cells] h u k'∧∃ (v'1:V),∃ (vs'1:List V),V.tu [v'1,.n r.2] = u∧Own (fun r=>r < h.n) h k' [eSl eV v'1 vs'1,Zb3 zt vs'1 r.1]:=by
 refine WC.is (Za0 ZcS ?_)
 unfold zm at hp
 let B:Nat→Prop:=(fun r=>r < h.n)
 have hO:Own B h h []:=Own.start0 h
 refine Zm (Zs (Zd (.sn) rfl (Zd (.n 0) rfl (Zc (Zb (Zm (Zm ?_)))))))
 refine Zs (Zd v_cells rfl ?_)
 obtain ⟨x,hx'1,hp⟩:=Zv hp
 obtain ⟨u'1,k'1,ca'1,rfl,hW'1⟩:=ZX.ok (h:=h)  (hO.rd0 s_cells.rd) hx'1
 refine Zat (id:=66) (caps:=[]) rfl (Z4 (v:=v_cells) rfl zh) ca'1 ?_
 have hO'1:=hO.call hW'1 rfl
 refine Zd (.n x) rfl (Zc (Zb (Zm (Zs (Zd (.n x) rfl (Zi (ZcL (a:=x) (b:=0) rfl rfl) (Zc ?_)))))))
 refine Zb ?_
 rcases Zy hp with ⟨b'1,hp⟩ | ⟨b'1,hp⟩
 ·refine zA (t:=(!(decide (x = 0)))) rfl b'1 ?_
  refine Zm (Zs (Zd (.n x) rfl (Zd (.sn) rfl (Zd (.n x) rfl (Zc (Zb (Zao ?_)))))))
  refine zX ?_
  have hO'2:=hO'1.nil eV
  have hO'3:=hO'2.allNil zt 0
  refine z6 (zR (n:=2) (v:=.sn) rfl (zR (n:=3) (v:=.n x) rfl zj)) ?_
  cases hp
  exact ⟨V.sn,[],rfl,(hO'3.pick [0,1] rfl (by decide))⟩
 ·refine z9 (t:=(!(decide (x = 0)))) rfl b'1 ?_
  refine zB (Zb (Zm (Zs (Zd (.sn) rfl (Zc (Zb (Zm ?_)))))))
  refine Zs (Zd v_cells rfl (Zi (Zam (hO'1.rd0 s_cells.rd) rfl) ?_))
  obtain ⟨c'1,hp⟩:=Zp hp
  refine zK (hO'1.mks (E:=e_bool) (y:=false) (bytes:=1) (z:=(cells.length:Int)) hO'1.fr rfl rfl rfl c'1 (by decide)) ?_
  rintro v'2 k'2 ⟨r'1,f'1,hW⟩
  have hO'4:=hW
  refine Zd v'2 rfl (Zc (Zb (Zm (Zm (Zs (Zd v_cells rfl (Zi (Zam (hO'4.rd0 s_cells.rd) rfl) ?_)))))))
  refine Zd (.n 0) rfl (Zc (Zb (Zae ?_)))
  obtain ⟨o'1,ho'1,hp⟩:=Zv hp
  refine W.mono (Q:=fun e fr k=>match (generalizing:=false) o'1 with
    | l1=>e = (.exit 0)∧∃ (v'4:V),∃ (vs'3:List V),fr 5 = v'4∧Own B h k [eSl eV v'4 vs'3,Zb3 zt vs'3 l1]) ?_ ?_
  ·clear hp
   have hO'6:=hO'4.nil eV
   have hO'7:=hO'6.allNil zt 0
   refine zE (fun st fr k=>match st with | (l,met,x1)=>∃ (v'3:V),∃ (vs'2:List V),fr 0 = v_cells∧fr 5 = v'3∧fr 6 = v'2∧fr 21 = .n (cells.length:Int)∧fr 22 = .n x1∧Own B h k [eSl eV v'3 vs'2,Zb3 zt vs'2 l,eSl e_bool v'2 met]) ho'1 (s:=(([]:List (List Int)),List.replicate ((cells.length:Int):Int).toNat false,0)) ⟨V.sn,[],rfl,rfl,rfl,rfl,rfl,(hO'7.pick [1,2,0] rfl (by decide))⟩ ?_
   rintro ⟨l,met,x1⟩ q'2 k'4 ⟨v'3,vs'2,q'2_0,q'2_5,q'2_6,q'2_21,q'2_22,hO'8⟩ o'2 hp
   dsimp only [zm.s0] at hp
   refine Zm (Zs (Zi (z4 (a:=x1) (b:=(cells.length:Int)) q'2_22 q'2_21) (Zc (Zb (Zm ?_)))))
   rcases Zy hp with ⟨b'2,hp⟩ | ⟨b'2,hp⟩
   ·refine zA (t:=(decide (x1 < (cells.length:Int)))) rfl b'2 ?_
    refine zB (Zb (Zm (Zae (Zm (Zs (Zd (.n x1) q'2_22 (Zd (.n x1) rfl ?_)))))))
    refine Zc (Zb (Zm (Zm (Zs (Zd v'2 q'2_6 (Zd (.n x1) rfl ?_))))))
    obtain ⟨c'2,hp⟩:=Zp hp
    refine Zi (zn (E:=e_bool) (z:=x1) (hO'8.sl 2 rfl) rfl rfl c'2) (Zi (zI (w:=.b (gi met x1.toNat)) (hO'8.sl 2 rfl) rfl (Zr c'2) rfl) (Zc (Zb ?_)))
    rcases Zy hp with ⟨b'3,hp⟩ | ⟨b'3,hp⟩
    ·refine zA (t:=(gi met x1.toNat)) rfl b'3 ?_
     refine ZaL (zO (Zav (Zb (Zs ?_))))
     obtain ⟨c'3,hp⟩:=Zp hp
     refine Zi (z8 (a:=x1) (b:=1) q'2_22 rfl c'3) (Zd (.n (x1 + 1)) rfl (Zc ?_))
     cases hp
     exact (Or.inl ⟨(l,met,x1 + 1),rfl,rfl,v'3,vs'2,q'2_0,q'2_5,q'2_6,q'2_21,rfl,(hO'8.pick [0,1,2] rfl (by decide))⟩)
    ·refine z9 (t:=(gi met x1.toNat)) rfl b'3 ?_
     refine zB (Zb (Zm (Zs (Zd v_cells q'2_0 (Zd (.n x1) rfl ?_)))))
     obtain ⟨⟨x2,x3⟩,hx'2,hp⟩:=Zv hp
     obtain ⟨u'2,k'5,ca'2,v'5,v'6,rfl,hW'2⟩:=zl.ok (h:=k'4)  (hO'8.rd0 s_cells.rd) hx'2
     refine Zat (id:=67) (caps:=[]) rfl (Z4 (v:=v_cells) rfl (Z4 (v:=.n x1) rfl zh)) ca'2 ?_
     have hO'9:=hO'8.call hW'2 rfl
     refine Zd (.tu [v'5,v'6]) rfl (Zi (Za8 (vs:=[v'5,v'6]) (v:=v'5) rfl rfl) (Zi (Za8 (vs:=[v'5,v'6]) (v:=v'6) rfl rfl) (Zd v'5 rfl (Zd v'6 rfl (Zc (Zb (Zm ?_)))))))
     refine Zs (zK (hO'9.bsl (E:=zt) (l:=[]) hO'9.fr (by rw [ZaF]; rfl) rfl) ?_)
     rintro v'7 k'6 ⟨r'2,f'2,hW⟩
     have hO'10:=hW
     refine Zd v'7 rfl (Zc (Zb (Zm (Zm (Zs (Zd v_cells q'2_0 (Zi (Zam (hO'10.rd0 s_cells.rd) rfl) ?_)))))))
     refine Zd (.n 0) rfl (Zc (Zb (Zae ?_)))
     obtain ⟨o'3,ho'2,hp⟩:=Zv hp
     refine W.mono (Q:=fun e fr k=>match (generalizing:=false) o'3 with
       | (met2,part1)=>e = (.exit 2)∧∃ (v'9:V),fr 0 = v_cells∧fr 5 = v'3∧fr 6 = v'2∧fr 10 = v'9∧fr 21 = .n (cells.length:Int)∧fr 22 = .n x1∧Own B h k [eSl eV v'3 vs'2,Zb3 zt vs'2 l,eSl e_bool v'2 met2,eSl zt v'9 part1]) ?_ ?_
     ·clear hp
      refine zE (fun st fr k=>match st with | (met1,part,x4)=>∃ (v'8:V),fr 0 = v_cells∧fr 5 = v'3∧fr 6 = v'2∧fr 7 = .n x1∧fr 9 = v'6∧fr 10 = v'8∧fr 21 = .n (cells.length:Int)∧fr 22 = .n x1∧fr 37 = .n (cells.length:Int)∧fr 38 = .n x4∧Own B h k [eSl eV v'3 vs'2,Zb3 zt vs'2 l,eSl e_bool v'2 met1,eSl zt v'6 x3,eSl zt v'8 part]) ho'2 (s:=(met,[],0)) ⟨v'7,q'2_0,q'2_5,q'2_6,rfl,rfl,rfl,q'2_21,q'2_22,rfl,rfl,(hO'10.pick [0,1,2,4,5] rfl (by decide))⟩ ?_
      rintro ⟨met1,part,x4⟩ q'4 k'8 ⟨v'8,q'4_0,q'4_5,q'4_6,q'4_7,q'4_9,q'4_10,q'4_21,q'4_22,q'4_37,q'4_38,hO'12⟩ o'4 hp
      dsimp only [zm.s1] at hp
      refine Zm (Zs (Zi (z4 (a:=x4) (b:=(cells.length:Int)) q'4_38 q'4_37) (Zc (Zb (Zm ?_)))))
      rcases Zy hp with ⟨b'4,hp⟩ | ⟨b'4,hp⟩
      ·refine zA (t:=(decide (x4 < (cells.length:Int)))) rfl b'4 ?_
       refine zB (Zb (Zm (Zae (Zm (Zs (Zd (.n x4) q'4_38 (Zd (.n x4) rfl ?_)))))))
       refine Zc (Zb (Zm (Zs (Zd (.n x4) rfl (Zd (.n x1) q'4_7 (Zi (Za7 (a:=x4) (b:=x1) rfl rfl) (Zd (.b (decide (x4 = x1))) rfl ?_)))))))
       obtain ⟨t,hv'1,hp⟩:=Zv hp
       refine zU 6 (fun fr' k'=>k'8 = k'∧fr' 50 = .b t∧fr' 0 = v_cells∧fr' 10 = v'8∧fr' 11 = .n x4∧fr' 21 = .n (cells.length:Int)∧fr' 22 = .n x1∧fr' 37 = .n (cells.length:Int)∧fr' 38 = .n x4∧fr' 5 = v'3∧fr' 6 = v'2∧fr' 7 = .n x1∧fr' 9 = v'6) ?_ ?_
       ·clear hp; rcases Zy hv'1 with ⟨b'5,hp⟩ | ⟨b'5,hp⟩
        ·skip
         refine ZC rfl b'5 (ZC rfl b'5 (ZC rfl b'5 (ZC rfl b'5 (ZC rfl b'5 (Zi (ZV (t:=(decide (x4 = x1))) (v:=.b t) rfl b'5 (Eq.trans (b:=V.b true) rfl (congrArg V.b (Option.some.inj hp)))) (Zc ?_))))))
         exact ⟨rfl,rfl,q'4_0,q'4_10,rfl,q'4_21,q'4_22,q'4_37,q'4_38,q'4_5,q'4_6,q'4_7,q'4_9⟩
        ·skip
         refine ZO rfl b'5 (Zd v'6 q'4_9 (ZO rfl b'5 (Zd (.n x4) rfl (ZO rfl b'5 ?_))))
         obtain ⟨c'4,hp⟩:=Zp hp
         refine Zi (zn (E:=zt) (z:=x4) (hO'12.sl 3 rfl) rfl rfl c'4) (ZO rfl b'5 (Zi (zI (w:=.n (gi x3 x4.toNat)) (hO'12.sl 3 rfl) rfl (Zr c'4) rfl) (ZO rfl b'5 (Zi (Zcx (a:=(gi x3 x4.toNat)) (b:=0) rfl rfl) (Zi (ZT (t:=(decide (x4 = x1))) (v:=.b t) rfl b'5 (Eq.trans (b:=V.b (decide (0≤(gi x3 x4.toNat)))) rfl (congrArg V.b (Option.some.inj hp)))) (Zc ?_))))))
         exact ⟨rfl,rfl,q'4_0,q'4_10,rfl,q'4_21,q'4_22,q'4_37,q'4_38,q'4_5,q'4_6,q'4_7,q'4_9⟩
       rintro frg'1 _ ⟨rfl,g'1_50,g'1_0,g'1_10,g'1_11,g'1_21,g'1_22,g'1_37,g'1_38,g'1_5,g'1_6,g'1_7,g'1_9⟩
       refine Zc (Zb ?_)
       rcases Zy hp with ⟨b'6,hp⟩ | ⟨b'6,hp⟩
       ·refine zA (t:=t) g'1_50 b'6 ?_
        refine Zm (Zs (Zd v'2 g'1_6 (Zd (.n x4) g'1_11 ?_)))
        obtain ⟨c'5,hp⟩:=Zp hp
        refine Zi (zn (E:=e_bool) (z:=x4) (hO'12.sl 2 rfl) rfl rfl c'5) (zK (hO'12.ste (E:=e_bool) (y:=true) (ws:=[.b true]) 2 rfl rfl (Zr c'5) rfl rfl ⟨rfl,Nat.le_of_ble_eq_true rfl,rfl⟩ rfl) ?_)
        rintro _ k'9 ⟨rfl,f'3,m'1,hW⟩
        have hO'13:=hW
        refine Zc (Zb (Zs (Zd v'8 g'1_10 (Zd (.n x4) g'1_11 (zK (hO'13.bsl (E:=zt) (l:=[x4]) hO'13.fr (by rw [(zP (v:=.n x4) rfl ZaF)]; rfl) rfl) ?_)))))
        rintro v'10 k'10 ⟨r'3,f'4,hW⟩
        have hO'14:=hW
        obtain ⟨c'6,hp⟩:=Zp hp
        refine zK (hO'14.app (E:=zt) (bytes:=8) 4 hO'14.fr rfl (hO'14.sl 5 rfl) rfl rfl (fun _=>rfl) c'6 (by decide)) ?_
        rintro v'11 k'11 ⟨f'5,hW⟩
        have hO'15:=hW
        refine Zd v'11 rfl (Zc (zV (Zb (Zs ?_))))
        obtain ⟨c'7,hp⟩:=Zp hp
        refine Zi (z8 (a:=x4) (b:=1) g'1_38 rfl c'7) (Zd (.n (x4 + 1)) rfl (Zc ?_))
        cases hp
        exact (Or.inl ⟨(met1.set x4.toNat true,part++[x4],x4 + 1),rfl,rfl,v'11,g'1_0,g'1_5,g'1_6,g'1_7,g'1_9,rfl,g'1_21,g'1_22,g'1_37,rfl,(hO'15.pick [0,1,2,3,4] rfl (by decide))⟩)
       ·refine z9 (t:=t) g'1_50 b'6 ?_
        refine zB (zV (Zb (Zs ?_)))
        obtain ⟨c'8,hp⟩:=Zp hp
        refine Zi (z8 (a:=x4) (b:=1) g'1_38 rfl c'8) (Zd (.n (x4 + 1)) rfl (Zc ?_))
        cases hp
        exact (Or.inl ⟨(met1,part,x4 + 1),rfl,rfl,v'8,g'1_0,g'1_5,g'1_6,g'1_7,g'1_9,g'1_10,g'1_21,g'1_22,g'1_37,rfl,(hO'12.pick [0,1,2,3,4] rfl (by decide))⟩)
      ·refine z9 (t:=(decide (x4 < (cells.length:Int)))) rfl b'4 ?_
       refine ZaL (zO ?_)
       cases hp
       refine (Or.inr ⟨(met1,part),rfl,(fun h=>nomatch h),(fun he=>?_)⟩)
       subst he; exact ⟨rfl,v'8,q'4_0,q'4_5,q'4_6,q'4_10,q'4_21,q'4_22,(hO'12.pick [0,1,2,4] rfl (by decide))⟩
     intro e'2 q'3 k'7 hJ'2
     obtain ⟨met2,part1⟩:=o'3
     obtain ⟨rfl,v'9,q'3_0,q'3_5,q'3_6,q'3_10,q'3_21,q'3_22,hO'11⟩:=hJ'2
     refine Zav (Zb (Zs (Zd v'3 q'3_5 (Zd v'9 q'3_10 (zK (hO'11.bsl (E:=eV) (l:=[v'9]) hO'11.fr (by rw [(zP (v:=v'9) rfl ZaF)]; simp only [fill,(hO'11.sl 3 rfl).cells]; simp [over]) rfl) ?_)))))
     rintro v'12 k'12 ⟨r'4,f'6,hW⟩
     have hO'16:=hW
     obtain ⟨c'9,hp⟩:=Zp hp
     refine zK (hO'16.appV (bytes:=24) 0 hO'16.fr rfl (hO'16.sl 4 rfl) rfl rfl (by simp only [List.all_cons,List.all_nil,Bool.and_true]; exact (hO'16.sl 3 rfl).oneV) (by rw [(hO'16.allLen 1 rfl:(vs'2).length = (l).length)]; exact c'9) (by decide)) ?_
     rintro v'13 k'13 ⟨f'7,hW⟩
     have hO'17:=hW
     have hO'18:=hO'17.absorb 1 3 rfl rfl (by decide)
     refine Zd v'13 rfl (Zc (zV (Zb (Zs ?_))))
     obtain ⟨c'10,hp⟩:=Zp hp
     refine Zi (z8 (a:=x1) (b:=1) q'3_22 rfl c'10) (Zd (.n (x1 + 1)) rfl (Zc ?_))
     cases hp
     exact (Or.inl ⟨(l++[part1],met2,x1 + 1),rfl,rfl,v'13,vs'2++[v'9],q'3_0,rfl,q'3_6,q'3_21,rfl,(hO'18.pick [0,1,2] rfl (by decide))⟩)
   ·refine z9 (t:=(decide (x1 < (cells.length:Int)))) rfl b'2 ?_
    refine ZaL (zO ?_)
    cases hp
    refine (Or.inr ⟨l,rfl,(fun h=>nomatch h),(fun he=>?_)⟩)
    subst he; exact ⟨rfl,v'3,vs'2,q'2_5,(hO'8.pick [0,1] rfl (by decide))⟩
  intro e'1 q'1 k'3 hJ'1
  obtain ⟨l1,rfl⟩:∃ x,x = o'1:=⟨_,rfl⟩
  obtain ⟨rfl,v'4,vs'3,q'1_5,hO'5⟩:=hJ'1
  refine Zav (Zb (Zm (Zs (Zd v'4 q'1_5 (Zd v'4 rfl (Zd (.n 0) rfl (Zc ?_)))))))
  refine Zb (Zao (z6 (zR (n:=2) (v:=v'4) rfl (zR (n:=3) (v:=.n 0) rfl zj)) ?_))
  cases hp
  exact ⟨v'4,vs'3,rfl,(hO'5.pick [0,1] rfl (by decide))⟩

theorem ZaG.ok {h:Hp} {cells:List Za} {v_cells:V} (s_cells:Sl Zh h v_cells cells) {r:Bool} (hp:ZaG cells = some r) :
  ∃ u k',Is G 32 [v_cells] h u k'∧V.b r = u∧Own (fun r=>r < h.n) h k' []:=by
 refine WC.is (Za0 ZcT ?_)
 unfold ZaG at hp
 let B:Nat→Prop:=(fun r=>r < h.n)
 have hO:Own B h h []:=Own.start0 h
 refine Zm (Zs (Zd (.b false) rfl (Zc (Zb (Zm (Zs (Zd v_cells rfl ?_)))))))
 obtain ⟨⟨x,x1⟩,hx'1,hp⟩:=Zv hp
 obtain ⟨u'1,k'1,ca'1,v'1,vs'1,rfl,hW'1⟩:=zm.ok (h:=h)  (hO.rd0 s_cells.rd) hx'1
 refine Zat (id:=29) (caps:=[]) rfl (Z4 (v:=v_cells) rfl zh) ca'1 ?_
 have hO'1:=hO.call hW'1 rfl
 refine Zd (.tu [v'1,.n x1]) rfl (Zi (Za8 (vs:=[v'1,.n x1]) (v:=v'1) rfl rfl) (Zi (Za8 (vs:=[v'1,.n x1]) (v:=.n x1) rfl rfl) (Zd v'1 rfl (Zd (.n x1) rfl (Zc (Zb (Zm ?_)))))))
 refine Zs (Zd (.n x1) rfl (Zi (Za7 (a:=x1) (b:=0) rfl rfl) (Zd (.b (decide (x1 = 0))) rfl ?_)))
 refine zU 4 (fun fr' k'=>k'1 = k'∧fr' 16 = .b ((decide (x1 = 0)) && (decide ((x.length:Int) = 1)))) ?_ ?_
 ·rcases bc (decide (x1 = 0)) with b'1 | b'1
  ·skip
   refine ZO rfl b'1 (Zd v'1 rfl (ZO rfl b'1 (Zi (Zg1 (n:=(x).length) (hO'1.sl 0 rfl) (hO'1.allLen 1 rfl:(vs'1).length = (x).length) rfl) (ZO rfl b'1 (Zi (Za7 (a:=(x.length:Int)) (b:=1) rfl rfl) (Zi (ZV (t:=(decide (x1 = 0))) (v:=.b ((decide (x1 = 0)) && (decide ((x.length:Int) = 1)))) rfl b'1 (Eq.trans (b:=V.b (decide ((x.length:Int) = 1))) rfl (Zc7 b'1))) (Zc ?_)))))))
   exact ⟨rfl,rfl⟩
  ·skip
   refine ZC rfl b'1 (ZC rfl b'1 (ZC rfl b'1 (Zi (ZT (t:=(decide (x1 = 0))) (v:=.b ((decide (x1 = 0)) && (decide ((x.length:Int) = 1)))) rfl b'1 (Eq.trans (b:=V.b false) rfl (ZbU b'1))) (Zc ?_))))
   exact ⟨rfl,rfl⟩
 rintro frg'1 _ ⟨rfl,g'1_16⟩
 refine Zd (.b ((decide (x1 = 0)) && (decide ((x.length:Int) = 1)))) g'1_16 (Zc (Zb (Zao (z6 (zR (n:=2) (v:=.b ((decide (x1 = 0)) && (decide ((x.length:Int) = 1)))) rfl zj) ?_))))
 cases hp
 exact ⟨rfl,(hO'1.pick [] rfl (by decide))⟩

theorem zD.ok {h:Hp} {d:Zj} {cells:List Za} {v_cells:V} (s_cells:Sl Zh h v_cells cells) {r:Bool} (hp:zD d cells = some r) :
  ∃ u k',Is G 220 [.ag (Ze.c d),v_cells] h u k'∧V.b r = u∧Own (fun r=>r < h.n) h k' []:=by
 refine WC.is (Za0 Zcv ?_)
 unfold zD at hp
 let B:Nat→Prop:=(fun r=>r < h.n)
 have hO:Own B h h []:=Own.start0 h
 refine Zm (Zs (zK (hO.boxd (v:=.ag (Ze.c d)) (cs:=Ze.c d) hO.fr rfl rfl) ?_))
 rintro _ k'1 ⟨r'1,rfl,n'1,f'1,hW⟩
 have hO'1:=hW
 refine Zd (.b false) rfl (Zc (Zb (Zm (ZiH ?_))))
 have hW:=hO'1.bump 28
 have fr'1:=Fresh.start k'1 28
 have nb'1:∀ {i:Nat},h.n≤k'1.n + i:=Nat.le_trans hO'1.n (Nat.le_add_right _ _)
 have hO'2:=hW
 refine Zax (Zbb (r:=r'1) (o:=0) (o':=0) rfl rfl) (Zax (Za9 (cs:=(Ze.c d)) (v:=.n d.Cell) (hO'2.box 0 rfl) rfl rfl) (Zax (Zcx (a:=d.Cell) (b:=0) rfl rfl) (ZbX (.b (decide (0≤d.Cell))) rfl ?_)))
 rcases Zy hp with ⟨b'1,hp⟩ | ⟨b'1,hp⟩
 ·skip
  refine Zb7 rfl b'1 (Zax (Zbb (r:=r'1) (o:=0) (o':=0) rfl rfl) (Zb7 rfl b'1 (Zax (Za9 (cs:=(Ze.c d)) (v:=.n d.Cell) (hO'2.box 0 rfl) rfl rfl) (Zb7 rfl b'1 (ZbX v_cells rfl (Zb7 rfl b'1 (Zax (Zam (hO'2.rd0 s_cells.rd) rfl) ?_)))))))
  refine Zb7 rfl b'1 (Zax (z4 (a:=d.Cell) (b:=(cells.length:Int)) rfl rfl) (Zax (ZV (t:=(decide (0≤d.Cell))) (v:=.b (decide (d.Cell < (cells.length:Int)))) rfl b'1 rfl) (ZbX (.b (decide (d.Cell < (cells.length:Int)))) rfl ?_)))
  rcases Zy hp with ⟨b'2,hp⟩ | ⟨b'2,hp⟩
  ·skip
   refine Zb7 rfl b'2 (Zax (Zbb (r:=r'1) (o:=0) (o':=1) rfl rfl) (Zb7 rfl b'2 (Zax (Za9 (cs:=(Ze.c d)) (v:=.n d.Dir) (hO'2.box 0 rfl) rfl rfl) (Zb7 rfl b'2 ?_))))
   obtain ⟨x,hx'1,hp⟩:=Zv hp
   obtain ⟨u'1,k'3,ca'1,rfl,hW'1⟩:=zC.ok (h:=(k'1.bump 28))   hx'1
   refine ZjJ (id:=90) (caps:=[]) rfl (Z4 (v:=.n d.Dir) rfl zh) ca'1 ?_
   have fr'2:=fr'1.call hW'1
   have hO'3:=hO'2.call hW'1 rfl
   refine Zax (ZV (t:=(decide (d.Cell < (cells.length:Int)))) (v:=.b x) rfl b'2 rfl) (ZbX (.b x) rfl ?_)
   rcases Zy hp with ⟨b'3,hp⟩ | ⟨b'3,hp⟩
   ·skip
    refine Zb7 rfl b'3 (ZbX v_cells rfl (Zb7 rfl b'3 (Zax (Zbb (r:=r'1) (o:=0) (o':=0) rfl rfl) (Zb7 rfl b'3 (Zax (Za9 (cs:=(Ze.c d)) (v:=.n d.Cell) (hO'3.box 0 rfl) rfl rfl) (Zb7 rfl b'3 (Zax (Zbb (r:=r'1) (o:=0) (o':=1) rfl rfl) ?_)))))))
    refine Zb7 rfl b'3 (Zax (Za9 (cs:=(Ze.c d)) (v:=.n d.Dir) (hO'3.box 0 rfl) rfl rfl) (Zb7 rfl b'3 ?_))
    obtain ⟨c'1,hp⟩:=Zp hp
    refine Zax (zn (E:=Zh) (z:=d.Cell) (hO'3.rd0 s_cells.rd) rfl rfl c'1) (Zb7 rfl b'3 (Zax (Zar (off':=0) (off2:=0) (hO'3.rd0 s_cells.rd) (Zr c'1) rfl rfl) (Zb7 rfl b'3 ?_)))
    obtain ⟨c'2,hp⟩:=Zp hp
    refine Zax (Zbd (off:=0) (off2:=(0 + (d.Dir:Int).toNat * 1)) (z:=d.Dir) (hO'3.rd0 s_cells.rd) (Zr c'1) rfl rfl c'2 rfl) (Zb7 rfl b'3 (Zax (zI (w:=.n (((gi cells (d.Cell:Int).toNat).Next).get d.Dir)) (hO'3.rd0 s_cells.rd) rfl (Zr c'1) (z7 c'2)) (Zb7 rfl b'3 (Zax (Zcx (a:=(((gi cells (d.Cell:Int).toNat).Next).get d.Dir)) (b:=0) rfl rfl) (Zax (ZV (t:=x) (v:=.b (decide (0≤(((gi cells (d.Cell:Int).toNat).Next).get d.Dir)))) rfl b'3 rfl) (ZbX (.b (decide (0≤(((gi cells (d.Cell:Int).toNat).Next).get d.Dir)))) rfl (Zdx ?_)))))))
    refine And.intro ?_ ?_
    ·intro q hq
     simp only [List.mem_cons,List.not_mem_nil,or_false] at hq
     rcases hq with rfl
     ·refine Zdt ?_ ?_
      ·exact (fun h=>nomatch h)
      ·exact (fun h=>nomatch h)
    refine Zb (Zao (z6 (zR (n:=4) (v:=.b (decide (0≤(((gi cells (d.Cell:Int).toNat).Next).get d.Dir)))) rfl zj) ?_))
    cases hp
    exact ⟨rfl,(hO'3.pick [] rfl (by decide))⟩
   ·skip
    refine z3 rfl b'3 (z3 rfl b'3 (z3 rfl b'3 (z3 rfl b'3 (z3 rfl b'3 (z3 rfl b'3 (z3 rfl b'3 (z3 rfl b'3 ?_)))))))
    refine z3 rfl b'3 (z3 rfl b'3 (Zax (ZT (t:=x) (v:=.b false) rfl b'3 rfl) (ZbX (.b false) rfl (Zdx ?_))))
    refine And.intro ?_ ?_
    ·intro q hq
     simp only [List.mem_cons,List.not_mem_nil,or_false] at hq
     rcases hq with rfl
     ·exact ZhR
    refine Zb (Zao (z6 (zR (n:=4) (v:=.b false) rfl zj) ?_))
    cases hp
    exact ⟨rfl,(hO'3.pick [] rfl (by decide))⟩
  ·skip
   refine z3 rfl b'2 (z3 rfl b'2 (z3 rfl b'2 (Zax (ZT (t:=(decide (d.Cell < (cells.length:Int)))) (v:=.b false) rfl b'2 rfl) (ZbX (.b false) rfl (z3 rfl rfl (z3 rfl rfl (z3 rfl rfl ?_)))))))
   refine z3 rfl rfl (z3 rfl rfl (z3 rfl rfl (z3 rfl rfl (z3 rfl rfl (z3 rfl rfl (z3 rfl rfl (Zax (ZT (t:=false) (v:=.b false) rfl rfl rfl) ?_)))))))
   refine ZbX (.b false) rfl (Zdx ?_)
   refine And.intro ?_ ?_
   ·intro q hq
    simp only [List.mem_cons,List.not_mem_nil,or_false] at hq
    rcases hq with rfl
    ·exact ZhR
   refine Zb (Zao (z6 (zR (n:=4) (v:=.b false) rfl zj) ?_))
   cases hp
   exact ⟨rfl,(hO'2.pick [] rfl (by decide))⟩
 ·skip
  refine z3 rfl b'1 (z3 rfl b'1 (z3 rfl b'1 (z3 rfl b'1 (z3 rfl b'1 (Zax (ZT (t:=(decide (0≤d.Cell))) (v:=.b false) rfl b'1 rfl) (ZbX (.b false) rfl (z3 rfl rfl ?_)))))))
  refine z3 rfl rfl (z3 rfl rfl (Zax (ZT (t:=false) (v:=.b false) rfl rfl rfl) (ZbX (.b false) rfl (z3 rfl rfl (z3 rfl rfl (z3 rfl rfl (z3 rfl rfl ?_)))))))
  refine z3 rfl rfl (z3 rfl rfl (z3 rfl rfl (z3 rfl rfl (z3 rfl rfl (z3 rfl rfl (Zax (ZT (t:=false) (v:=.b false) rfl rfl rfl) (ZbX (.b false) rfl ?_)))))))
  refine Zdx ?_
  refine And.intro ?_ ?_
  ·intro q hq
   simp only [List.mem_cons,List.not_mem_nil,or_false] at hq
   rcases hq with rfl
   ·exact ZhR
  refine Zb (Zao (z6 (zR (n:=4) (v:=.b false) rfl zj) ?_))
  cases hp
  exact ⟨rfl,(hO'2.pick [] rfl (by decide))⟩

theorem ZZ.ok {h:Hp} {d:Zj} {cells:List Za} {v_cells:V} (s_cells:Sl Zh h v_cells cells) {r:Zj} (hp:ZZ d cells = some r) :
  ∃ u k',Is G 221 [.ag (Ze.c d),v_cells] h u k'∧V.ag (Ze.c r) = u∧Own (fun r=>r < h.n) h k' []:=by
 refine WC.is (Za0 ZbC ?_)
 unfold ZZ at hp
 let B:Nat→Prop:=(fun r=>r < h.n)
 have hO:Own B h h []:=Own.start0 h
 refine Zm (Zs (zK (hO.boxd (v:=.ag (Ze.c d)) (cs:=Ze.c d) hO.fr rfl rfl) ?_))
 rintro _ k'1 ⟨r'1,rfl,n'1,f'1,hW⟩
 have hO'1:=hW
 refine zK (hO'1.alloc (cs:=Ze.c (⟨0,0⟩:Zj)) hO'1.fr) ?_
 rintro _ k'2 ⟨r'2,rfl,n'2,f'2,hW⟩
 have hO'2:=hW
 refine Zc (Zb (Zm (Zg0 ?_)))
 have hW:=hO'2.bump 10
 have hO'3:=hW
 refine zx v_cells rfl (ZJ rfl (Zbb (r:=r'1) (o:=0) (o':=0) rfl rfl) (ZJ rfl (Za9 (cs:=(Ze.c d)) (v:=.n d.Cell) (hO'3.box 0 rfl) rfl rfl) (ZJ rfl (Zbb (r:=r'1) (o:=0) (o':=1) rfl rfl) (ZJ rfl (Za9 (cs:=(Ze.c d)) (v:=.n d.Dir) (hO'3.box 0 rfl) rfl rfl) ?_))))
 obtain ⟨c'1,hp⟩:=Zp hp
 refine ZJ rfl (zn (E:=Zh) (z:=d.Cell) (hO'3.rd0 s_cells.rd) rfl rfl c'1) (ZJ rfl (Zar (off':=0) (off2:=0) (hO'3.rd0 s_cells.rd) (Zr c'1) rfl rfl) ?_)
 obtain ⟨c'2,hp⟩:=Zp hp
 refine ZJ rfl (Zbd (off:=0) (off2:=(0 + (d.Dir:Int).toNat * 1)) (z:=d.Dir) (hO'3.rd0 s_cells.rd) (Zr c'1) rfl rfl c'2 rfl) (ZJ rfl (zI (w:=.n (((gi cells (d.Cell:Int).toNat).Next).get d.Dir)) (hO'3.rd0 s_cells.rd) rfl (Zr c'1) (z7 c'2)) (zx (.n (((gi cells (d.Cell:Int).toNat).Next).get d.Dir)) rfl (zr (Zb (Zm (Zm (Zs ?_)))))))
 refine Zi (Zd7 (cs:=ZaP.c (⟨1,0,(-1),2⟩:A4 Int)) (by rw [(zP (v:=.n 1) rfl (zP (v:=.n 0) rfl (zP (v:=.n (-1)) rfl (zP (v:=.n 2) rfl ZaF))))]; rfl)) (Zd (.n 0) rfl (Zc (Zb (Zae ?_))))
 obtain ⟨o'1,ho'1,hp⟩:=Zv hp
 refine W.mono (Q:=fun e fr k=>match (generalizing:=false) o'1 with
   | .inl _=>e = (.exit 0)∧fr 2 = .p r'1 0∧fr 4 = .p r'2 0∧Own B h k [Zbs r'1 (Ze.c d),Zbs r'2 (Ze.c (⟨0,0⟩:Zj))]
   | .inr x1=>e = .ret∧fr 4 = .p r'2 0∧Own B h k [Zbs r'2 (Ze.c x1)]) ?_ ?_
 ·clear hp
  refine zE (fun st fr k=>match st with | x=>fr 1 = v_cells∧fr 2 = .p r'1 0∧fr 4 = .p r'2 0∧fr 5 = .n (((gi cells (d.Cell:Int).toNat).Next).get d.Dir)∧fr 18 = .ag (ZaP.c (⟨1,0,(-1),2⟩:A4 Int))∧fr 19 = .n x∧Own B h k [Zbs r'1 (Ze.c d),Zbs r'2 (Ze.c (⟨0,0⟩:Zj))]) ho'1 (s:=0) ⟨rfl,rfl,rfl,rfl,rfl,rfl,(hO'3.pick [0,1] rfl (by decide))⟩ ?_
  rintro x q'2 k'5 ⟨q'2_1,q'2_2,q'2_4,q'2_5,q'2_18,q'2_19,hO'5⟩ o'2 hp
  dsimp only [ZZ.s0] at hp
  refine Zm (Zs (Zi (z4 (a:=x) (b:=4) q'2_19 rfl) (Zc (Zb (Zm ?_)))))
  rcases Zy hp with ⟨b'1,hp⟩ | ⟨b'1,hp⟩
  ·refine zA (t:=(decide (x < 4))) rfl b'1 ?_
   refine zB (Zb (Zm (Zae (Zm (Zs ?_)))))
   obtain ⟨c'3,hp⟩:=Zp hp
   refine Zi (ZkS (cs:=ZaP.c (⟨1,0,(-1),2⟩:A4 Int)) (z:=x) (v:=.n ((⟨1,0,(-1),2⟩:A4 Int).get x)) q'2_18 q'2_19 c'3 (Zfk c'3)) (Zd (.n ((⟨1,0,(-1),2⟩:A4 Int).get x)) rfl (Zc (Zb (Zm (Zs (Zd (.n (((gi cells (d.Cell:Int).toNat).Next).get d.Dir)) q'2_5 (Zi (Zbb (r:=r'1) (o:=0) (o':=1) q'2_2 rfl) ?_)))))))
   refine Zi (Za9 (cs:=(Ze.c d)) (v:=.n d.Dir) (hO'5.box 0 rfl) rfl rfl) (Zd (.n ((⟨1,0,(-1),2⟩:A4 Int).get x)) rfl ?_)
   obtain ⟨x2,hx'1,hp⟩:=Zv hp
   obtain ⟨u'1,k'6,ca'1,rfl,hW'1⟩:=zW.ok (h:=k'5)   hx'1
   refine Zat (id:=77) (caps:=[]) rfl (Z4 (v:=.n d.Dir) rfl (Z4 (v:=.n ((⟨1,0,(-1),2⟩:A4 Int).get x)) rfl zh)) ca'1 ?_
   have hO'6:=hO'5.call hW'1 rfl
   refine Zi (Zd7 (cs:=Ze.c (⟨((gi cells (d.Cell:Int).toNat).Next).get d.Dir,x2⟩:Zj)) (by rw [(zP (v:=.n (((gi cells (d.Cell:Int).toNat).Next).get d.Dir)) rfl (zP (v:=.n x2) rfl ZaF))]; rfl)) (zK (hO'6.alloc (cs:=Ze.c (⟨0,0⟩:Zj)) hO'6.fr) ?_)
   rintro _ k'7 ⟨r'3,rfl,n'3,f'3,hW⟩
   have hO'7:=hW
   refine zK (hO'7.stb (ws:=Ze.c (⟨((gi cells (d.Cell:Int).toNat).Next).get d.Dir,x2⟩:Zj)) (cs':=Ze.c (⟨((gi cells (d.Cell:Int).toNat).Next).get d.Dir,x2⟩:Zj)) (v:=.ag (Ze.c (⟨((gi cells (d.Cell:Int).toNat).Next).get d.Dir,x2⟩:Zj))) 2 rfl rfl rfl rfl ⟨rfl,Nat.le_of_ble_eq_true rfl,rfl⟩ rfl) ?_
   rintro _ k'8 ⟨rfl,f'4,m'1,hW⟩
   have hO'8:=hW
   refine Zc (Zb (Zm (Zs (Zi (ZaI (cs:=(Ze.c (⟨((gi cells (d.Cell:Int).toNat).Next).get d.Dir,x2⟩:Zj))) (ws:=Ze.c (⟨((gi cells (d.Cell:Int).toNat).Next).get d.Dir,x2⟩:Zj)) (hO'8.box 2 rfl) rfl rfl) (Zd v_cells q'2_1 ?_)))))
   obtain ⟨x3,hx'2,hp⟩:=Zv hp
   obtain ⟨u'2,k'9,ca'2,rfl,hW'2⟩:=zD.ok (h:=k'8)  (hO'8.rd0 s_cells.rd) hx'2
   refine Zat (id:=220) (caps:=[]) rfl (Z4 (v:=.ag (Ze.c (⟨((gi cells (d.Cell:Int).toNat).Next).get d.Dir,x2⟩:Zj))) rfl (Z4 (v:=v_cells) rfl zh)) ca'2 ?_
   have hO'9:=hO'8.call hW'2 rfl
   refine Zc (Zb ?_)
   rcases Zy hp with ⟨b'2,hp⟩ | ⟨b'2,hp⟩
   ·refine zA (t:=x3) rfl b'2 ?_
    refine Zm (Zs (Zi (ZaI (cs:=(Ze.c (⟨((gi cells (d.Cell:Int).toNat).Next).get d.Dir,x2⟩:Zj))) (ws:=Ze.c (⟨((gi cells (d.Cell:Int).toNat).Next).get d.Dir,x2⟩:Zj)) (hO'9.box 2 rfl) rfl rfl) (zK (hO'9.stb (ws:=Ze.c (⟨((gi cells (d.Cell:Int).toNat).Next).get d.Dir,x2⟩:Zj)) (cs':=Ze.c (⟨((gi cells (d.Cell:Int).toNat).Next).get d.Dir,x2⟩:Zj)) (v:=.ag (Ze.c (⟨((gi cells (d.Cell:Int).toNat).Next).get d.Dir,x2⟩:Zj))) 1 rfl q'2_4 rfl rfl ⟨rfl,Nat.le_of_ble_eq_true rfl,rfl⟩ rfl) ?_)))
    rintro _ k'10 ⟨rfl,f'5,m'2,hW⟩
    have hO'10:=hW
    refine Zc (Zb (Zao (ZbQ (zX ?_))))
    cases hp
    refine (Or.inr ⟨(.inr (⟨((gi cells (d.Cell:Int).toNat).Next).get d.Dir,x2⟩:Zj)),rfl,(fun h=>nomatch h),(fun he=>?_)⟩)
    subst he; exact ⟨rfl,q'2_4,(hO'10.pick [1] rfl (by decide))⟩
   ·refine z9 (t:=x3) rfl b'2 ?_
    refine zB (zV (Zb (Zs ?_)))
    obtain ⟨c'4,hp⟩:=Zp hp
    refine Zi (z8 (a:=x) (b:=1) q'2_19 rfl c'4) (Zd (.n (x + 1)) rfl (Zc ?_))
    cases hp
    exact (Or.inl ⟨x + 1,rfl,rfl,q'2_1,q'2_2,q'2_4,q'2_5,q'2_18,rfl,(hO'9.pick [0,1] rfl (by decide))⟩)
  ·refine z9 (t:=(decide (x < 4))) rfl b'1 ?_
   refine ZaL (zO ?_)
   cases hp
   refine (Or.inr ⟨.inl (),rfl,(fun h=>nomatch h),(fun he=>?_)⟩)
   subst he; exact ⟨rfl,q'2_2,q'2_4,(hO'5.pick [0,1] rfl (by decide))⟩
 intro e'1 q'1 k'4 hJ'1
 rcases o'1 with _ | x1
 ·obtain ⟨rfl,q'1_2,q'1_4,hO'4⟩:=hJ'1
  refine Zav (Zb (Zm (Zs (Zi (ZaI (cs:=(Ze.c d)) (ws:=Ze.c d) (hO'4.box 0 rfl) q'1_2 rfl) (zK (hO'4.stb (ws:=Ze.c d) (cs':=Ze.c d) (v:=.ag (Ze.c d)) 1 rfl q'1_4 rfl rfl ⟨rfl,Nat.le_of_ble_eq_true rfl,rfl⟩ rfl) ?_)))))
  rintro _ k'11 ⟨rfl,f'6,m'3,hW⟩
  have hO'11:=hW
  refine Zc (Zb (Zao (z6 (Zlx (n:=4) (v:=.ag (Ze.c d)) (r:=r'2) q'1_4 (hO'11.box 1 rfl) rfl zj) ?_)))
  cases hp
  exact ⟨rfl,(hO'11.pick [] rfl (by decide))⟩
 ·obtain ⟨rfl,q'1_4,hO'4⟩:=hJ'1
  refine ZbQ (zX (z6 (Zlx (n:=4) (v:=.ag (Ze.c x1)) (r:=r'2) q'1_4 (hO'4.box 0 rfl) rfl zj) ?_))
  cases hp
  exact ⟨rfl,(hO'4.pick [] rfl (by decide))⟩

theorem zd.ok {h:Hp} {cells:List Za} {v_cells:V} (s_cells:Sl Zh h v_cells cells) {r:(List (List Zj)) × Int} (hp:zd cells = some r) :
  ∃ u k',Is G 203 [v_cells] h u k'∧∃ (v'1:V),∃ (vs'1:List V),V.tu [v'1,.n r.2] = u∧Own (fun r=>r < h.n) h k' [eSl eV v'1 vs'1,Zb3 Ze vs'1 r.1]:=by
 refine WC.is (Za0 ZcP ?_)
 unfold zd at hp
 let B:Nat→Prop:=(fun r=>r < h.n)
 have hO:Own B h h []:=Own.start0 h
 refine Zm (Zs (Zd (.sn) rfl (Zd (.n 0) rfl (Zc (Zb (Zm (Zm ?_)))))))
 refine Zs (Zd v_cells rfl ?_)
 obtain ⟨x,hx'1,hp⟩:=Zv hp
 obtain ⟨u'1,k'1,ca'1,rfl,hW'1⟩:=ZX.ok (h:=h)  (hO.rd0 s_cells.rd) hx'1
 refine Zat (id:=66) (caps:=[]) rfl (Z4 (v:=v_cells) rfl zh) ca'1 ?_
 have hO'1:=hO.call hW'1 rfl
 refine Zd (.n x) rfl (Zc (Zb (Zm (Zs (Zd (.n x) rfl (Zi (ZcL (a:=x) (b:=0) rfl rfl) (Zc ?_)))))))
 refine Zb ?_
 rcases Zy hp with ⟨b'1,hp⟩ | ⟨b'1,hp⟩
 ·refine zA (t:=(!(decide (x = 0)))) rfl b'1 ?_
  refine Zm (Zs (Zd (.n x) rfl (Zd (.sn) rfl (Zd (.n x) rfl (Zc (Zb (Zao ?_)))))))
  refine zX ?_
  have hO'2:=hO'1.nil eV
  have hO'3:=hO'2.allNil Ze 0
  refine z6 (zR (n:=2) (v:=.sn) rfl (zR (n:=3) (v:=.n x) rfl zj)) ?_
  cases hp
  exact ⟨V.sn,[],rfl,(hO'3.pick [0,1] rfl (by decide))⟩
 ·refine z9 (t:=(!(decide (x = 0)))) rfl b'1 ?_
  refine zB (Zb (Zm (Zs (Zd (.sn) rfl (Zc (Zb (Zm ?_)))))))
  refine Zs (zK (hO'1.mkm Ze hO'1.fr) ?_)
  rintro _ k'2 ⟨r'1,rfl,n'1,f'1,hW⟩
  have hO'4:=hW
  refine Zd (.mp r'1) rfl (Zc (Zb (Zm (Zm (Zs (Zd v_cells rfl (Zi (Zam (hO'4.rd0 s_cells.rd) rfl) ?_)))))))
  refine Zd (.n 0) rfl (Zc (Zb (Zae ?_)))
  obtain ⟨o'1,ho'1,hp⟩:=Zv hp
  refine W.mono (Q:=fun e fr k=>match (generalizing:=false) o'1 with
    | l1=>e = (.exit 0)∧∃ (v'3:V),∃ (vs'3:List V),fr 5 = v'3∧Own B h k [eSl eV v'3 vs'3,Zb3 Ze vs'3 l1]) ?_ ?_
  ·clear hp
   have hO'6:=hO'4.nil eV
   have hO'7:=hO'6.allNil Ze 0
   refine zE (fun st fr k=>match st with | (l,met,x1)=>∃ (v'2:V),∃ (vs'2:List V),fr 0 = v_cells∧fr 5 = v'2∧fr 6 = .mp r'1∧fr 19 = .n (cells.length:Int)∧fr 20 = .n x1∧Own B h k [eSl eV v'2 vs'2,Zb3 Ze vs'2 l,eMp Ze r'1 met]) ho'1 (s:=(([]:List (List Zj)),([]:List (Zj × Bool)),0)) ⟨V.sn,[],rfl,rfl,rfl,rfl,rfl,(hO'7.pick [1,2,0] rfl (by decide))⟩ ?_
   rintro ⟨l,met,x1⟩ q'2 k'4 ⟨v'2,vs'2,q'2_0,q'2_5,q'2_6,q'2_19,q'2_20,hO'8⟩ o'2 hp
   dsimp only [zd.s0] at hp
   refine Zm (Zs (Zi (z4 (a:=x1) (b:=(cells.length:Int)) q'2_20 q'2_19) (Zc (Zb (Zm ?_)))))
   rcases Zy hp with ⟨b'2,hp⟩ | ⟨b'2,hp⟩
   ·refine zA (t:=(decide (x1 < (cells.length:Int)))) rfl b'2 ?_
    refine zB (Zb (Zm (Zae (Zm (Zs (Zd (.n x1) q'2_20 (Zd (.n x1) rfl ?_)))))))
    refine Zc (Zb (Zm (Zs (Zd (.n 0) rfl (Zc (Zb (Zae ?_)))))))
    obtain ⟨o'3,ho'2,hp⟩:=Zv hp
    refine W.mono (Q:=fun e fr k=>match (generalizing:=false) o'3 with
      | (l3,met2)=>e = (.exit 2)∧∃ (v'5:V),∃ (vs'5:List V),fr 0 = v_cells∧fr 5 = v'5∧fr 6 = .mp r'1∧fr 19 = .n (cells.length:Int)∧fr 20 = .n x1∧Own B h k [eSl eV v'5 vs'5,Zb3 Ze vs'5 l3,eMp Ze r'1 met2]) ?_ ?_
    ·clear hp
     refine zE (fun st fr k=>match st with | (l2,met1,x2)=>∃ (v'4:V),∃ (vs'4:List V),fr 0 = v_cells∧fr 5 = v'4∧fr 6 = .mp r'1∧fr 7 = .n x1∧fr 19 = .n (cells.length:Int)∧fr 20 = .n x1∧fr 23 = .n x2∧Own B h k [eSl eV v'4 vs'4,Zb3 Ze vs'4 l2,eMp Ze r'1 met1]) ho'2 (s:=(l,met,0)) ⟨v'2,vs'2,q'2_0,q'2_5,q'2_6,rfl,q'2_19,q'2_20,rfl,(hO'8.pick [0,1,2] rfl (by decide))⟩ ?_
     rintro ⟨l2,met1,x2⟩ q'4 k'6 ⟨v'4,vs'4,q'4_0,q'4_5,q'4_6,q'4_7,q'4_19,q'4_20,q'4_23,hO'10⟩ o'4 hp
     dsimp only [zd.s1] at hp
     refine Zm (Zs (Zi (z4 (a:=x2) (b:=4) q'4_23 rfl) (Zc (Zb (Zm ?_)))))
     rcases Zy hp with ⟨b'3,hp⟩ | ⟨b'3,hp⟩
     ·refine zA (t:=(decide (x2 < 4))) rfl b'3 ?_
      refine zB (Zb (Zm (Zae (Zm (Zs (Zd (.n x2) q'4_23 (Zd (.n x2) rfl ?_)))))))
      refine Zc (Zb (Zm (Zs (Zd (.n x1) q'4_7 (Zd (.n x2) rfl (Zi (Zd7 (cs:=Ze.c (⟨x1,x2⟩:Zj)) (by rw [(zP (v:=.n x1) rfl (zP (v:=.n x2) rfl ZaF))]; rfl)) (zK (hO'10.alloc (cs:=Ze.c (⟨0,0⟩:Zj)) hO'10.fr) ?_)))))))
      rintro _ k'7 ⟨r'2,rfl,n'2,f'2,hW⟩
      have hO'11:=hW
      refine zK (hO'11.stb (ws:=Ze.c (⟨x1,x2⟩:Zj)) (cs':=Ze.c (⟨x1,x2⟩:Zj)) (v:=.ag (Ze.c (⟨x1,x2⟩:Zj))) 3 rfl rfl rfl rfl ⟨rfl,Nat.le_of_ble_eq_true rfl,rfl⟩ rfl) ?_
      rintro _ k'8 ⟨rfl,f'3,m'1,hW⟩
      have hO'12:=hW
      refine Zc (Zb (Zm (Zm (Zs (Zi (ZaI (cs:=(Ze.c (⟨x1,x2⟩:Zj))) (ws:=Ze.c (⟨x1,x2⟩:Zj)) (hO'12.box 3 rfl) rfl rfl) (Zd v_cells q'4_0 ?_))))))
      obtain ⟨x3,hx'2,hp⟩:=Zv hp
      obtain ⟨u'2,k'9,ca'2,rfl,hW'2⟩:=zD.ok (h:=k'8)  (hO'12.rd0 s_cells.rd) hx'2
      refine Zat (id:=220) (caps:=[]) rfl (Z4 (v:=.ag (Ze.c (⟨x1,x2⟩:Zj))) rfl (Z4 (v:=v_cells) rfl zh)) ca'2 ?_
      have hO'13:=hO'12.call hW'2 rfl
      refine Zi (ZcU (t:=x3) rfl) (Zd (.b (!x3)) rfl ?_)
      refine zU 4 (fun fr' k'=>k'9 = k'∧fr' 37 = .b ((!x3) || (Zby false (⟨x1,x2⟩:Zj) met1))∧fr' 0 = v_cells∧fr' 19 = .n (cells.length:Int)∧fr' 20 = .n x1∧fr' 23 = .n x2∧fr' 5 = v'4∧fr' 6 = .mp r'1∧fr' 7 = .n x1∧fr' 9 = .p r'2 0) ?_ ?_
      ·rcases bc (!x3) with b'4 | b'4
       ·skip
        refine ZC rfl b'4 (ZC rfl b'4 (ZC rfl b'4 (Zi (ZV (t:=(!x3)) (v:=.b ((!x3) || (Zby false (⟨x1,x2⟩:Zj) met1))) rfl b'4 (Eq.trans (b:=V.b true) rfl (Zbz b'4))) (Zc ?_))))
        exact ⟨rfl,rfl,q'4_0,q'4_19,q'4_20,q'4_23,q'4_5,q'4_6,q'4_7,rfl⟩
       ·skip
        refine ZO rfl b'4 (Zd (.mp r'1) q'4_6 (ZO rfl b'4 (Zi (ZaI (cs:=(Ze.c (⟨x1,x2⟩:Zj))) (ws:=Ze.c (⟨x1,x2⟩:Zj)) (hO'13.box 3 rfl) rfl rfl) (ZO rfl b'4 (Zi (ZjB (E:=Ze) (m:=met1) (q:=(⟨x1,x2⟩:Zj)) (hO'13.mpP 2 rfl) rfl rfl (Mu.Ze.same)) (Zi (ZT (t:=(!x3)) (v:=.b ((!x3) || (Zby false (⟨x1,x2⟩:Zj) met1))) rfl b'4 (Eq.trans (b:=V.b (Zby false (⟨x1,x2⟩:Zj) met1)) rfl (Zcn b'4))) (Zc ?_)))))))
        exact ⟨rfl,rfl,q'4_0,q'4_19,q'4_20,q'4_23,q'4_5,q'4_6,q'4_7,rfl⟩
      rintro frg'1 _ ⟨rfl,g'1_37,g'1_0,g'1_19,g'1_20,g'1_23,g'1_5,g'1_6,g'1_7,g'1_9⟩
      refine Zc (Zb ?_)
      rcases Zy hp with ⟨b'5,hp⟩ | ⟨b'5,hp⟩
      ·refine zA (t:=((!x3) || (Zby false (⟨x1,x2⟩:Zj) met1))) g'1_37 b'5 ?_
       refine ZaL (zO (Zav (Zb (Zs ?_))))
       obtain ⟨c'1,hp⟩:=Zp hp
       refine Zi (z8 (a:=x2) (b:=1) g'1_23 rfl c'1) (Zd (.n (x2 + 1)) rfl (Zc ?_))
       cases hp
       exact (Or.inl ⟨(l2,met1,x2 + 1),rfl,rfl,v'4,vs'4,g'1_0,g'1_5,g'1_6,g'1_7,g'1_19,g'1_20,rfl,(hO'13.pick [0,1,2] rfl (by decide))⟩)
      ·refine z9 (t:=((!x3) || (Zby false (⟨x1,x2⟩:Zj) met1))) g'1_37 b'5 ?_
       refine zB (Zb (Zm (Zs (Zd (.sn) rfl (Zc (Zb (Zm ?_)))))))
       refine Zm (Zs (Zi (ZaI (cs:=(Ze.c (⟨x1,x2⟩:Zj))) (ws:=Ze.c (⟨x1,x2⟩:Zj)) (hO'13.box 3 rfl) g'1_9 rfl) (zK (hO'13.alloc (cs:=Ze.c (⟨0,0⟩:Zj)) hO'13.fr) ?_)))
       rintro _ k'10 ⟨r'3,rfl,n'3,f'4,hW⟩
       have hO'14:=hW
       refine zK (hO'14.stb (ws:=Ze.c (⟨x1,x2⟩:Zj)) (cs':=Ze.c (⟨x1,x2⟩:Zj)) (v:=.ag (Ze.c (⟨x1,x2⟩:Zj))) 4 rfl rfl rfl rfl ⟨rfl,Nat.le_of_ble_eq_true rfl,rfl⟩ rfl) ?_
       rintro _ k'11 ⟨rfl,f'5,m'2,hW⟩
       have hO'15:=hW
       refine Zc (Zb (Zae ?_))
       obtain ⟨o'5,ho'3,hp⟩:=Zv hp
       refine W.mono (Q:=fun e fr k=>match (generalizing:=false) o'5 with
         | (met4,f1)=>e = (.exit 4)∧∃ (v'7:V),fr 0 = v_cells∧fr 5 = v'4∧fr 6 = .mp r'1∧fr 7 = .n x1∧fr 10 = v'7∧fr 19 = .n (cells.length:Int)∧fr 20 = .n x1∧fr 23 = .n x2∧Own B h k [eSl eV v'4 vs'4,Zb3 Ze vs'4 l2,eMp Ze r'1 met4,eSl Ze v'7 f1]) ?_ ?_
       ·clear hp
        have hO'17:=hO'15.nil Ze
        refine zE (fun st fr k=>match st with | (met3,f,x4)=>∃ (v'6:V),∃ (r'4:Nat),fr 0 = v_cells∧fr 5 = v'4∧fr 6 = .mp r'1∧fr 7 = .n x1∧fr 10 = v'6∧fr 11 = .p r'4 0∧fr 19 = .n (cells.length:Int)∧fr 20 = .n x1∧fr 23 = .n x2∧Own B h k [eSl eV v'4 vs'4,Zb3 Ze vs'4 l2,eMp Ze r'1 met3,eSl Ze v'6 f,Zbs r'4 (Ze.c x4)]) ho'3 (s:=(met1,([]:List Zj),(⟨x1,x2⟩:Zj))) ⟨V.sn,r'3,g'1_0,g'1_5,g'1_6,g'1_7,rfl,rfl,g'1_19,g'1_20,g'1_23,(hO'17.pick [0,1,2,5,4] rfl (by decide))⟩ ?_
        rintro ⟨met3,f,x4⟩ q'6 k'13 ⟨v'6,r'4,q'6_0,q'6_5,q'6_6,q'6_7,q'6_10,q'6_11,q'6_19,q'6_20,q'6_23,hO'18⟩ o'6 hp
        dsimp only [zd.s2] at hp
        refine Zm (Zm (Zs (Zd (.mp r'1) q'6_6 (Zi (ZaI (cs:=(Ze.c x4)) (ws:=Ze.c x4) (hO'18.box 4 rfl) q'6_11 rfl) (Zi (ZjB (E:=Ze) (m:=met3) (q:=x4) (hO'18.mpP 2 rfl) rfl rfl (Mu.Ze.same)) (Zi (ZcU (t:=(Zby false x4 met3)) rfl) (Zc ?_)))))))
        refine Zb ?_
        rcases Zy hp with ⟨b'6,hp⟩ | ⟨b'6,hp⟩
        ·refine zA (t:=(!(Zby false x4 met3))) rfl b'6 ?_
         refine zB (Zb (Zm (Zae (Zm (Zs (Zd (.mp r'1) q'6_6 (Zi (ZaI (cs:=(Ze.c x4)) (ws:=Ze.c x4) (hO'18.box 4 rfl) q'6_11 rfl) ?_)))))))
         refine zK (hO'18.mup (E:=Ze) (m:=met3) (q:=x4) (v:=true) 2 rfl rfl rfl rfl (Mu.Ze.same)) ?_
         rintro _ k'14 ⟨rfl,f'6,m'3,hW⟩
         have hO'19:=hW
         refine Zc (Zb (Zs (Zd v'6 q'6_10 (Zi (ZaI (cs:=(Ze.c x4)) (ws:=Ze.c x4) (hO'19.box 4 rfl) q'6_11 rfl) (zK (hO'19.bsl (E:=Ze) (l:=[x4]) hO'19.fr (by rw [(zP (v:=.ag (Ze.c x4)) rfl ZaF)]; rfl) rfl) ?_)))))
         rintro v'8 k'15 ⟨r'5,f'7,hW⟩
         have hO'20:=hW
         obtain ⟨c'2,hp⟩:=Zp hp
         refine zK (hO'20.app (E:=Ze) (bytes:=16) 3 hO'20.fr rfl (hO'20.sl 5 rfl) rfl rfl (fun _=>rfl) c'2 (by decide)) ?_
         rintro v'9 k'16 ⟨f'8,hW⟩
         have hO'21:=hW
         refine Zd v'9 rfl (Zc (zV (Zb (Zm (Zm (Zs (Zi (ZaI (cs:=(Ze.c x4)) (ws:=Ze.c x4) (hO'21.box 4 rfl) q'6_11 rfl) ?_)))))))
         refine Zc (Zb (Zs (zK (hO'21.alloc (cs:=Ze.c (⟨0,0⟩:Zj)) hO'21.fr) ?_)))
         rintro _ k'17 ⟨r'6,rfl,n'4,f'9,hW⟩
         have hO'22:=hW
         refine zK (hO'22.stb (ws:=Ze.c x4) (cs':=Ze.c x4) (v:=.ag (Ze.c x4)) 6 rfl rfl rfl rfl ⟨rfl,Nat.le_of_ble_eq_true rfl,rfl⟩ rfl) ?_
         rintro _ k'18 ⟨rfl,f'10,m'4,hW⟩
         have hO'23:=hW
         refine Zc (Zb (Zs (Zi (ZaI (cs:=(Ze.c x4)) (ws:=Ze.c x4) (hO'23.box 6 rfl) rfl rfl) (Zd v_cells q'6_0 ?_))))
         obtain ⟨x5,hx'3,hp⟩:=Zv hp
         obtain ⟨u'3,k'19,ca'3,rfl,hW'3⟩:=ZZ.ok (h:=k'18)  (hO'23.rd0 s_cells.rd) hx'3
         refine Zat (id:=221) (caps:=[]) rfl (Z4 (v:=.ag (Ze.c x4)) rfl (Z4 (v:=v_cells) rfl zh)) ca'3 ?_
         have hO'24:=hO'23.call hW'3 rfl
         refine zK (hO'24.stb (ws:=Ze.c x5) (cs':=Ze.c x5) (v:=.ag (Ze.c x5)) 6 rfl rfl rfl rfl ⟨rfl,Nat.le_of_ble_eq_true rfl,rfl⟩ rfl) ?_
         rintro _ k'20 ⟨rfl,f'11,m'5,hW⟩
         have hO'25:=hW
         refine Zc ?_
         cases hp
         exact (Or.inl ⟨(Zcl x4 true met3,f++[x4],x5),rfl,rfl,v'9,r'6,q'6_0,q'6_5,q'6_6,q'6_7,rfl,rfl,q'6_19,q'6_20,q'6_23,(hO'25.pick [0,1,2,3,6] rfl (by decide))⟩)
        ·refine z9 (t:=(!(Zby false x4 met3))) rfl b'6 ?_
         refine ZaL (zO ?_)
         cases hp
         refine (Or.inr ⟨(met3,f),rfl,(fun h=>nomatch h),(fun he=>?_)⟩)
         subst he; exact ⟨rfl,v'6,q'6_0,q'6_5,q'6_6,q'6_7,q'6_10,q'6_19,q'6_20,q'6_23,(hO'18.pick [0,1,2,3] rfl (by decide))⟩
       intro e'3 q'5 k'12 hJ'3
       obtain ⟨met4,f1⟩:=o'5
       obtain ⟨rfl,v'7,q'5_0,q'5_5,q'5_6,q'5_7,q'5_10,q'5_19,q'5_20,q'5_23,hO'16⟩:=hJ'3
       refine Zav (Zb (Zs (Zd v'4 q'5_5 (Zd v'7 q'5_10 (zK (hO'16.bsl (E:=eV) (l:=[v'7]) hO'16.fr (by rw [(zP (v:=v'7) rfl ZaF)]; simp only [fill,(hO'16.sl 3 rfl).cells]; simp [over]) rfl) ?_)))))
       rintro v'10 k'21 ⟨r'7,f'12,hW⟩
       have hO'26:=hW
       obtain ⟨c'3,hp⟩:=Zp hp
       refine zK (hO'26.appV (bytes:=24) 0 hO'26.fr rfl (hO'26.sl 4 rfl) rfl rfl (by simp only [List.all_cons,List.all_nil,Bool.and_true]; exact (hO'26.sl 3 rfl).oneV) (by rw [(hO'26.allLen 1 rfl:(vs'4).length = (l2).length)]; exact c'3) (by decide)) ?_
       rintro v'11 k'22 ⟨f'13,hW⟩
       have hO'27:=hW
       have hO'28:=hO'27.absorb 1 3 rfl rfl (by decide)
       refine Zd v'11 rfl (Zc (zV (Zb (Zs ?_))))
       obtain ⟨c'4,hp⟩:=Zp hp
       refine Zi (z8 (a:=x2) (b:=1) q'5_23 rfl c'4) (Zd (.n (x2 + 1)) rfl (Zc ?_))
       cases hp
       exact (Or.inl ⟨(l2++[f1],met4,x2 + 1),rfl,rfl,v'11,vs'4++[v'7],q'5_0,rfl,q'5_6,q'5_7,q'5_19,q'5_20,rfl,(hO'28.pick [0,1,2] rfl (by decide))⟩)
     ·refine z9 (t:=(decide (x2 < 4))) rfl b'3 ?_
      refine ZaL (zO ?_)
      cases hp
      refine (Or.inr ⟨(l2,met1),rfl,(fun h=>nomatch h),(fun he=>?_)⟩)
      subst he; exact ⟨rfl,v'4,vs'4,q'4_0,q'4_5,q'4_6,q'4_19,q'4_20,(hO'10.pick [0,1,2] rfl (by decide))⟩
    intro e'2 q'3 k'5 hJ'2
    obtain ⟨l3,met2⟩:=o'3
    obtain ⟨rfl,v'5,vs'5,q'3_0,q'3_5,q'3_6,q'3_19,q'3_20,hO'9⟩:=hJ'2
    refine Zav (zV (Zb (Zs ?_)))
    obtain ⟨c'5,hp⟩:=Zp hp
    refine Zi (z8 (a:=x1) (b:=1) q'3_20 rfl c'5) (Zd (.n (x1 + 1)) rfl (Zc ?_))
    cases hp
    exact (Or.inl ⟨(l3,met2,x1 + 1),rfl,rfl,v'5,vs'5,q'3_0,q'3_5,q'3_6,q'3_19,rfl,(hO'9.pick [0,1,2] rfl (by decide))⟩)
   ·refine z9 (t:=(decide (x1 < (cells.length:Int)))) rfl b'2 ?_
    refine ZaL (zO ?_)
    cases hp
    refine (Or.inr ⟨l,rfl,(fun h=>nomatch h),(fun he=>?_)⟩)
    subst he; exact ⟨rfl,v'2,vs'2,q'2_5,(hO'8.pick [0,1] rfl (by decide))⟩
  intro e'1 q'1 k'3 hJ'1
  obtain ⟨l1,rfl⟩:∃ x,x = o'1:=⟨_,rfl⟩
  obtain ⟨rfl,v'3,vs'3,q'1_5,hO'5⟩:=hJ'1
  refine Zav (Zb (Zm (Zs (Zd v'3 q'1_5 (Zd v'3 rfl (Zd (.n 0) rfl (Zc ?_)))))))
  refine Zb (Zao (z6 (zR (n:=2) (v:=v'3) rfl (zR (n:=3) (v:=.n 0) rfl zj)) ?_))
  cases hp
  exact ⟨v'3,vs'3,rfl,(hO'5.pick [0,1] rfl (by decide))⟩

theorem Zaz.ok {h:Hp} {d:Int} {e_:Int}   {r:Int} (hp:Zaz d e_ = some r) :
  ∃ u k',Is G 222 [.n d,.n e_] h u k'∧V.n r = u∧Own (fun r=>r < h.n) h k' []:=by
 refine WC.is (Za0 Zcu ?_)
 unfold Zaz at hp
 let B:Nat→Prop:=(fun r=>r < h.n)
 have hO:Own B h h []:=Own.start0 h
 refine Zm (Zs (Zd (.n 0) rfl (Zc (Zb (Zm (Zm (Zs ?_)))))))
 refine Zd (.n d) rfl ?_
 obtain ⟨x,hx'1,hp⟩:=Zv hp
 obtain ⟨u'1,k'1,ca'1,rfl,hW'1⟩:=zC.ok (h:=h)   hx'1
 refine Zat (id:=90) (caps:=[]) rfl (Z4 (v:=.n d) rfl zh) ca'1 ?_
 have hO'1:=hO.call hW'1 rfl
 refine Zi (ZcU (t:=x) rfl) (Zd (.b (!x)) rfl ?_)
 obtain ⟨t,hv'1,hp⟩:=Zv hp
 refine zU 4 (fun fr' k'=>Own B h k' []∧fr' 12 = .b t∧fr' 0 = .n d∧fr' 1 = .n e_) ?_ ?_
 ·clear hp; rcases Zy hv'1 with ⟨b'1,hp⟩ | ⟨b'1,hp⟩
  ·skip
   refine ZC rfl b'1 (ZC rfl b'1 (ZC rfl b'1 (Zi (ZV (t:=(!x)) (v:=.b t) rfl b'1 (Eq.trans (b:=V.b true) rfl (congrArg V.b (Option.some.inj hp)))) (Zc ?_))))
   exact ⟨hO'1.pick [] rfl (by decide),rfl,rfl,rfl⟩
  ·skip
   refine ZO rfl b'1 (Zd (.n e_) rfl (ZO rfl b'1 ?_))
   obtain ⟨x1,hx'2,hp⟩:=Zv hp
   obtain ⟨u'2,k'2,ca'2,rfl,hW'2⟩:=zC.ok (h:=k'1)   hx'2
   refine Zat (id:=90) (caps:=[]) rfl (Z4 (v:=.n e_) rfl zh) ca'2 ?_
   have hO'2:=hO'1.call hW'2 rfl
   refine ZO rfl b'1 (Zi (ZcU (t:=x1) rfl) (Zi (ZT (t:=(!x)) (v:=.b t) rfl b'1 (Eq.trans (b:=V.b (!x1)) rfl (congrArg V.b (Option.some.inj hp)))) (Zc ?_)))
   exact ⟨hO'2.pick [] rfl (by decide),rfl,rfl,rfl⟩
 rintro frg'1 k'3 ⟨hO'3,g'1_12,g'1_0,g'1_1⟩
 refine Zc (Zb ?_)
 rcases Zy hp with ⟨b'2,hp⟩ | ⟨b'2,hp⟩
 ·refine zA (t:=t) g'1_12 b'2 ?_
  refine Zm (Zs (Zd (.n 0) rfl (Zc (Zb (Zao (zX (z6 (zR (n:=4) (v:=.n 0) rfl zj) ?_)))))))
  cases hp
  exact ⟨rfl,(hO'3.pick [] rfl (by decide))⟩
 ·refine z9 (t:=t) g'1_12 b'2 ?_
  refine zB (Zb (Zm (Zs (Zi (Zd7 (cs:=ZaP.c (⟨0,1,(-2),(-1)⟩:A4 Int)) (by rw [(zP (v:=.n 0) rfl (zP (v:=.n 1) rfl (zP (v:=.n (-2)) rfl (zP (v:=.n (-1)) rfl ZaF))))]; rfl)) (Zd (.n e_) g'1_1 (Zd (.n d) g'1_0 ?_))))))
  obtain ⟨c'1,hp⟩:=Zp hp
  refine Zi (ZkV (a:=e_) (b:=d) rfl rfl c'1) ?_
  obtain ⟨c'2,hp⟩:=Zp hp
  refine Zi (z8 (a:=(e_ - d)) (b:=4) rfl rfl c'2) (Zi (Zed (a:=((e_ - d) + 4)) (b:=4) rfl rfl (by decide)) ?_)
  obtain ⟨c'3,hp⟩:=Zp hp
  refine Zi (ZkS (cs:=ZaP.c (⟨0,1,(-2),(-1)⟩:A4 Int)) (z:=(((e_ - d) + 4).tmod 4)) (v:=.n ((⟨0,1,(-2),(-1)⟩:A4 Int).get (((e_ - d) + 4).tmod 4))) rfl rfl c'3 (Zfk c'3)) (Zd (.n ((⟨0,1,(-2),(-1)⟩:A4 Int).get (((e_ - d) + 4).tmod 4))) rfl (Zc (Zb (Zao (z6 (zR (n:=4) (v:=.n ((⟨0,1,(-2),(-1)⟩:A4 Int).get (((e_ - d) + 4).tmod 4))) rfl zj) ?_)))))
  cases hp
  exact ⟨rfl,(hO'3.pick [] rfl (by decide))⟩

theorem zQ.ok {h:Hp} {cells:List Za} {f:List Zj} {v_cells:V} {v_f:V} (s_cells:Sl Zh h v_cells cells) (s_f:Sl Ze h v_f f) {r:(List Int)} (hp:zQ cells f = some r) :
  ∃ u k',Is G 204 [v_cells,v_f] h u k'∧∃ (v'1:V),v'1 = u∧Own (fun r=>r < h.n) h k' [eSl zt v'1 r]:=by
 refine WC.is (Za0 ZcQ ?_)
 unfold zQ at hp
 let B:Nat→Prop:=(fun r=>r < h.n)
 have hO:Own B h h []:=Own.start0 h
 refine Zm (Zs (Zd (.sn) rfl (Zc (Zb (Zm (Zs (Zd v_f rfl ?_)))))))
 refine Zi (Zam (hO.rd0 s_f.rd) rfl) ?_
 obtain ⟨c'1,hp⟩:=Zp hp
 refine zK (hO.mks (E:=zt) (y:=(0:Int)) (bytes:=8) (z:=(f.length:Int)) hO.fr rfl rfl rfl c'1 (by decide)) ?_
 rintro v'2 k'1 ⟨r'1,f'1,hW⟩
 have hO'1:=hW
 refine Zd v'2 rfl (Zc (Zb (Zm (Zm (Zs (Zd v_cells rfl ?_))))))
 obtain ⟨x,hx'1,hp⟩:=Zv hp
 obtain ⟨u'1,k'2,ca'1,rfl,hW'1⟩:=ZX.ok (h:=k'1)  (hO'1.rd0 s_cells.rd) hx'1
 refine Zat (id:=66) (caps:=[]) rfl (Z4 (v:=v_cells) rfl zh) ca'1 ?_
 have hO'2:=hO'1.call hW'1 rfl
 refine Zi (ZcL (a:=x) (b:=0) rfl rfl) (Zc (Zb ?_))
 rcases Zy hp with ⟨b'1,hp⟩ | ⟨b'1,hp⟩
 ·refine zA (t:=(!(decide (x = 0)))) rfl b'1 ?_
  refine Zm (Zs (Zd v'2 rfl (Zd v'2 rfl (Zc (Zb (Zao (zX ?_)))))))
  refine z6 (zR (n:=4) (v:=v'2) rfl zj) ?_
  cases hp
  exact ⟨v'2,rfl,(hO'2.pick [0] rfl (by decide))⟩
 ·refine z9 (t:=(!(decide (x = 0)))) rfl b'1 ?_
  refine zB (Zb (Zm (Zm (Zs (Zd v_f rfl (Zi (Zam (hO'2.rd0 s_f.rd) rfl) (Zd (.n 0) rfl ?_)))))))
  refine Zc (Zb (Zae ?_))
  obtain ⟨o'1,ho'1,hp⟩:=Zv hp
  refine W.mono (Q:=fun e fr k=>match (generalizing:=false) o'1 with
    | l1=>e = (.exit 0)∧fr 5 = v'2∧Own B h k [eSl zt v'2 l1]) ?_ ?_
  ·clear hp
   refine zE (fun st fr k=>match st with | (l,x1)=>fr 0 = v_cells∧fr 5 = v'2∧fr 15 = v_f∧fr 16 = .n (f.length:Int)∧fr 17 = .n x1∧Own B h k [eSl zt v'2 l]) ho'1 (s:=(List.replicate ((f.length:Int):Int).toNat (0:Int),0)) ⟨rfl,rfl,rfl,rfl,rfl,(hO'2.pick [0] rfl (by decide))⟩ ?_
   rintro ⟨l,x1⟩ q'2 k'4 ⟨q'2_0,q'2_5,q'2_15,q'2_16,q'2_17,hO'4⟩ o'2 hp
   dsimp only [zQ.s0] at hp
   refine Zm (Zs (Zi (z4 (a:=x1) (b:=(f.length:Int)) q'2_17 q'2_16) (Zc (Zb (Zm ?_)))))
   rcases Zy hp with ⟨b'2,hp⟩ | ⟨b'2,hp⟩
   ·refine zA (t:=(decide (x1 < (f.length:Int)))) rfl b'2 ?_
    refine zB (Zb (Zm (Zae (Zm (Zs (Zd (.n x1) q'2_17 ?_))))))
    obtain ⟨c'2,hp⟩:=Zp hp
    refine Zi (zn (E:=Ze) (z:=x1) (hO'4.rd0 s_f.rd) q'2_15 q'2_17 c'2) (Zi (ZfY (E:=Ze) (hO'4.rd0 s_f.rd) rfl (Zr c'2)) (zK (hO'4.alloc (cs:=Ze.c (⟨0,0⟩:Zj)) hO'4.fr) ?_))
    rintro _ k'5 ⟨r'2,rfl,n'1,f'2,hW⟩
    have hO'5:=hW
    refine Zd (.n x1) rfl (zK (hO'5.stb (ws:=Ze.c (gi f x1.toNat)) (cs':=Ze.c (gi f x1.toNat)) (v:=.ag (Ze.c (gi f x1.toNat))) 1 rfl rfl rfl rfl ⟨rfl,Nat.le_of_ble_eq_true rfl,rfl⟩ rfl) ?_)
    rintro _ k'6 ⟨rfl,f'3,m'1,hW⟩
    have hO'6:=hW
    refine Zc (Zb (Zm (Zs (Zi (ZaI (cs:=(Ze.c (gi f x1.toNat))) (ws:=Ze.c (gi f x1.toNat)) (hO'6.box 1 rfl) rfl rfl) (Zd v_cells q'2_0 ?_)))))
    obtain ⟨x2,hx'2,hp⟩:=Zv hp
    obtain ⟨u'2,k'7,ca'2,rfl,hW'2⟩:=zD.ok (h:=k'6)  (hO'6.rd0 s_cells.rd) hx'2
    refine Zat (id:=220) (caps:=[]) rfl (Z4 (v:=.ag (Ze.c (gi f x1.toNat))) rfl (Z4 (v:=v_cells) rfl zh)) ca'2 ?_
    have hO'7:=hO'6.call hW'2 rfl
    refine Zc (Zb ?_)
    rcases Zy hp with ⟨b'3,hp⟩ | ⟨b'3,hp⟩
    ·refine zA (t:=x2) rfl b'3 ?_
     refine ZiH ?_
     have hW:=hO'7.bump 11
     have fr'1:=Fresh.start k'7 11
     have nb'1:∀ {i:Nat},h.n≤k'7.n + i:=Nat.le_trans hO'7.n (Nat.le_add_right _ _)
     have hO'8:=hW
     refine ZbX v'2 q'2_5 (ZbX (.n x1) rfl (Zax (Zbb (r:=r'2) (o:=0) (o':=1) rfl rfl) (Zax (Za9 (cs:=(Ze.c (gi f x1.toNat))) (v:=.n ((gi f x1.toNat).Dir)) (hO'8.box 1 rfl) rfl rfl) (Zax (ZaI (cs:=(Ze.c (gi f x1.toNat))) (ws:=Ze.c (gi f x1.toNat)) (hO'8.box 1 rfl) rfl rfl) (ZbX v_cells q'2_0 ?_)))))
     obtain ⟨x3,hx'3,hp⟩:=Zv hp
     obtain ⟨u'3,k'9,ca'3,rfl,hW'3⟩:=ZZ.ok (h:=(k'7.bump 11))  (hO'8.rd0 s_cells.rd) hx'3
     refine ZjJ (id:=221) (caps:=[]) rfl (Z4 (v:=.ag (Ze.c (gi f x1.toNat))) rfl (Z4 (v:=v_cells) rfl zh)) ca'3 ?_
     have fr'2:=fr'1.call hW'3
     have hO'9:=hO'8.call hW'3 rfl
     refine Zax (ZkR (cs:=Ze.c x3) (v:=.n x3.Dir) rfl rfl) ?_
     obtain ⟨x4,hx'4,hp⟩:=Zv hp
     obtain ⟨u'4,k'10,ca'4,rfl,hW'4⟩:=Zaz.ok (h:=k'9)   hx'4
     refine ZjJ (id:=222) (caps:=[]) rfl (Z4 (v:=.n ((gi f x1.toNat).Dir)) rfl (Z4 (v:=.n x3.Dir) rfl zh)) ca'4 ?_
     have fr'3:=fr'2.call hW'4
     have hO'10:=hO'9.call hW'4 rfl
     obtain ⟨c'3,hp⟩:=Zp hp
     refine Zax (zn (E:=zt) (z:=x1) (hO'10.sl 0 rfl) rfl rfl c'3) (ZiF (hO'10.ste (E:=zt) (y:=x4) (ws:=[.n x4]) 0 rfl rfl (Zr c'3) rfl rfl ⟨rfl,Nat.le_of_ble_eq_true rfl,rfl⟩ rfl) ?_)
     rintro _ k'11 z'1 ⟨rfl,f'4,m'2,hW⟩
     have fr'4:=fr'3.kept f'4 (by decide)
     have hO'11:=hW
     refine Zdx ?_
     refine And.intro ?_ ?_
     ·intro q hq
      simp only [List.mem_cons,List.not_mem_nil,or_false] at hq
      rcases hq with rfl | rfl
      ·refine Zdt ?_ ?_
       ·exact (fun h=>nomatch h)
       ·exact (fun h=>nomatch h)
      ·refine ZkW rfl rfl ?_
       ·exact (fun r hm hc=>hc (hW'3.base r (Nat.lt_of_lt_of_le (hO'7.ltAt 1 rfl _ (tch (v:=V.p r'2 1) (Zgf hm) rfl)) (Nat.le_trans (Nat.le_add_right _ _) fr'1.n))))
     refine zV (Zb (Zs ?_))
     obtain ⟨c'4,hp⟩:=Zp hp
     refine Zi (z8 (a:=x1) (b:=1) q'2_17 rfl c'4) (Zd (.n (x1 + 1)) rfl (Zc ?_))
     cases hp
     exact (Or.inl ⟨(l.set x1.toNat x4,x1 + 1),rfl,rfl,q'2_0,q'2_5,q'2_15,q'2_16,rfl,(hO'11.pick [0] rfl (by decide))⟩)
    ·refine z9 (t:=x2) rfl b'3 ?_
     refine zB (zV (Zb (Zs ?_)))
     obtain ⟨c'5,hp⟩:=Zp hp
     refine Zi (z8 (a:=x1) (b:=1) q'2_17 rfl c'5) (Zd (.n (x1 + 1)) rfl (Zc ?_))
     cases hp
     exact (Or.inl ⟨(l,x1 + 1),rfl,rfl,q'2_0,q'2_5,q'2_15,q'2_16,rfl,(hO'7.pick [0] rfl (by decide))⟩)
   ·refine z9 (t:=(decide (x1 < (f.length:Int)))) rfl b'2 ?_
    refine ZaL (zO ?_)
    cases hp
    refine (Or.inr ⟨l,rfl,(fun h=>nomatch h),(fun he=>?_)⟩)
    subst he; exact ⟨rfl,q'2_5,(hO'4.pick [0] rfl (by decide))⟩
  intro e'1 q'1 k'3 hJ'1
  obtain ⟨l1,rfl⟩:∃ x,x = o'1:=⟨_,rfl⟩
  obtain ⟨rfl,q'1_5,hO'3⟩:=hJ'1
  refine Zav (Zb (Zm (Zs (Zd v'2 q'1_5 (Zd v'2 rfl (Zc (Zb ?_)))))))
  refine Zao (z6 (zR (n:=4) (v:=v'2) rfl zj) ?_)
  cases hp
  exact ⟨v'2,rfl,(hO'3.pick [0] rfl (by decide))⟩

end Mu
