/- The code comes to what was worked out. -/
import Derived.Test.YtdefkboekpjiiaaMuDf
import Derived.Test.YtdefkboekpjiiaaMuPa
import Derived.Test.YtdefkboekpjiiaaMuC1
set_option linter.unusedVariables false
set_option linter.unnecessarySimpa false
set_option linter.unusedSimpArgs false
set_option maxHeartbeats 2000000
set_option maxRecDepth 10000
namespace Mu
open Go (IntKind BinOp UnOp)
theorem ZF.ok {h : Hp} {l : List Zg} {v : Int} {v_l : V} (s_l : Sl Zb h v_l l) {r : (List Int)} (hp : ZF l v = some r) :
  ∃ u k', Is G 36 [v_l, .i .i64 v] h u k' ∧ ∃ (v₁ : V), v₁ = u ∧ Own (fun r => r < h.n) h k' [eSl eInt v₁ r] := by
 refine WC.is (WC_of G_F_muntinref13_Far ?_)
 unfold ZF at hp
 let B : Nat → Prop := (fun r => r < h.n)
 have hO : Own B h h [] := Own.start0 h
 refine W_sq (W_rg (Za (a_mv (v := .sn) rfl) (Zf (Zd (W_sq (W_rg (Za (a_mv (v := v_l) rfl) ?_)))))))
 refine Za (a_len (hO.rd0 s_l.rd : Sl Zb h v_l l) rfl) ?_
 obtain ⟨c₁, hp⟩ := Zk hp
 refine z8 (hO.mks (E := eInt) (y := (0 : Int)) (bytes := 8) (z := (l.length : Int)) hO.fr rfl rfl rfl c₁ (by decide)) ?_
 rintro v₂ k₁ ⟨r₁, f₁, hW⟩
 have hO₁ : Own B h k₁ [eSl eInt v₂ (List.replicate ((l.length : Int) : Int).toNat (0 : Int))] := hW
 refine Za (a_mv (v := v₂) rfl) (Zf (Zd (W_sq (W_sq (W_rg (Za (a_mv (v := .i .i64 0) rfl) (Zf ?_)))))))
 refine Zd (W_bl ?_)
 obtain ⟨o₁, ho₁, hp⟩ := Zv hp
 refine W.mono (Q := fun e fr k => match (generalizing := false) o₁ with
   | far1 => e = (.exit 0) ∧ fr 0 = v_l ∧ fr 1 = .i .i64 v ∧ fr 5 = v₂ ∧ Own B h k [eSl eInt v₂ far1]) ?_ ?_
 ·clear hp
  refine zu (fun st fr k => match st with | (far, i) => fr 0 = v_l ∧ fr 1 = .i .i64 v ∧ fr 5 = v₂ ∧ fr 6 = .i .i64 i ∧ Own B h k [eSl eInt v₂ far]) ho₁ (s := (List.replicate ((l.length : Int) : Int).toNat (0 : Int), 0)) (And.intro (rfl) (And.intro (rfl) (And.intro (rfl) (And.intro (rfl) (hO₁.pick [0] rfl (by decide)))))) ?_
  rintro ⟨far, i⟩ q₂ k₃ ⟨q₂_0, q₂_1, q₂_5, q₂_6, hO₃⟩ o₂ hp
  dsimp only [ZF.s0] at hp
  refine W_sq (W_sq (W_rg (Za (a_mv (v := .i .i64 i) q₂_6) (Za (a_mv (v := v_l) q₂_0) (Za (a_len (hO₃.rd0 s_l.rd : Sl Zb k₃ v_l l) rfl) (Za (a_lss (a := i) (b := (l.length : Int)) rfl rfl) (Zf ?_)))))))
  refine Zd ?_
  rcases Zu hp with ⟨b₁, hp⟩ | ⟨b₁, hp⟩
  ·refine W_cT (t := (decide (i < (l.length : Int)))) rfl b₁ ?_
   refine W_sk (Zd (W_sq (W_bl (W_rg (Za (a_mv (v := v₂) q₂_5) (Za (a_mv (v := .i .i64 i) q₂_6) ?_))))))
   obtain ⟨c₂, hp⟩ := Zk hp
   refine Za (a_ixa (E := eInt) (z := i) (hO₃.sl 0 rfl : Sl eInt k₃ v₂ far) rfl rfl c₂) (z8 (hO₃.ste (E := eInt) (y := (-1)) (ws := [.i .i64 (-1)]) 0 rfl rfl (Zm c₂) rfl rfl ⟨rfl, Nat.le_of_ble_eq_true rfl, rfl⟩ rfl) ?_)
   rintro _ k₄ ⟨rfl, f₂, m₁, hW⟩
   have hO₄ : Own B h k₄ [eSl eInt v₂ (far.set (i : Int).toNat (-1))] := hW
   refine Zf (z9 (Zd (W_rg (Za (a_mv (v := .i .i64 i) q₂_6) ?_))))
   obtain ⟨c₃, hp⟩ := Zk hp
   refine Za (a_add (a := i) (b := 1) rfl rfl c₃) (Za (a_mv (v := .i .i64 (i + 1)) rfl) (Zf ?_))
   have hp := Option.some.inj hp; subst hp
   exact (Or.inl (Exists.intro (far.set (i : Int).toNat (-1), i + 1) (And.intro rfl (And.intro rfl (And.intro (q₂_0) (And.intro (q₂_1) (And.intro (q₂_5) (And.intro (rfl) (hO₄.pick [0] rfl (by decide))))))))))
  ·refine W_cF (t := (decide (i < (l.length : Int)))) rfl b₁ ?_
   refine W_ex (zz ?_)
   have hp := Option.some.inj hp; subst hp
   refine (Or.inr (Exists.intro far (And.intro rfl (And.intro (fun h => nomatch h) (fun he => ?_)))))
   subst he; exact (And.intro rfl (And.intro (q₂_0) (And.intro (q₂_1) (And.intro (q₂_5) (hO₃.pick [0] rfl (by decide))))))
 intro e₁ q₁ k₂ hJ₁
 obtain ⟨far1, rfl⟩ : ∃ x, x = o₁ := ⟨_, rfl⟩
 obtain ⟨rfl, q₁_0, q₁_1, q₁_5, hO₂⟩ := hJ₁
 refine zI (Zd (W_sq (W_rg (Za (a_mv (v := v₂) q₁_5) (Za (a_mv (v := .i .i64 v) q₁_1) ?_)))))
 obtain ⟨c₄, hp⟩ := Zk hp
 refine Za (a_ixa (E := eInt) (z := v) (hO₂.sl 0 rfl : Sl eInt k₂ v₂ far1) rfl rfl c₄) (z8 (hO₂.ste (E := eInt) (y := 0) (ws := [.i .i64 0]) 0 rfl rfl (Zm c₄) rfl rfl ⟨rfl, Nat.le_of_ble_eq_true rfl, rfl⟩ rfl) ?_)
 rintro _ k₅ ⟨rfl, f₃, m₂, hW⟩
 have hO₅ : Own B h k₅ [eSl eInt v₂ (far1.set (v : Int).toNat 0)] := hW
 refine Zf (Zd (W_sq (W_sq (W_rg (Za (a_mv (v := .i .i64 0) rfl) (Zf (Zd ?_)))))))
 refine W_bl ?_
 obtain ⟨o₃, ho₂, hp⟩ := Zv hp
 refine W.mono (Q := fun e fr k => match (generalizing := false) o₃ with
   | far3 => e = (.exit 2) ∧ fr 5 = v₂ ∧ Own B h k [eSl eInt v₂ far3]) ?_ ?_
 ·clear hp
  refine zu (fun st fr k => match st with | (far2, round) => fr 0 = v_l ∧ fr 5 = v₂ ∧ fr 7 = .i .i64 round ∧ Own B h k [eSl eInt v₂ far2]) ho₂ (s := (far1.set (v : Int).toNat 0, 0)) (And.intro (q₁_0) (And.intro (q₁_5) (And.intro (rfl) (hO₅.pick [0] rfl (by decide))))) ?_
  rintro ⟨far2, round⟩ q₄ k₇ ⟨q₄_0, q₄_5, q₄_7, hO₇⟩ o₄ hp
  dsimp only [ZF.s1] at hp
  refine W_sq (W_sq (W_rg (Za (a_mv (v := .i .i64 round) q₄_7) (Za (a_mv (v := v_l) q₄_0) (Za (a_len (hO₇.rd0 s_l.rd : Sl Zb k₇ v_l l) rfl) (Za (a_lss (a := round) (b := (l.length : Int)) rfl rfl) (Zf ?_)))))))
  refine Zd ?_
  rcases Zu hp with ⟨b₂, hp⟩ | ⟨b₂, hp⟩
  ·refine W_cT (t := (decide (round < (l.length : Int)))) rfl b₂ ?_
   refine W_sk (Zd (W_sq (W_bl (W_sq (W_rg (Za (a_mv (v := .i .i64 0) rfl) (Zf ?_)))))))
   refine Zd (W_bl ?_)
   obtain ⟨o₅, ho₃, hp⟩ := Zv hp
   refine W.mono (Q := fun e fr k => match (generalizing := false) o₅ with
     | far5 => e = (.exit 4) ∧ fr 0 = v_l ∧ fr 5 = v₂ ∧ fr 7 = .i .i64 round ∧ Own B h k [eSl eInt v₂ far5]) ?_ ?_
   ·clear hp
    refine zu (fun st fr k => match st with | (far4, i1) => fr 0 = v_l ∧ fr 5 = v₂ ∧ fr 7 = .i .i64 round ∧ fr 8 = .i .i64 i1 ∧ Own B h k [eSl eInt v₂ far4]) ho₃ (s := (far2, 0)) (And.intro (q₄_0) (And.intro (q₄_5) (And.intro (q₄_7) (And.intro (rfl) (hO₇.pick [0] rfl (by decide)))))) ?_
    rintro ⟨far4, i1⟩ q₆ k₉ ⟨q₆_0, q₆_5, q₆_7, q₆_8, hO₉⟩ o₆ hp
    dsimp only [ZF.s2] at hp
    refine W_sq (W_sq (W_rg (Za (a_mv (v := .i .i64 i1) q₆_8) (Za (a_mv (v := v_l) q₆_0) (Za (a_len (hO₉.rd0 s_l.rd : Sl Zb k₉ v_l l) rfl) (Za (a_lss (a := i1) (b := (l.length : Int)) rfl rfl) (Zf ?_)))))))
    refine Zd ?_
    rcases Zu hp with ⟨b₃, hp⟩ | ⟨b₃, hp⟩
    ·refine W_cT (t := (decide (i1 < (l.length : Int)))) rfl b₃ ?_
     refine W_sk (Zd (W_sq (W_bl (W_sq (W_rg (Za (a_mv (v := .i .i64 0) rfl) (Zf ?_)))))))
     refine Zd (W_bl ?_)
     obtain ⟨o₇, ho₄, hp⟩ := Zv hp
     refine W.mono (Q := fun e fr k => match (generalizing := false) o₇ with
       | far7 => e = (.exit 6) ∧ fr 0 = v_l ∧ fr 5 = v₂ ∧ fr 7 = .i .i64 round ∧ fr 8 = .i .i64 i1 ∧ Own B h k [eSl eInt v₂ far7]) ?_ ?_
     ·clear hp
      refine zu (fun st fr k => match st with | (far6, d) => fr 0 = v_l ∧ fr 5 = v₂ ∧ fr 7 = .i .i64 round ∧ fr 8 = .i .i64 i1 ∧ fr 9 = .i .i64 d ∧ Own B h k [eSl eInt v₂ far6]) ho₄ (s := (far4, 0)) (And.intro (q₆_0) (And.intro (q₆_5) (And.intro (q₆_7) (And.intro (q₆_8) (And.intro (rfl) (hO₉.pick [0] rfl (by decide))))))) ?_
      rintro ⟨far6, d⟩ q₈ k₁₁ ⟨q₈_0, q₈_5, q₈_7, q₈_8, q₈_9, hO₁₁⟩ o₈ hp
      dsimp only [ZF.s3] at hp
      refine W_sq (W_sq (W_rg (Za (a_mv (v := .i .i64 d) q₈_9) (Za (a_lss (a := d) (b := 4) rfl rfl) (Zf (Zd ?_))))))
      rcases Zu hp with ⟨b₄, hp⟩ | ⟨b₄, hp⟩
      ·refine W_cT (t := (decide (d < 4))) rfl b₄ ?_
       refine W_sk (Zd (W_sq (W_bl (W_sq (W_rg (Za (a_mv (v := v_l) q₈_0) (Za (a_mv (v := .i .i64 i1) q₈_8) ?_)))))))
       refine Za (a_mv (v := .i .i64 d) q₈_9) ?_
       obtain ⟨c₅, hp⟩ := Zk hp
       refine Za (a_ixa (E := Zb) (z := i1) (hO₁₁.rd0 s_l.rd : Sl Zb k₁₁ v_l l) rfl rfl c₅) (Za (zU (off' := 0) (off2 := 0) (hO₁₁.rd0 s_l.rd : Sl Zb k₁₁ v_l l) (Zm c₅) rfl rfl) ?_)
       obtain ⟨c₆, hp⟩ := Zk hp
       refine Za (Zak (off := 0) (off2 := (0 + (d : Int).toNat * 1)) (z := d) (hO₁₁.rd0 s_l.rd : Sl Zb k₁₁ v_l l) (Zm c₅) rfl rfl c₆ rfl) (Za (z2 (w := .i .i64 (((gi l (i1 : Int).toNat).Next).get d)) (hO₁₁.rd0 s_l.rd : Sl Zb k₁₁ v_l l) rfl (Zm c₅) (z4 c₆)) (Za (a_mv (v := .i .i64 (((gi l (i1 : Int).toNat).Next).get d)) rfl) (Zf (Zd (W_sq (W_rg (Za (a_mv (v := v₂) q₈_5) ?_)))))))
       refine Za (a_mv (v := .i .i64 i1) q₈_8) ?_
       obtain ⟨c₇, hp⟩ := Zk hp
       refine Za (a_ixa (E := eInt) (z := i1) (hO₁₁.sl 0 rfl : Sl eInt k₁₁ v₂ far6) rfl rfl c₇) (Za (z2 (w := .i .i64 (gi far6 (i1 : Int).toNat)) (hO₁₁.sl 0 rfl : Sl eInt k₁₁ v₂ far6) rfl (Zm c₇) rfl) (Za (a_mv (v := .i .i64 round) q₈_7) (Za (a_eqI (a := (gi far6 (i1 : Int).toNat)) (b := round) rfl rfl) (Za (a_mv (v := .b (decide (gi far6 (i1 : Int).toNat = round))) rfl) ?_))))
       refine zB 3 (fun fr' k' => k₁₁ = k' ∧ fr' 58 = .b ((decide (gi far6 (i1 : Int).toNat = round)) && (decide (0 ≤ (((gi l (i1 : Int).toNat).Next).get d)))) ∧ fr' 0 = v_l ∧ fr' 10 = .i .i64 (((gi l (i1 : Int).toNat).Next).get d) ∧ fr' 5 = v₂ ∧ fr' 7 = .i .i64 round ∧ fr' 8 = .i .i64 i1 ∧ fr' 9 = .i .i64 d) ?_ ?_
       ·rcases bc (decide (gi far6 (i1 : Int).toNat = round)) with b₅ | b₅
        ·skip
         refine WO_on rfl b₅ (Za (a_mv (v := .i .i64 (((gi l (i1 : Int).toNat).Next).get d)) rfl) (WO_on rfl b₅ (Za (a_geq (a := (((gi l (i1 : Int).toNat).Next).get d)) (b := 0) rfl rfl) (Za (ZW (t := (decide (gi far6 (i1 : Int).toNat = round))) (v := .b ((decide (gi far6 (i1 : Int).toNat = round)) && (decide (0 ≤ (((gi l (i1 : Int).toNat).Next).get d))))) rfl b₅ (Eq.trans (b := V.b (decide (0 ≤ (((gi l (i1 : Int).toNat).Next).get d)))) rfl (Zax b₅))) (Zf ?_)))))
         exact ⟨rfl, rfl, q₈_0, rfl, q₈_5, q₈_7, q₈_8, q₈_9⟩
        ·skip
         refine WO_off rfl b₅ (WO_off rfl b₅ (Za (ZT (t := (decide (gi far6 (i1 : Int).toNat = round))) (v := .b ((decide (gi far6 (i1 : Int).toNat = round)) && (decide (0 ≤ (((gi l (i1 : Int).toNat).Next).get d))))) rfl b₅ (Eq.trans (b := V.b false) rfl (Zal b₅))) (Zf ?_)))
         exact ⟨rfl, rfl, q₈_0, rfl, q₈_5, q₈_7, q₈_8, q₈_9⟩
       rintro frg₁ _ ⟨rfl, g₁_58, g₁_0, g₁_10, g₁_5, g₁_7, g₁_8, g₁_9⟩
       refine Za (a_mv (v := .b ((decide (gi far6 (i1 : Int).toNat = round)) && (decide (0 ≤ (((gi l (i1 : Int).toNat).Next).get d))))) g₁_58) ?_
       obtain ⟨t, hv₁, hp⟩ := Zv hp
       refine zB 7 (fun fr' k' => k₁₁ = k' ∧ fr' 66 = .b t ∧ fr' 0 = v_l ∧ fr' 10 = .i .i64 (((gi l (i1 : Int).toNat).Next).get d) ∧ fr' 5 = v₂ ∧ fr' 7 = .i .i64 round ∧ fr' 8 = .i .i64 i1 ∧ fr' 9 = .i .i64 d) ?_ ?_
       ·clear hp; rcases Zu hv₁ with ⟨b₆, hp⟩ | ⟨b₆, hp⟩
        ·skip
         refine WO_on rfl b₆ (Za (a_mv (v := v₂) g₁_5) (WO_on rfl b₆ (Za (a_mv (v := .i .i64 (((gi l (i1 : Int).toNat).Next).get d)) g₁_10) (WO_on rfl b₆ (Za (a_mx (a := (((gi l (i1 : Int).toNat).Next).get d)) (b := 0) rfl rfl) (WO_on rfl b₆ ?_))))))
         obtain ⟨c₈, hp⟩ := Zk hp
         refine Za (a_ixa (E := eInt) (z := (max (((gi l (i1 : Int).toNat).Next).get d) 0)) (hO₁₁.sl 0 rfl : Sl eInt k₁₁ v₂ far6) rfl rfl c₈) (WO_on rfl b₆ (Za (z2 (w := .i .i64 (gi far6 (max (((gi l (i1 : Int).toNat).Next).get d) 0 : Int).toNat)) (hO₁₁.sl 0 rfl : Sl eInt k₁₁ v₂ far6) rfl (Zm c₈) rfl) (WO_on rfl b₆ (Za (a_lss (a := (gi far6 (max (((gi l (i1 : Int).toNat).Next).get d) 0 : Int).toNat)) (b := 0) rfl rfl) (Za (ZW (t := ((decide (gi far6 (i1 : Int).toNat = round)) && (decide (0 ≤ (((gi l (i1 : Int).toNat).Next).get d))))) (v := .b t) rfl b₆ (Eq.trans (b := V.b (decide ((gi far6 (max (((gi l (i1 : Int).toNat).Next).get d) 0 : Int).toNat) < 0))) rfl (congrArg V.b (Option.some.inj hp)))) (Zf ?_))))))
         exact ⟨rfl, rfl, g₁_0, g₁_10, g₁_5, g₁_7, g₁_8, g₁_9⟩
        ·skip
         refine WO_off rfl b₆ (WO_off rfl b₆ (WO_off rfl b₆ (WO_off rfl b₆ (WO_off rfl b₆ (WO_off rfl b₆ (Za (ZT (t := ((decide (gi far6 (i1 : Int).toNat = round)) && (decide (0 ≤ (((gi l (i1 : Int).toNat).Next).get d))))) (v := .b t) rfl b₆ (Eq.trans (b := V.b false) rfl (congrArg V.b (Option.some.inj hp)))) (Zf ?_)))))))
         exact ⟨rfl, rfl, g₁_0, g₁_10, g₁_5, g₁_7, g₁_8, g₁_9⟩
       rintro frg₂ _ ⟨rfl, g₂_66, g₂_0, g₂_10, g₂_5, g₂_7, g₂_8, g₂_9⟩
       refine Zf (Zd ?_)
       rcases Zu hp with ⟨b₇, hp⟩ | ⟨b₇, hp⟩
       ·refine W_cT (t := t) g₂_66 b₇ ?_
        refine W_rg (Za (a_mv (v := v₂) g₂_5) (Za (a_mv (v := .i .i64 (((gi l (i1 : Int).toNat).Next).get d)) g₂_10) (Za (a_mv (v := .i .i64 round) g₂_7) ?_)))
        obtain ⟨c₉, hp⟩ := Zk hp
        refine Za (a_add (a := round) (b := 1) rfl rfl c₉) ?_
        obtain ⟨c₁₀, hp⟩ := Zk hp
        refine Za (a_ixa (E := eInt) (z := (((gi l (i1 : Int).toNat).Next).get d)) (hO₁₁.sl 0 rfl : Sl eInt k₁₁ v₂ far6) rfl rfl c₁₀) (z8 (hO₁₁.ste (E := eInt) (y := (round + 1)) (ws := [.i .i64 (round + 1)]) 0 rfl rfl (Zm c₁₀) rfl rfl ⟨rfl, Nat.le_of_ble_eq_true rfl, rfl⟩ rfl) ?_)
        rintro _ k₁₂ ⟨rfl, f₄, m₃, hW⟩
        have hO₁₂ : Own B h k₁₂ [eSl eInt v₂ (far6.set (((gi l (i1 : Int).toNat).Next).get d : Int).toNat (round + 1))] := hW
        refine Zf (z9 (Zd (W_rg (Za (a_mv (v := .i .i64 d) g₂_9) ?_))))
        obtain ⟨c₁₁, hp⟩ := Zk hp
        refine Za (a_add (a := d) (b := 1) rfl rfl c₁₁) (Za (a_mv (v := .i .i64 (d + 1)) rfl) (Zf ?_))
        have hp := Option.some.inj hp; subst hp
        exact (Or.inl (Exists.intro (far6.set (((gi l (i1 : Int).toNat).Next).get d : Int).toNat (round + 1), d + 1) (And.intro rfl (And.intro rfl (And.intro (g₂_0) (And.intro (g₂_5) (And.intro (g₂_7) (And.intro (g₂_8) (And.intro (rfl) (hO₁₂.pick [0] rfl (by decide)))))))))))
       ·refine W_cF (t := t) g₂_66 b₇ ?_
        refine W_sk (z9 (Zd (W_rg (Za (a_mv (v := .i .i64 d) g₂_9) ?_))))
        obtain ⟨c₁₂, hp⟩ := Zk hp
        refine Za (a_add (a := d) (b := 1) rfl rfl c₁₂) (Za (a_mv (v := .i .i64 (d + 1)) rfl) (Zf ?_))
        have hp := Option.some.inj hp; subst hp
        exact (Or.inl (Exists.intro (far6, d + 1) (And.intro rfl (And.intro rfl (And.intro (g₂_0) (And.intro (g₂_5) (And.intro (g₂_7) (And.intro (g₂_8) (And.intro (rfl) (hO₁₁.pick [0] rfl (by decide)))))))))))
      ·refine W_cF (t := (decide (d < 4))) rfl b₄ ?_
       refine W_ex (zz ?_)
       have hp := Option.some.inj hp; subst hp
       refine (Or.inr (Exists.intro far6 (And.intro rfl (And.intro (fun h => nomatch h) (fun he => ?_)))))
       subst he; exact (And.intro rfl (And.intro (q₈_0) (And.intro (q₈_5) (And.intro (q₈_7) (And.intro (q₈_8) (hO₁₁.pick [0] rfl (by decide)))))))
     intro e₄ q₇ k₁₀ hJ₄
     obtain ⟨far7, rfl⟩ : ∃ x, x = o₇ := ⟨_, rfl⟩
     obtain ⟨rfl, q₇_0, q₇_5, q₇_7, q₇_8, hO₁₀⟩ := hJ₄
     refine zI (z9 (Zd (W_rg (Za (a_mv (v := .i .i64 i1) q₇_8) ?_))))
     obtain ⟨c₁₃, hp⟩ := Zk hp
     refine Za (a_add (a := i1) (b := 1) rfl rfl c₁₃) (Za (a_mv (v := .i .i64 (i1 + 1)) rfl) (Zf ?_))
     have hp := Option.some.inj hp; subst hp
     exact (Or.inl (Exists.intro (far7, i1 + 1) (And.intro rfl (And.intro rfl (And.intro (q₇_0) (And.intro (q₇_5) (And.intro (q₇_7) (And.intro (rfl) (hO₁₀.pick [0] rfl (by decide))))))))))
    ·refine W_cF (t := (decide (i1 < (l.length : Int)))) rfl b₃ ?_
     refine W_ex (zz ?_)
     have hp := Option.some.inj hp; subst hp
     refine (Or.inr (Exists.intro far4 (And.intro rfl (And.intro (fun h => nomatch h) (fun he => ?_)))))
     subst he; exact (And.intro rfl (And.intro (q₆_0) (And.intro (q₆_5) (And.intro (q₆_7) (hO₉.pick [0] rfl (by decide))))))
   intro e₃ q₅ k₈ hJ₃
   obtain ⟨far5, rfl⟩ : ∃ x, x = o₅ := ⟨_, rfl⟩
   obtain ⟨rfl, q₅_0, q₅_5, q₅_7, hO₈⟩ := hJ₃
   refine zI (z9 (Zd (W_rg (Za (a_mv (v := .i .i64 round) q₅_7) ?_))))
   obtain ⟨c₁₄, hp⟩ := Zk hp
   refine Za (a_add (a := round) (b := 1) rfl rfl c₁₄) (Za (a_mv (v := .i .i64 (round + 1)) rfl) (Zf ?_))
   have hp := Option.some.inj hp; subst hp
   exact (Or.inl (Exists.intro (far5, round + 1) (And.intro rfl (And.intro rfl (And.intro (q₅_0) (And.intro (q₅_5) (And.intro (rfl) (hO₈.pick [0] rfl (by decide)))))))))
  ·refine W_cF (t := (decide (round < (l.length : Int)))) rfl b₂ ?_
   refine W_ex (zz ?_)
   have hp := Option.some.inj hp; subst hp
   refine (Or.inr (Exists.intro far2 (And.intro rfl (And.intro (fun h => nomatch h) (fun he => ?_)))))
   subst he; exact (And.intro rfl (And.intro (q₄_5) (hO₇.pick [0] rfl (by decide))))
 intro e₂ q₃ k₆ hJ₂
 obtain ⟨far3, rfl⟩ : ∃ x, x = o₃ := ⟨_, rfl⟩
 obtain ⟨rfl, q₃_5, hO₆⟩ := hJ₂
 refine zI (Zd (W_sq (W_rg (Za (a_mv (v := v₂) q₃_5) (Za (a_mv (v := v₂) rfl) (Zf (Zd ?_)))))))
 refine W_rt (Ret_r (rs_t (n := 4) (v := v₂) rfl rs_nil) ?_)
 have hp := Option.some.inj hp; subst hp
 exact (Exists.intro v₂ (And.intro rfl (hO₆.pick [0] rfl (by decide))))

theorem ZU.ok {h : Hp} {l : List Zg} {v_l : V} (s_l : Sl Zb h v_l l) {r : (List (List Int))} (hp : ZU l = some r) :
  ∃ u k', Is G 30 [v_l] h u k' ∧ ∃ (v₁ : V), ∃ (vs₁ : List V), v₁ = u ∧ Own (fun r => r < h.n) h k' [eSl eV v₁ vs₁, eAll eInt vs₁ r] := by
 refine WC.is (WC_of G_F_muntinref13_Parts ?_)
 unfold ZU at hp
 let B : Nat → Prop := (fun r => r < h.n)
 have hO : Own B h h [] := Own.start0 h
 refine W_sq (W_rg (Za (a_mv (v := .sn) rfl) (Zf (Zd (W_sq (W_rg (Za (a_mv (v := v_l) rfl) ?_)))))))
 refine Za (a_len (hO.rd0 s_l.rd : Sl Zb h v_l l) rfl) ?_
 obtain ⟨c₁, hp⟩ := Zk hp
 refine z8 (hO.mks (E := e_bool) (y := false) (bytes := 1) (z := (l.length : Int)) hO.fr rfl rfl rfl c₁ (by decide)) ?_
 rintro v₂ k₁ ⟨r₁, f₁, hW⟩
 have hO₁ : Own B h k₁ [eSl e_bool v₂ (List.replicate ((l.length : Int) : Int).toNat false)] := hW
 refine Za (a_mv (v := v₂) rfl) (Zf (Zd (W_sq (W_rg (Za (a_mv (v := .sn) rfl) (Zf (Zd ?_)))))))
 refine W_sq (W_sq (W_rg (Za (a_mv (v := .i .i64 0) rfl) (Zf (Zd (W_bl ?_))))))
 obtain ⟨o₁, ho₁, hp⟩ := Zv hp
 refine W.mono (Q := fun e fr k => match (generalizing := false) o₁ with
   | out1 => e = (.exit 0) ∧ ∃ (v₄ : V), ∃ (vs₃ : List V), fr 4 = v₄ ∧ Own B h k [eSl eV v₄ vs₃, eAll eInt vs₃ out1]) ?_ ?_
 ·clear hp
  have hO₃ : Own B h k₁ [eSl e_bool v₂ (List.replicate ((l.length : Int) : Int).toNat false), eSl eV .sn []] := hO₁.nil eV
  have hO₄ : Own B h k₁ [eSl e_bool v₂ (List.replicate ((l.length : Int) : Int).toNat false), eSl eV .sn [], eAll eInt [] []] := hO₃.allNil eInt 0
  refine zu (fun st fr k => match st with | (in_, out, v) => ∃ (v₃ : V), ∃ (vs₂ : List V), fr 0 = v_l ∧ fr 3 = v₂ ∧ fr 4 = v₃ ∧ fr 5 = .i .i64 v ∧ Own B h k [eSl e_bool v₂ in_, eSl eV v₃ vs₂, eAll eInt vs₂ out]) ho₁ (s := (List.replicate ((l.length : Int) : Int).toNat false, ([] : List (List Int)), 0)) (Exists.intro V.sn (Exists.intro [] (And.intro (rfl) (And.intro (rfl) (And.intro (rfl) (And.intro (rfl) (hO₄.pick [0, 1, 2] rfl (by decide)))))))) ?_
  rintro ⟨in_, out, v⟩ q₂ k₃ ⟨v₃, vs₂, q₂_0, q₂_3, q₂_4, q₂_5, hO₅⟩ o₂ hp
  dsimp only [ZU.s0] at hp
  refine W_sq (W_sq (W_rg (Za (a_mv (v := .i .i64 v) q₂_5) (Za (a_mv (v := v_l) q₂_0) (Za (a_len (hO₅.rd0 s_l.rd : Sl Zb k₃ v_l l) rfl) (Za (a_lss (a := v) (b := (l.length : Int)) rfl rfl) (Zf ?_)))))))
  refine Zd ?_
  rcases Zu hp with ⟨b₁, hp⟩ | ⟨b₁, hp⟩
  ·refine W_cT (t := (decide (v < (l.length : Int)))) rfl b₁ ?_
   refine W_sk (Zd (W_sq (W_bl (W_sq (W_sq (W_rg (Za (a_mv (v := v₂) q₂_3) ?_)))))))
   refine Za (a_mv (v := .i .i64 v) q₂_5) ?_
   obtain ⟨c₂, hp⟩ := Zk hp
   refine Za (a_ixa (E := e_bool) (z := v) (hO₅.sl 0 rfl : Sl e_bool k₃ v₂ in_) rfl rfl c₂) (Za (z2 (w := .b (gi in_ (v : Int).toNat)) (hO₅.sl 0 rfl : Sl e_bool k₃ v₂ in_) rfl (Zm c₂) rfl) (Zf (Zd ?_)))
   rcases Zu hp with ⟨b₂, hp⟩ | ⟨b₂, hp⟩
   ·refine W_cT (t := (gi in_ (v : Int).toNat)) rfl b₂ ?_
    refine W_ex (zz (zI (Zd (W_rg (Za (a_mv (v := .i .i64 v) q₂_5) ?_)))))
    obtain ⟨c₃, hp⟩ := Zk hp
    refine Za (a_add (a := v) (b := 1) rfl rfl c₃) (Za (a_mv (v := .i .i64 (v + 1)) rfl) (Zf ?_))
    have hp := Option.some.inj hp; subst hp
    exact (Or.inl (Exists.intro (in_, out, v + 1) (And.intro rfl (And.intro rfl (Exists.intro v₃ (Exists.intro vs₂ (And.intro (q₂_0) (And.intro (q₂_3) (And.intro (q₂_4) (And.intro (rfl) (hO₅.pick [0, 1, 2] rfl (by decide))))))))))))
   ·refine W_cF (t := (gi in_ (v : Int).toNat)) rfl b₂ ?_
    refine W_sk (Zd (W_sq (W_rg (Za (a_mv (v := v_l) q₂_0) (Za (a_mv (v := .i .i64 v) q₂_5) ?_)))))
    obtain ⟨x, hx₁, hp⟩ := Zv hp
    obtain ⟨u₁, k₄, ca₁, v₅, rfl, hW₁⟩ := ZF.ok (h := k₃)  (hO₅.rd0 s_l.rd : Sl Zb k₃ v_l l) hx₁
    refine zS (id := 36) (caps := []) rfl (Z2 (v := v_l) rfl (Z2 (v := .i .i64 v) rfl zi)) ca₁ ?_
    have hO₆ : Own B h k₄ [eSl e_bool v₂ in_, eSl eV v₃ vs₂, eAll eInt vs₂ out, eSl eInt v₅ x] := hO₅.call hW₁ rfl
    refine Za (a_mv (v := v₅) rfl) (Zf (Zd (W_sq (W_rg (Za (a_mv (v := .sn) rfl) (Zf (Zd ?_)))))))
    refine W_sq (W_sq (W_rg (Za (a_mv (v := .i .i64 0) rfl) (Zf (Zd (W_bl ?_))))))
    obtain ⟨o₃, ho₂, hp⟩ := Zv hp
    refine W.mono (Q := fun e fr k => match (generalizing := false) o₃ with
      | (in_2, p1) => e = (.exit 2) ∧ ∃ (v₇ : V), fr 0 = v_l ∧ fr 3 = v₂ ∧ fr 4 = v₃ ∧ fr 5 = .i .i64 v ∧ fr 7 = v₇ ∧ Own B h k [eSl e_bool v₂ in_2, eSl eV v₃ vs₂, eAll eInt vs₂ out, eSl eInt v₇ p1]) ?_ ?_
    ·clear hp
     have hO₈ : Own B h k₄ [eSl e_bool v₂ in_, eSl eV v₃ vs₂, eAll eInt vs₂ out, eSl eInt v₅ x, eSl eInt .sn ([] : List Int)] := hO₆.nil eInt
     refine zu (fun st fr k => match st with | (in_1, p, w) => ∃ (v₆ : V), fr 0 = v_l ∧ fr 3 = v₂ ∧ fr 4 = v₃ ∧ fr 5 = .i .i64 v ∧ fr 6 = v₅ ∧ fr 7 = v₆ ∧ fr 8 = .i .i64 w ∧ Own B h k [eSl e_bool v₂ in_1, eSl eV v₃ vs₂, eAll eInt vs₂ out, eSl eInt v₅ x, eSl eInt v₆ p]) ho₂ (s := (in_, ([] : List Int), 0)) (Exists.intro V.sn (And.intro (q₂_0) (And.intro (q₂_3) (And.intro (q₂_4) (And.intro (q₂_5) (And.intro (rfl) (And.intro (rfl) (And.intro (rfl) (hO₈.pick [0, 1, 2, 3, 4] rfl (by decide)))))))))) ?_
     rintro ⟨in_1, p, w⟩ q₄ k₆ ⟨v₆, q₄_0, q₄_3, q₄_4, q₄_5, q₄_6, q₄_7, q₄_8, hO₉⟩ o₄ hp
     dsimp only [ZU.s1] at hp
     refine W_sq (W_sq (W_rg (Za (a_mv (v := .i .i64 w) q₄_8) (Za (a_mv (v := v_l) q₄_0) (Za (a_len (hO₉.rd0 s_l.rd : Sl Zb k₆ v_l l) rfl) (Za (a_lss (a := w) (b := (l.length : Int)) rfl rfl) (Zf ?_)))))))
     refine Zd ?_
     rcases Zu hp with ⟨b₃, hp⟩ | ⟨b₃, hp⟩
     ·refine W_cT (t := (decide (w < (l.length : Int)))) rfl b₃ ?_
      refine W_sk (Zd (W_sq (W_bl (W_sq (W_rg (Za (a_mv (v := v₅) q₄_6) (Za (a_mv (v := .i .i64 w) q₄_8) ?_)))))))
      obtain ⟨c₄, hp⟩ := Zk hp
      refine Za (a_ixa (E := eInt) (z := w) (hO₉.sl 3 rfl : Sl eInt k₆ v₅ x) rfl rfl c₄) (Za (z2 (w := .i .i64 (gi x (w : Int).toNat)) (hO₉.sl 3 rfl : Sl eInt k₆ v₅ x) rfl (Zm c₄) rfl) (Za (a_geq (a := (gi x (w : Int).toNat)) (b := 0) rfl rfl) (Zf (Zd ?_))))
      rcases Zu hp with ⟨b₄, hp⟩ | ⟨b₄, hp⟩
      ·refine W_cT (t := (decide (0 ≤ (gi x (w : Int).toNat)))) rfl b₄ ?_
       refine W_sq (W_rg (Za (a_mv (v := v₂) q₄_3) (Za (a_mv (v := .i .i64 w) q₄_8) ?_)))
       obtain ⟨c₅, hp⟩ := Zk hp
       refine Za (a_ixa (E := e_bool) (z := w) (hO₉.sl 0 rfl : Sl e_bool k₆ v₂ in_1) rfl rfl c₅) (z8 (hO₉.ste (E := e_bool) (y := true) (ws := [.b true]) 0 rfl rfl (Zm c₅) rfl rfl ⟨rfl, Nat.le_of_ble_eq_true rfl, rfl⟩ rfl) ?_)
       rintro _ k₇ ⟨rfl, f₂, m₁, hW⟩
       have hO₁₀ : Own B h k₇ [eSl e_bool v₂ (in_1.set (w : Int).toNat true), eSl eV v₃ vs₂, eAll eInt vs₂ out, eSl eInt v₅ x, eSl eInt v₆ p] := hW
       refine Zf (Zd (W_rg (Za (a_mv (v := v₆) q₄_7) (Za (a_mv (v := .i .i64 w) q₄_8) (z8 (hO₁₀.bsl (E := eInt) (l := [w]) hO₁₀.fr (by rw [(zq (v := .i .i64 w) rfl ev_nil)]; rfl) rfl) ?_)))))
       rintro v₈ k₈ ⟨r₂, f₃, hW⟩
       have hO₁₁ : Own B h k₈ [eSl e_bool v₂ (in_1.set (w : Int).toNat true), eSl eV v₃ vs₂, eAll eInt vs₂ out, eSl eInt v₅ x, eSl eInt v₆ p, eSl eInt v₈ [w]] := hW
       obtain ⟨c₆, hp⟩ := Zk hp
       refine z8 (hO₁₁.app (E := eInt) (bytes := 8) 4 hO₁₁.fr rfl (hO₁₁.sl 5 rfl : Sl eInt k₈ v₈ [w]) rfl rfl (fun _ => rfl) c₆ (by decide)) ?_
       rintro v₉ k₉ ⟨f₄, hW⟩
       have hO₁₂ : Own B h k₉ [eSl e_bool v₂ (in_1.set (w : Int).toNat true), eSl eV v₃ vs₂, eAll eInt vs₂ out, eSl eInt v₅ x, eSl eInt v₉ (p ++ [w]), eSl eInt v₈ [w]] := hW
       refine Za (a_mv (v := v₉) rfl) (Zf (z9 (Zd (W_rg (Za (a_mv (v := .i .i64 w) q₄_8) ?_)))))
       obtain ⟨c₇, hp⟩ := Zk hp
       refine Za (a_add (a := w) (b := 1) rfl rfl c₇) (Za (a_mv (v := .i .i64 (w + 1)) rfl) (Zf ?_))
       have hp := Option.some.inj hp; subst hp
       exact (Or.inl (Exists.intro (in_1.set (w : Int).toNat true, p ++ [w], w + 1) (And.intro rfl (And.intro rfl (Exists.intro v₉ (And.intro (q₄_0) (And.intro (q₄_3) (And.intro (q₄_4) (And.intro (q₄_5) (And.intro (q₄_6) (And.intro (rfl) (And.intro (rfl) (hO₁₂.pick [0, 1, 2, 3, 4] rfl (by decide))))))))))))))
      ·refine W_cF (t := (decide (0 ≤ (gi x (w : Int).toNat)))) rfl b₄ ?_
       refine W_sk (z9 (Zd (W_rg (Za (a_mv (v := .i .i64 w) q₄_8) ?_))))
       obtain ⟨c₈, hp⟩ := Zk hp
       refine Za (a_add (a := w) (b := 1) rfl rfl c₈) (Za (a_mv (v := .i .i64 (w + 1)) rfl) (Zf ?_))
       have hp := Option.some.inj hp; subst hp
       exact (Or.inl (Exists.intro (in_1, p, w + 1) (And.intro rfl (And.intro rfl (Exists.intro v₆ (And.intro (q₄_0) (And.intro (q₄_3) (And.intro (q₄_4) (And.intro (q₄_5) (And.intro (q₄_6) (And.intro (q₄_7) (And.intro (rfl) (hO₉.pick [0, 1, 2, 3, 4] rfl (by decide))))))))))))))
     ·refine W_cF (t := (decide (w < (l.length : Int)))) rfl b₃ ?_
      refine W_ex (zz ?_)
      have hp := Option.some.inj hp; subst hp
      refine (Or.inr (Exists.intro (in_1, p) (And.intro rfl (And.intro (fun h => nomatch h) (fun he => ?_)))))
      subst he; exact (And.intro rfl (Exists.intro v₆ (And.intro (q₄_0) (And.intro (q₄_3) (And.intro (q₄_4) (And.intro (q₄_5) (And.intro (q₄_7) (hO₉.pick [0, 1, 2, 4] rfl (by decide)))))))))
    intro e₂ q₃ k₅ hJ₂
    obtain ⟨in_2, p1⟩ := o₃
    obtain ⟨rfl, v₇, q₃_0, q₃_3, q₃_4, q₃_5, q₃_7, hO₇⟩ := hJ₂
    refine zI (Zd (W_rg (Za (a_mv (v := v₃) q₃_4) (Za (a_mv (v := v₇) q₃_7) (z8 (hO₇.bsl (E := eV) (l := [v₇]) hO₇.fr (by rw [(zq (v := v₇) rfl ev_nil)]; simp [fill, over, (hO₇.sl 3 rfl : Sl eInt k₅ v₇ p1).cells]) rfl) ?_)))))
    rintro v₁₀ k₁₀ ⟨r₃, f₅, hW⟩
    have hO₁₃ : Own B h k₁₀ [eSl e_bool v₂ in_2, eSl eV v₃ vs₂, eAll eInt vs₂ out, eSl eInt v₇ p1, eSl eV v₁₀ [v₇]] := hW
    obtain ⟨c₉, hp⟩ := Zk hp
    refine z8 (hO₁₃.appV (bytes := 24) 1 hO₁₃.fr rfl (hO₁₃.sl 4 rfl : Sl eV k₁₀ v₁₀ [v₇]) rfl rfl (by simp only [List.all_cons, List.all_nil, Bool.and_true]; exact (hO₁₃.sl 3 rfl : Sl eInt k₁₀ v₇ p1).oneV) (by rw [(hO₁₃.allLen 2 rfl : (vs₂).length = (out).length)]; exact c₉) (by decide)) ?_
    rintro v₁₁ k₁₁ ⟨f₆, hW⟩
    have hO₁₄ : Own B h k₁₁ [eSl e_bool v₂ in_2, eSl eV v₁₁ (vs₂ ++ [v₇]), eAll eInt vs₂ out, eSl eInt v₇ p1, eSl eV v₁₀ [v₇]] := hW
    have hO₁₅ : Own B h k₁₁ [eSl e_bool v₂ in_2, eSl eV v₁₁ (vs₂ ++ [v₇]), eAll eInt (vs₂ ++ [v₇]) (out ++ [p1]), eNone, eSl eV v₁₀ [v₇]] := hO₁₄.absorb 2 3 rfl rfl (by decide)
    refine Za (a_mv (v := v₁₁) rfl) (Zf (z9 (Zd (W_rg (Za (a_mv (v := .i .i64 v) q₃_5) ?_)))))
    obtain ⟨c₁₀, hp⟩ := Zk hp
    refine Za (a_add (a := v) (b := 1) rfl rfl c₁₀) (Za (a_mv (v := .i .i64 (v + 1)) rfl) (Zf ?_))
    have hp := Option.some.inj hp; subst hp
    exact (Or.inl (Exists.intro (in_2, out ++ [p1], v + 1) (And.intro rfl (And.intro rfl (Exists.intro v₁₁ (Exists.intro (vs₂ ++ [v₇]) (And.intro (q₃_0) (And.intro (q₃_3) (And.intro (rfl) (And.intro (rfl) (hO₁₅.pick [0, 1, 2] rfl (by decide))))))))))))
  ·refine W_cF (t := (decide (v < (l.length : Int)))) rfl b₁ ?_
   refine W_ex (zz ?_)
   have hp := Option.some.inj hp; subst hp
   refine (Or.inr (Exists.intro out (And.intro rfl (And.intro (fun h => nomatch h) (fun he => ?_)))))
   subst he; exact (And.intro rfl (Exists.intro v₃ (Exists.intro vs₂ (And.intro (q₂_4) (hO₅.pick [1, 2] rfl (by decide))))))
 intro e₁ q₁ k₂ hJ₁
 obtain ⟨out1, rfl⟩ : ∃ x, x = o₁ := ⟨_, rfl⟩
 obtain ⟨rfl, v₄, vs₃, q₁_4, hO₂⟩ := hJ₁
 refine zI (Zd (W_sq (W_rg (Za (a_mv (v := v₄) q₁_4) (Za (a_mv (v := v₄) rfl) (Zf (Zd ?_)))))))
 refine W_rt (Ret_r (rs_t (n := 2) (v := v₄) rfl rs_nil) ?_)
 have hp := Option.some.inj hp; subst hp
 exact (Exists.intro v₄ (Exists.intro vs₃ (And.intro rfl (hO₂.pick [0, 1] rfl (by decide)))))

theorem zd.ok {h : Hp} {l : List Zg} {d : Zl} {v_l : V} (s_l : Sl Zb h v_l l) {r : Zl} (hp : zd l d = some r) :
  ∃ u k', Is G 202 [v_l, .ag (Ze.c d)] h u k' ∧ V.ag (Ze.c r) = u ∧ Own (fun r => r < h.n) h k' [] := by
 refine WC.is (WC_of G_F_muntinref12_Behind ?_)
 unfold zd at hp
 let B : Nat → Prop := (fun r => r < h.n)
 have hO : Own B h h [] := Own.start0 h
 refine W_sq (W_rg (z8 (hO.boxd (v := .ag (Ze.c d)) (cs := Ze.c d) hO.fr rfl rfl) ?_))
 rintro _ k₁ ⟨r₁, rfl, n₁, f₁, hW⟩
 have hO₁ : Own B h k₁ [eBox r₁ (Ze.c d)] := hW
 refine z8 (hO₁.alloc (cs := Ze.c (⟨0, 0⟩ : Zl)) hO₁.fr) ?_
 rintro _ k₂ ⟨r₂, rfl, n₂, f₂, hW⟩
 have hO₂ : Own B h k₂ [eBox r₁ (Ze.c d), eBox r₂ (Ze.c (⟨0, 0⟩ : Zl))] := hW
 refine Zf (Zd (W_sq (W_qd ?_)))
 have hW := hO₂.bump 10
 have hO₃ : Own B h (k₂.bump 10) [eBox r₁ (Ze.c d), eBox r₂ (Ze.c (⟨0, 0⟩ : Zl))] := hW
 refine Z1 rfl (a_mv (v := v_l) rfl) (Z1 rfl (a_fa (r := r₁) (o := 0) (o' := 0) rfl rfl) (Z1 rfl (Zaf (cs := (Ze.c d)) (v := .i .i64 d.Cell) (hO₃.box 0 rfl) rfl rfl) (Z1 rfl (a_fa (r := r₁) (o := 0) (o' := 1) rfl rfl) (Z1 rfl (Zaf (cs := (Ze.c d)) (v := .i .i64 d.Dir) (hO₃.box 0 rfl) rfl rfl) ?_))))
 obtain ⟨c₁, hp⟩ := Zk hp
 refine Z1 rfl (a_ixa (E := Zb) (z := d.Cell) (hO₃.rd0 s_l.rd : Sl Zb (k₂.bump 10) v_l l) rfl rfl c₁) (Z1 rfl (zU (off' := 0) (off2 := 0) (hO₃.rd0 s_l.rd : Sl Zb (k₂.bump 10) v_l l) (Zm c₁) rfl rfl) ?_)
 obtain ⟨c₂, hp⟩ := Zk hp
 refine Z1 rfl (Zak (off := 0) (off2 := (0 + (d.Dir : Int).toNat * 1)) (z := d.Dir) (hO₃.rd0 s_l.rd : Sl Zb (k₂.bump 10) v_l l) (Zm c₁) rfl rfl c₂ rfl) (Z1 rfl (z2 (w := .i .i64 (((gi l (d.Cell : Int).toNat).Next).get d.Dir)) (hO₃.rd0 s_l.rd : Sl Zb (k₂.bump 10) v_l l) rfl (Zm c₁) (z4 c₂)) (Z1 rfl (a_mv (v := .i .i64 (((gi l (d.Cell : Int).toNat).Next).get d.Dir)) rfl) (z7 (Zd (W_sq (W_rg (z8 (hO₃.bsl (E := eInt) (l := ([1, 0, 3, 2] : List Int)) hO₃.fr (by rw [(zq (v := .i .i64 1) rfl (zq (v := .i .i64 0) rfl (zq (v := .i .i64 3) rfl (zq (v := .i .i64 2) rfl ev_nil))))]; rfl) rfl) ?_)))))))
 rintro v₁ k₄ ⟨r₃, f₃, hW⟩
 have hO₄ : Own B h k₄ [eBox r₁ (Ze.c d), eBox r₂ (Ze.c (⟨0, 0⟩ : Zl)), eSl eInt v₁ ([1, 0, 3, 2] : List Int)] := hW
 refine Za (a_mv (v := v₁) rfl) (Zf (Zd (W_sq (W_sq (W_rg (Za (a_mv (v := .i .i64 0) rfl) (Zf ?_)))))))
 refine Zd (W_bl ?_)
 obtain ⟨o₁, ho₁, hp⟩ := Zv hp
 refine W.mono (Q := fun e fr k => match (generalizing := false) o₁ with
   | .inl _ => e = (.exit 0) ∧ fr 3 = .p r₁ 0 ∧ fr 4 = .p r₂ 0 ∧ Own B h k [eBox r₁ (Ze.c d), eBox r₂ (Ze.c (⟨0, 0⟩ : Zl))]
   | .inr x => e = .ret ∧ fr 4 = .p r₂ 0 ∧ Own B h k [eBox r₂ (Ze.c x)]) ?_ ?_
 ·clear hp
  refine zu (fun st fr k => match st with | i => fr 0 = v_l ∧ fr 3 = .p r₁ 0 ∧ fr 4 = .p r₂ 0 ∧ fr 5 = .i .i64 (((gi l (d.Cell : Int).toNat).Next).get d.Dir) ∧ fr 6 = v₁ ∧ fr 7 = .i .i64 i ∧ Own B h k [eBox r₁ (Ze.c d), eBox r₂ (Ze.c (⟨0, 0⟩ : Zl)), eSl eInt v₁ ([1, 0, 3, 2] : List Int)]) ho₁ (s := 0) (And.intro (rfl) (And.intro (rfl) (And.intro (rfl) (And.intro (rfl) (And.intro (rfl) (And.intro (rfl) (hO₄.pick [0, 1, 2] rfl (by decide)))))))) ?_
  rintro i q₂ k₆ ⟨q₂_0, q₂_3, q₂_4, q₂_5, q₂_6, q₂_7, hO₆⟩ o₂ hp
  dsimp only [zd.s0] at hp
  refine W_sq (W_sq (W_rg (Za (a_mv (v := .i .i64 i) q₂_7) (Za (a_lss (a := i) (b := 4) rfl rfl) (Zf (Zd ?_))))))
  rcases Zu hp with ⟨b₁, hp⟩ | ⟨b₁, hp⟩
  ·refine W_cT (t := (decide (i < 4))) rfl b₁ ?_
   refine W_sk (Zd (W_sq (W_bl (W_sq (W_qd ?_)))))
   have hW := hO₆.bump 9
   have hO₇ : Own B h (k₆.bump 9) [eBox r₁ (Ze.c d), eBox r₂ (Ze.c (⟨0, 0⟩ : Zl)), eSl eInt v₁ ([1, 0, 3, 2] : List Int)] := hW
   refine Z1 rfl (a_fa (r := r₁) (o := 0) (o' := 1) q₂_3 rfl) (Z1 rfl (Zaf (cs := (Ze.c d)) (v := .i .i64 d.Dir) (hO₇.box 0 rfl) rfl rfl) (Z1 rfl (a_mv (v := v₁) q₂_6) (Z1 rfl (a_mv (v := .i .i64 i) q₂_7) ?_)))
   obtain ⟨c₃, hp⟩ := Zk hp
   refine Z1 rfl (a_ixa (E := eInt) (z := i) (hO₇.sl 2 rfl : Sl eInt (k₆.bump 9) v₁ ([1, 0, 3, 2] : List Int)) rfl rfl c₃) (Z1 rfl (z2 (w := .i .i64 (gi ([1, 0, 3, 2] : List Int) (i : Int).toNat)) (hO₇.sl 2 rfl : Sl eInt (k₆.bump 9) v₁ ([1, 0, 3, 2] : List Int)) rfl (Zm c₃) rfl) ?_)
   obtain ⟨c₄, hp⟩ := Zk hp
   refine Z1 rfl (a_add (a := d.Dir) (b := (gi ([1, 0, 3, 2] : List Int) (i : Int).toNat)) rfl rfl c₄) (Z1 rfl (a_rem (a := (d.Dir + (gi ([1, 0, 3, 2] : List Int) (i : Int).toNat))) (b := 4) rfl rfl (by decide)) (Z1 rfl (a_mv (v := .i .i64 ((d.Dir + (gi ([1, 0, 3, 2] : List Int) (i : Int).toNat)).tmod 4)) rfl) (z7 (Zd (W_sq (W_rg (Za (a_mv (v := v_l) q₂_0) ?_)))))))
   refine Za (a_mv (v := .i .i64 (((gi l (d.Cell : Int).toNat).Next).get d.Dir)) q₂_5) (Za (a_mv (v := .i .i64 ((d.Dir + (gi ([1, 0, 3, 2] : List Int) (i : Int).toNat)).tmod 4)) rfl) ?_)
   obtain ⟨c₅, hp⟩ := Zk hp
   refine Za (a_ixa (E := Zb) (z := (((gi l (d.Cell : Int).toNat).Next).get d.Dir)) (hO₇.rd0 s_l.rd : Sl Zb (k₆.bump 9) v_l l) rfl rfl c₅) (Za (zU (off' := 0) (off2 := 0) (hO₇.rd0 s_l.rd : Sl Zb (k₆.bump 9) v_l l) (Zm c₅) rfl rfl) ?_)
   obtain ⟨c₆, hp⟩ := Zk hp
   refine Za (Zak (off := 0) (off2 := (0 + ((d.Dir + (gi ([1, 0, 3, 2] : List Int) (i : Int).toNat)).tmod 4 : Int).toNat * 1)) (z := ((d.Dir + (gi ([1, 0, 3, 2] : List Int) (i : Int).toNat)).tmod 4)) (hO₇.rd0 s_l.rd : Sl Zb (k₆.bump 9) v_l l) (Zm c₅) rfl rfl c₆ rfl) (Za (z2 (w := .i .i64 (((gi l (((gi l (d.Cell : Int).toNat).Next).get d.Dir : Int).toNat).Next).get ((d.Dir + (gi ([1, 0, 3, 2] : List Int) (i : Int).toNat)).tmod 4))) (hO₇.rd0 s_l.rd : Sl Zb (k₆.bump 9) v_l l) rfl (Zm c₅) (z4 c₆)) (Za (a_geq (a := (((gi l (((gi l (d.Cell : Int).toNat).Next).get d.Dir : Int).toNat).Next).get ((d.Dir + (gi ([1, 0, 3, 2] : List Int) (i : Int).toNat)).tmod 4))) (b := 0) rfl rfl) (Zf (Zd ?_))))
   rcases Zu hp with ⟨b₂, hp⟩ | ⟨b₂, hp⟩
   ·refine W_cT (t := (decide (0 ≤ (((gi l (((gi l (d.Cell : Int).toNat).Next).get d.Dir : Int).toNat).Next).get ((d.Dir + (gi ([1, 0, 3, 2] : List Int) (i : Int).toNat)).tmod 4))))) rfl b₂ ?_
    refine W_sq (W_rg (Za (a_mv (v := .i .i64 (((gi l (d.Cell : Int).toNat).Next).get d.Dir)) q₂_5) (Za (a_mv (v := .i .i64 ((d.Dir + (gi ([1, 0, 3, 2] : List Int) (i : Int).toNat)).tmod 4)) rfl) (Za (Za5 (cs := Ze.c (⟨((gi l (d.Cell : Int).toNat).Next).get d.Dir, (d.Dir + (gi ([1, 0, 3, 2] : List Int) (i : Int).toNat)).tmod 4⟩ : Zl)) (by rw [(zq (v := .i .i64 (((gi l (d.Cell : Int).toNat).Next).get d.Dir)) rfl (zq (v := .i .i64 ((d.Dir + (gi ([1, 0, 3, 2] : List Int) (i : Int).toNat)).tmod 4)) rfl ev_nil))]; rfl)) (z8 (hO₇.stb (ws := Ze.c (⟨((gi l (d.Cell : Int).toNat).Next).get d.Dir, (d.Dir + (gi ([1, 0, 3, 2] : List Int) (i : Int).toNat)).tmod 4⟩ : Zl)) (cs' := Ze.c (⟨((gi l (d.Cell : Int).toNat).Next).get d.Dir, (d.Dir + (gi ([1, 0, 3, 2] : List Int) (i : Int).toNat)).tmod 4⟩ : Zl)) (v := .ag (Ze.c (⟨((gi l (d.Cell : Int).toNat).Next).get d.Dir, (d.Dir + (gi ([1, 0, 3, 2] : List Int) (i : Int).toNat)).tmod 4⟩ : Zl))) 1 rfl q₂_4 rfl rfl ⟨rfl, Nat.le_of_ble_eq_true rfl, rfl⟩ rfl) ?_)))))
    rintro _ k₈ ⟨rfl, f₄, m₁, hW⟩
    have hO₈ : Own B h k₈ [eBox r₁ (Ze.c d), eBox r₂ (Ze.c (⟨((gi l (d.Cell : Int).toNat).Next).get d.Dir, (d.Dir + (gi ([1, 0, 3, 2] : List Int) (i : Int).toNat)).tmod 4⟩ : Zl)), eSl eInt v₁ ([1, 0, 3, 2] : List Int)] := hW
    refine Zf (Zd (W_rt (zY (zh ?_))))
    have hp := Option.some.inj hp; subst hp
    refine (Or.inr (Exists.intro (.inr (⟨((gi l (d.Cell : Int).toNat).Next).get d.Dir, (d.Dir + (gi ([1, 0, 3, 2] : List Int) (i : Int).toNat)).tmod 4⟩ : Zl)) (And.intro rfl (And.intro (fun h => nomatch h) (fun he => ?_)))))
    subst he; exact (And.intro rfl (And.intro (q₂_4) (hO₈.pick [1] rfl (by decide))))
   ·refine W_cF (t := (decide (0 ≤ (((gi l (((gi l (d.Cell : Int).toNat).Next).get d.Dir : Int).toNat).Next).get ((d.Dir + (gi ([1, 0, 3, 2] : List Int) (i : Int).toNat)).tmod 4))))) rfl b₂ ?_
    refine W_sk (z9 (Zd (W_rg (Za (a_mv (v := .i .i64 i) q₂_7) ?_))))
    obtain ⟨c₇, hp⟩ := Zk hp
    refine Za (a_add (a := i) (b := 1) rfl rfl c₇) (Za (a_mv (v := .i .i64 (i + 1)) rfl) (Zf ?_))
    have hp := Option.some.inj hp; subst hp
    exact (Or.inl (Exists.intro (i + 1) (And.intro rfl (And.intro rfl (And.intro (q₂_0) (And.intro (q₂_3) (And.intro (q₂_4) (And.intro (q₂_5) (And.intro (q₂_6) (And.intro (rfl) (hO₇.pick [0, 1, 2] rfl (by decide))))))))))))
  ·refine W_cF (t := (decide (i < 4))) rfl b₁ ?_
   refine W_ex (zz ?_)
   have hp := Option.some.inj hp; subst hp
   refine (Or.inr (Exists.intro (.inl ()) (And.intro rfl (And.intro (fun h => nomatch h) (fun he => ?_)))))
   subst he; exact (And.intro rfl (And.intro (q₂_3) (And.intro (q₂_4) (hO₆.pick [0, 1] rfl (by decide)))))
 intro e₁ q₁ k₅ hJ₁
 rcases o₁ with _ | x
 ·obtain ⟨rfl, q₁_3, q₁_4, hO₅⟩ := hJ₁
  refine zI (Zd (W_sq (W_rg (Za (a_ldbA (cs := (Ze.c d)) (ws := Ze.c d) (hO₅.box 0 rfl) q₁_3 rfl) (z8 (hO₅.stb (ws := Ze.c d) (cs' := Ze.c d) (v := .ag (Ze.c d)) 1 rfl q₁_4 rfl rfl ⟨rfl, Nat.le_of_ble_eq_true rfl, rfl⟩ rfl) ?_)))))
  rintro _ k₉ ⟨rfl, f₅, m₂, hW⟩
  have hO₉ : Own B h k₉ [eBox r₁ (Ze.c d), eBox r₂ (Ze.c d)] := hW
  refine Zf (Zd (W_rt (Ret_r (rs_c (n := 4) (v := .ag (Ze.c d)) (r := r₂) q₁_4 (hO₉.box 1 rfl) rfl rs_nil) ?_)))
  have hp := Option.some.inj hp; subst hp
  exact (And.intro rfl (hO₉.pick [] rfl (by decide)))
 ·obtain ⟨rfl, q₁_4, hO₅⟩ := hJ₁
  refine zY (zh (Ret_r (rs_c (n := 4) (v := .ag (Ze.c x)) (r := r₂) q₁_4 (hO₅.box 0 rfl) rfl rs_nil) ?_))
  have hp := Option.some.inj hp; subst hp
  exact (And.intro rfl (hO₅.pick [] rfl (by decide)))

theorem Z9.ok {h : Hp} {l : List Zg} {v_l : V} (s_l : Sl Zb h v_l l) {r : (List (List Zl))} (hp : Z9 l = some r) :
  ∃ u k', Is G 177 [v_l] h u k' ∧ ∃ (v₁ : V), ∃ (vs₁ : List V), v₁ = u ∧ Own (fun r => r < h.n) h k' [eSl eV v₁ vs₁, eAll Ze vs₁ r] := by
 refine WC.is (WC_of G_F_muntinref12_Faces ?_)
 unfold Z9 at hp
 let B : Nat → Prop := (fun r => r < h.n)
 have hO : Own B h h [] := Own.start0 h
 refine W_sq (W_rg (Za (a_mv (v := .sn) rfl) (Zf (Zd (W_sq (W_rg (Za (a_mv (v := v_l) rfl) ?_)))))))
 refine Za (a_len (hO.rd0 s_l.rd : Sl Zb h v_l l) rfl) ?_
 obtain ⟨c₁, hp⟩ := Zk hp
 refine Za (a_mul (a := 4) (b := (l.length : Int)) rfl rfl c₁) ?_
 obtain ⟨c₂, hp⟩ := Zk hp
 refine z8 (hO.mks (E := e_bool) (y := false) (bytes := 1) (z := (4 * (l.length : Int))) hO.fr rfl rfl rfl c₂ (by decide)) ?_
 rintro v₂ k₁ ⟨r₁, f₁, hW⟩
 have hO₁ : Own B h k₁ [eSl e_bool v₂ (List.replicate (4 * (l.length : Int) : Int).toNat false)] := hW
 refine Za (a_mv (v := v₂) rfl) (Zf (Zd (W_sq (W_rg (Za (a_mv (v := .sn) rfl) (Zf (Zd ?_)))))))
 refine W_sq (W_sq (W_rg (Za (a_mv (v := .i .i64 0) rfl) (Zf (Zd (W_bl ?_))))))
 obtain ⟨o₁, ho₁, hp⟩ := Zv hp
 refine W.mono (Q := fun e fr k => match (generalizing := false) o₁ with
   | out1 => e = (.exit 0) ∧ ∃ (v₄ : V), ∃ (vs₃ : List V), fr 4 = v₄ ∧ Own B h k [eSl eV v₄ vs₃, eAll Ze vs₃ out1]) ?_ ?_
 ·clear hp
  have hO₃ : Own B h k₁ [eSl e_bool v₂ (List.replicate (4 * (l.length : Int) : Int).toNat false), eSl eV .sn []] := hO₁.nil eV
  have hO₄ : Own B h k₁ [eSl e_bool v₂ (List.replicate (4 * (l.length : Int) : Int).toNat false), eSl eV .sn [], eAll Ze [] []] := hO₃.allNil Ze 0
  refine zu (fun st fr k => match st with | (met, out, v) => ∃ (v₃ : V), ∃ (vs₂ : List V), fr 0 = v_l ∧ fr 3 = v₂ ∧ fr 4 = v₃ ∧ fr 5 = .i .i64 v ∧ Own B h k [eSl e_bool v₂ met, eSl eV v₃ vs₂, eAll Ze vs₂ out]) ho₁ (s := (List.replicate (4 * (l.length : Int) : Int).toNat false, ([] : List (List Zl)), 0)) (Exists.intro V.sn (Exists.intro [] (And.intro (rfl) (And.intro (rfl) (And.intro (rfl) (And.intro (rfl) (hO₄.pick [0, 1, 2] rfl (by decide)))))))) ?_
  rintro ⟨met, out, v⟩ q₂ k₃ ⟨v₃, vs₂, q₂_0, q₂_3, q₂_4, q₂_5, hO₅⟩ o₂ hp
  dsimp only [Z9.s0] at hp
  refine W_sq (W_sq (W_rg (Za (a_mv (v := .i .i64 v) q₂_5) (Za (a_mv (v := v_l) q₂_0) (Za (a_len (hO₅.rd0 s_l.rd : Sl Zb k₃ v_l l) rfl) (Za (a_lss (a := v) (b := (l.length : Int)) rfl rfl) (Zf ?_)))))))
  refine Zd ?_
  rcases Zu hp with ⟨b₁, hp⟩ | ⟨b₁, hp⟩
  ·refine W_cT (t := (decide (v < (l.length : Int)))) rfl b₁ ?_
   refine W_sk (Zd (W_sq (W_bl (W_sq (W_rg (Za (a_mv (v := .i .i64 0) rfl) (Zf ?_)))))))
   refine Zd (W_bl ?_)
   obtain ⟨o₃, ho₂, hp⟩ := Zv hp
   refine W.mono (Q := fun e fr k => match (generalizing := false) o₃ with
     | (met2, out3) => e = (.exit 2) ∧ ∃ (v₆ : V), ∃ (vs₅ : List V), fr 0 = v_l ∧ fr 3 = v₂ ∧ fr 4 = v₆ ∧ fr 5 = .i .i64 v ∧ Own B h k [eSl e_bool v₂ met2, eSl eV v₆ vs₅, eAll Ze vs₅ out3]) ?_ ?_
   ·clear hp
    refine zu (fun st fr k => match st with | (met1, out2, e_) => ∃ (v₅ : V), ∃ (vs₄ : List V), fr 0 = v_l ∧ fr 3 = v₂ ∧ fr 4 = v₅ ∧ fr 5 = .i .i64 v ∧ fr 6 = .i .i64 e_ ∧ Own B h k [eSl e_bool v₂ met1, eSl eV v₅ vs₄, eAll Ze vs₄ out2]) ho₂ (s := (met, out, 0)) (Exists.intro v₃ (Exists.intro vs₂ (And.intro (q₂_0) (And.intro (q₂_3) (And.intro (q₂_4) (And.intro (q₂_5) (And.intro (rfl) (hO₅.pick [0, 1, 2] rfl (by decide))))))))) ?_
    rintro ⟨met1, out2, e_⟩ q₄ k₅ ⟨v₅, vs₄, q₄_0, q₄_3, q₄_4, q₄_5, q₄_6, hO₇⟩ o₄ hp
    dsimp only [Z9.s1] at hp
    refine W_sq (W_sq (W_rg (Za (a_mv (v := .i .i64 e_) q₄_6) (Za (a_lss (a := e_) (b := 4) rfl rfl) (Zf (Zd ?_))))))
    rcases Zu hp with ⟨b₂, hp⟩ | ⟨b₂, hp⟩
    ·refine W_cT (t := (decide (e_ < 4))) rfl b₂ ?_
     refine W_sk (Zd (W_sq (W_bl (W_sq (W_sq (W_rg (Za (a_mv (v := v_l) q₄_0) ?_)))))))
     refine Za (a_mv (v := .i .i64 v) q₄_5) (Za (a_mv (v := .i .i64 e_) q₄_6) ?_)
     obtain ⟨c₃, hp⟩ := Zk hp
     refine Za (a_ixa (E := Zb) (z := v) (hO₇.rd0 s_l.rd : Sl Zb k₅ v_l l) rfl rfl c₃) (Za (zU (off' := 0) (off2 := 0) (hO₇.rd0 s_l.rd : Sl Zb k₅ v_l l) (Zm c₃) rfl rfl) ?_)
     obtain ⟨c₄, hp⟩ := Zk hp
     refine Za (Zak (off := 0) (off2 := (0 + (e_ : Int).toNat * 1)) (z := e_) (hO₇.rd0 s_l.rd : Sl Zb k₅ v_l l) (Zm c₃) rfl rfl c₄ rfl) (Za (z2 (w := .i .i64 (((gi l (v : Int).toNat).Next).get e_)) (hO₇.rd0 s_l.rd : Sl Zb k₅ v_l l) rfl (Zm c₃) (z4 c₄)) (Za (a_lss (a := (((gi l (v : Int).toNat).Next).get e_)) (b := 0) rfl rfl) (Za (a_mv (v := .b (decide ((((gi l (v : Int).toNat).Next).get e_) < 0))) rfl) ?_)))
     obtain ⟨t, hv₁, hp⟩ := Zv hp
     refine zB 8 (fun fr' k' => k₅ = k' ∧ fr' 39 = .b t ∧ fr' 0 = v_l ∧ fr' 3 = v₂ ∧ fr' 4 = v₅ ∧ fr' 5 = .i .i64 v ∧ fr' 6 = .i .i64 e_) ?_ ?_
     ·clear hp; rcases Zu hv₁ with ⟨b₃, hp⟩ | ⟨b₃, hp⟩
      ·skip
       refine WO_off rfl b₃ (WO_off rfl b₃ (WO_off rfl b₃ (WO_off rfl b₃ (WO_off rfl b₃ (WO_off rfl b₃ (WO_off rfl b₃ (Za (ZW (t := (decide ((((gi l (v : Int).toNat).Next).get e_) < 0))) (v := .b t) rfl b₃ (Eq.trans (b := V.b true) rfl (congrArg V.b (Option.some.inj hp)))) ?_)))))))
       refine Zf ?_
       exact ⟨rfl, rfl, q₄_0, q₄_3, q₄_4, q₄_5, q₄_6⟩
      ·skip
       refine WO_on rfl b₃ (Za (a_mv (v := v₂) q₄_3) (WO_on rfl b₃ (Za (a_mv (v := .i .i64 v) q₄_5) (WO_on rfl b₃ ?_))))
       obtain ⟨c₅, hp⟩ := Zk hp
       refine Za (a_mul (a := 4) (b := v) rfl rfl c₅) (WO_on rfl b₃ (Za (a_mv (v := .i .i64 e_) q₄_6) (WO_on rfl b₃ ?_)))
       obtain ⟨c₆, hp⟩ := Zk hp
       refine Za (a_add (a := (4 * v)) (b := e_) rfl rfl c₆) (WO_on rfl b₃ ?_)
       obtain ⟨c₇, hp⟩ := Zk hp
       refine Za (a_ixa (E := e_bool) (z := ((4 * v) + e_)) (hO₇.sl 0 rfl : Sl e_bool k₅ v₂ met1) rfl rfl c₇) (WO_on rfl b₃ (Za (z2 (w := .b (gi met1 ((4 * v) + e_ : Int).toNat)) (hO₇.sl 0 rfl : Sl e_bool k₅ v₂ met1) rfl (Zm c₇) rfl) (Za (ZT (t := (decide ((((gi l (v : Int).toNat).Next).get e_) < 0))) (v := .b t) rfl b₃ (Eq.trans (b := V.b (gi met1 ((4 * v) + e_ : Int).toNat)) rfl (congrArg V.b (Option.some.inj hp)))) (Zf ?_))))
       exact ⟨rfl, rfl, q₄_0, q₄_3, q₄_4, q₄_5, q₄_6⟩
     rintro frg₁ _ ⟨rfl, g₁_39, g₁_0, g₁_3, g₁_4, g₁_5, g₁_6⟩
     refine Zf (Zd ?_)
     rcases Zu hp with ⟨b₄, hp⟩ | ⟨b₄, hp⟩
     ·refine W_cT (t := t) g₁_39 b₄ ?_
      refine W_ex (zz (zI (Zd (W_rg (Za (a_mv (v := .i .i64 e_) g₁_6) ?_)))))
      obtain ⟨c₈, hp⟩ := Zk hp
      refine Za (a_add (a := e_) (b := 1) rfl rfl c₈) (Za (a_mv (v := .i .i64 (e_ + 1)) rfl) (Zf ?_))
      have hp := Option.some.inj hp; subst hp
      exact (Or.inl (Exists.intro (met1, out2, e_ + 1) (And.intro rfl (And.intro rfl (Exists.intro v₅ (Exists.intro vs₄ (And.intro (g₁_0) (And.intro (g₁_3) (And.intro (g₁_4) (And.intro (g₁_5) (And.intro (rfl) (hO₇.pick [0, 1, 2] rfl (by decide)))))))))))))
     ·refine W_cF (t := t) g₁_39 b₄ ?_
      refine W_sk (Zd (W_sq (W_rg (Za (a_mv (v := .sn) rfl) (Zf (Zd (W_sq ?_)))))))
      refine W_rg (Za (a_mv (v := .i .i64 v) g₁_5) (Za (a_mv (v := .i .i64 e_) g₁_6) (Za (Za5 (cs := Ze.c (⟨v, e_⟩ : Zl)) (by rw [(zq (v := .i .i64 v) rfl (zq (v := .i .i64 e_) rfl ev_nil))]; rfl)) (z8 (hO₇.alloc (cs := Ze.c (⟨0, 0⟩ : Zl)) hO₇.fr) ?_))))
      rintro _ k₆ ⟨r₂, rfl, n₁, f₂, hW⟩
      have hO₈ : Own B h k₆ [eSl e_bool v₂ met1, eSl eV v₅ vs₄, eAll Ze vs₄ out2, eBox r₂ (Ze.c (⟨0, 0⟩ : Zl))] := hW
      refine z8 (hO₈.stb (ws := Ze.c (⟨v, e_⟩ : Zl)) (cs' := Ze.c (⟨v, e_⟩ : Zl)) (v := .ag (Ze.c (⟨v, e_⟩ : Zl))) 3 rfl rfl rfl rfl ⟨rfl, Nat.le_of_ble_eq_true rfl, rfl⟩ rfl) ?_
      rintro _ k₇ ⟨rfl, f₃, m₁, hW⟩
      have hO₉ : Own B h k₇ [eSl e_bool v₂ met1, eSl eV v₅ vs₄, eAll Ze vs₄ out2, eBox r₂ (Ze.c (⟨v, e_⟩ : Zl))] := hW
      refine Zf (Zd (W_sq (W_bl ?_)))
      obtain ⟨o₅, ho₃, hp⟩ := Zv hp
      refine W.mono (Q := fun e fr k => match (generalizing := false) o₅ with
        | (met4, f1) => e = (.exit 4) ∧ ∃ (v₈ : V), fr 0 = v_l ∧ fr 3 = v₂ ∧ fr 4 = v₅ ∧ fr 5 = .i .i64 v ∧ fr 6 = .i .i64 e_ ∧ fr 7 = v₈ ∧ Own B h k [eSl e_bool v₂ met4, eSl eV v₅ vs₄, eAll Ze vs₄ out2, eSl Ze v₈ f1]) ?_ ?_
      ·clear hp
       have hO₁₁ : Own B h k₇ [eSl e_bool v₂ met1, eSl eV v₅ vs₄, eAll Ze vs₄ out2, eBox r₂ (Ze.c (⟨v, e_⟩ : Zl)), eSl Ze .sn ([] : List Zl)] := hO₉.nil Ze
       refine zu (fun st fr k => match st with | (met3, f, d) => ∃ (v₇ : V), fr 0 = v_l ∧ fr 3 = v₂ ∧ fr 4 = v₅ ∧ fr 5 = .i .i64 v ∧ fr 6 = .i .i64 e_ ∧ fr 7 = v₇ ∧ fr 8 = .p r₂ 0 ∧ Own B h k [eSl e_bool v₂ met3, eSl eV v₅ vs₄, eAll Ze vs₄ out2, eSl Ze v₇ f, eBox r₂ (Ze.c d)]) ho₃ (s := (met1, ([] : List Zl), (⟨v, e_⟩ : Zl))) (Exists.intro V.sn (And.intro (g₁_0) (And.intro (g₁_3) (And.intro (g₁_4) (And.intro (g₁_5) (And.intro (g₁_6) (And.intro (rfl) (And.intro (rfl) (hO₁₁.pick [0, 1, 2, 4, 3] rfl (by decide)))))))))) ?_
       rintro ⟨met3, f, d⟩ q₆ k₉ ⟨v₇, q₆_0, q₆_3, q₆_4, q₆_5, q₆_6, q₆_7, q₆_8, hO₁₂⟩ o₆ hp
       dsimp only [Z9.s2] at hp
       refine W_sq (W_sq (W_rg (Za (a_mv (v := v₂) q₆_3) (Za (a_fa (r := r₂) (o := 0) (o' := 0) q₆_8 rfl) (Za (Zaf (cs := (Ze.c d)) (v := .i .i64 d.Cell) (hO₁₂.box 4 rfl) rfl rfl) ?_)))))
       obtain ⟨c₉, hp⟩ := Zk hp
       refine Za (a_mul (a := 4) (b := d.Cell) rfl rfl c₉) (Za (a_fa (r := r₂) (o := 0) (o' := 1) q₆_8 rfl) (Za (Zaf (cs := (Ze.c d)) (v := .i .i64 d.Dir) (hO₁₂.box 4 rfl) rfl rfl) ?_))
       obtain ⟨c₁₀, hp⟩ := Zk hp
       refine Za (a_add (a := (4 * d.Cell)) (b := d.Dir) rfl rfl c₁₀) ?_
       obtain ⟨c₁₁, hp⟩ := Zk hp
       refine Za (a_ixa (E := e_bool) (z := ((4 * d.Cell) + d.Dir)) (hO₁₂.sl 0 rfl : Sl e_bool k₉ v₂ met3) rfl rfl c₁₁) (Za (z2 (w := .b (gi met3 ((4 * d.Cell) + d.Dir : Int).toNat)) (hO₁₂.sl 0 rfl : Sl e_bool k₉ v₂ met3) rfl (Zm c₁₁) rfl) (Za (a_not (t := (gi met3 ((4 * d.Cell) + d.Dir : Int).toNat)) rfl) (Zf (Zd ?_))))
       rcases Zu hp with ⟨b₅, hp⟩ | ⟨b₅, hp⟩
       ·refine W_cT (t := (!(gi met3 ((4 * d.Cell) + d.Dir : Int).toNat))) rfl b₅ ?_
        refine W_sk (Zd (W_bl (W_sq (W_rg (Za (a_mv (v := v₂) q₆_3) (Za (a_fa (r := r₂) (o := 0) (o' := 0) q₆_8 rfl) (Za (Zaf (cs := (Ze.c d)) (v := .i .i64 d.Cell) (hO₁₂.box 4 rfl) rfl rfl) ?_)))))))
        refine Za (a_mul (a := 4) (b := d.Cell) rfl rfl c₉) (Za (a_fa (r := r₂) (o := 0) (o' := 1) q₆_8 rfl) (Za (Zaf (cs := (Ze.c d)) (v := .i .i64 d.Dir) (hO₁₂.box 4 rfl) rfl rfl) (Za (a_add (a := (4 * d.Cell)) (b := d.Dir) rfl rfl c₁₀) (Za (a_ixa (E := e_bool) (z := ((4 * d.Cell) + d.Dir)) (hO₁₂.sl 0 rfl : Sl e_bool k₉ v₂ met3) rfl rfl c₁₁) (z8 (hO₁₂.ste (E := e_bool) (y := true) (ws := [.b true]) 0 rfl rfl (Zm c₁₁) rfl rfl ⟨rfl, Nat.le_of_ble_eq_true rfl, rfl⟩ rfl) ?_)))))
        rintro _ k₁₀ ⟨rfl, f₄, m₂, hW⟩
        have hO₁₃ : Own B h k₁₀ [eSl e_bool v₂ (met3.set ((4 * d.Cell) + d.Dir : Int).toNat true), eSl eV v₅ vs₄, eAll Ze vs₄ out2, eSl Ze v₇ f, eBox r₂ (Ze.c d)] := hW
        refine Zf (Zd (W_sq (W_rg (Za (a_mv (v := v₇) q₆_7) (Za (a_ldbA (cs := (Ze.c d)) (ws := Ze.c d) (hO₁₃.box 4 rfl) q₆_8 rfl) (z8 (hO₁₃.bsl (E := Ze) (l := [d]) hO₁₃.fr (by rw [(zq (v := .ag (Ze.c d)) rfl ev_nil)]; rfl) rfl) ?_))))))
        rintro v₉ k₁₁ ⟨r₃, f₅, hW⟩
        have hO₁₄ : Own B h k₁₁ [eSl e_bool v₂ (met3.set ((4 * d.Cell) + d.Dir : Int).toNat true), eSl eV v₅ vs₄, eAll Ze vs₄ out2, eSl Ze v₇ f, eBox r₂ (Ze.c d), eSl Ze v₉ [d]] := hW
        obtain ⟨c₁₂, hp⟩ := Zk hp
        refine z8 (hO₁₄.app (E := Ze) (bytes := 16) 3 hO₁₄.fr rfl (hO₁₄.sl 5 rfl : Sl Ze k₁₁ v₉ [d]) rfl rfl (fun _ => rfl) c₁₂ (by decide)) ?_
        rintro v₁₀ k₁₂ ⟨f₆, hW⟩
        have hO₁₅ : Own B h k₁₂ [eSl e_bool v₂ (met3.set ((4 * d.Cell) + d.Dir : Int).toNat true), eSl eV v₅ vs₄, eAll Ze vs₄ out2, eSl Ze v₁₀ (f ++ [d]), eBox r₂ (Ze.c d), eSl Ze v₉ [d]] := hW
        refine Za (a_mv (v := v₁₀) rfl) (Zf (Zd (W_rg (Za (a_mv (v := v_l) q₆_0) (Za (a_ldbA (cs := (Ze.c d)) (ws := Ze.c d) (hO₁₅.box 4 rfl) q₆_8 rfl) ?_)))))
        obtain ⟨x, hx₁, hp⟩ := Zv hp
        obtain ⟨u₁, k₁₃, ca₁, rfl, hW₁⟩ := zd.ok (h := k₁₂)  (hO₁₅.rd0 s_l.rd : Sl Zb k₁₂ v_l l) hx₁
        refine zS (id := 202) (caps := []) rfl (Z2 (v := v_l) rfl (Z2 (v := .ag (Ze.c d)) rfl zi)) ca₁ ?_
        have hO₁₆ : Own B h k₁₃ [eSl e_bool v₂ (met3.set ((4 * d.Cell) + d.Dir : Int).toNat true), eSl eV v₅ vs₄, eAll Ze vs₄ out2, eSl Ze v₁₀ (f ++ [d]), eBox r₂ (Ze.c d), eSl Ze v₉ [d]] := hO₁₅.call hW₁ rfl
        refine z8 (hO₁₆.stb (ws := Ze.c x) (cs' := Ze.c x) (v := .ag (Ze.c x)) 4 rfl q₆_8 rfl rfl ⟨rfl, Nat.le_of_ble_eq_true rfl, rfl⟩ rfl) ?_
        rintro _ k₁₄ ⟨rfl, f₇, m₃, hW⟩
        have hO₁₇ : Own B h k₁₄ [eSl e_bool v₂ (met3.set ((4 * d.Cell) + d.Dir : Int).toNat true), eSl eV v₅ vs₄, eAll Ze vs₄ out2, eSl Ze v₁₀ (f ++ [d]), eBox r₂ (Ze.c x), eSl Ze v₉ [d]] := hW
        refine Zf (z9 ?_)
        have hp := Option.some.inj hp; subst hp
        exact (Or.inl (Exists.intro (met3.set ((4 * d.Cell) + d.Dir : Int).toNat true, f ++ [d], x) (And.intro rfl (And.intro rfl (Exists.intro v₁₀ (And.intro (q₆_0) (And.intro (q₆_3) (And.intro (q₆_4) (And.intro (q₆_5) (And.intro (q₆_6) (And.intro (rfl) (And.intro (q₆_8) (hO₁₇.pick [0, 1, 2, 3, 4] rfl (by decide))))))))))))))
       ·refine W_cF (t := (!(gi met3 ((4 * d.Cell) + d.Dir : Int).toNat))) rfl b₅ ?_
        refine W_ex (zz ?_)
        have hp := Option.some.inj hp; subst hp
        refine (Or.inr (Exists.intro (met3, f) (And.intro rfl (And.intro (fun h => nomatch h) (fun he => ?_)))))
        subst he; exact (And.intro rfl (Exists.intro v₇ (And.intro (q₆_0) (And.intro (q₆_3) (And.intro (q₆_4) (And.intro (q₆_5) (And.intro (q₆_6) (And.intro (q₆_7) (hO₁₂.pick [0, 1, 2, 3] rfl (by decide))))))))))
      intro e₃ q₅ k₈ hJ₃
      obtain ⟨met4, f1⟩ := o₅
      obtain ⟨rfl, v₈, q₅_0, q₅_3, q₅_4, q₅_5, q₅_6, q₅_7, hO₁₀⟩ := hJ₃
      refine zI (Zd (W_rg (Za (a_mv (v := v₅) q₅_4) (Za (a_mv (v := v₈) q₅_7) (z8 (hO₁₀.bsl (E := eV) (l := [v₈]) hO₁₀.fr (by rw [(zq (v := v₈) rfl ev_nil)]; simp [fill, over, (hO₁₀.sl 3 rfl : Sl Ze k₈ v₈ f1).cells]) rfl) ?_)))))
      rintro v₁₁ k₁₅ ⟨r₄, f₈, hW⟩
      have hO₁₈ : Own B h k₁₅ [eSl e_bool v₂ met4, eSl eV v₅ vs₄, eAll Ze vs₄ out2, eSl Ze v₈ f1, eSl eV v₁₁ [v₈]] := hW
      obtain ⟨c₁₃, hp⟩ := Zk hp
      refine z8 (hO₁₈.appV (bytes := 24) 1 hO₁₈.fr rfl (hO₁₈.sl 4 rfl : Sl eV k₁₅ v₁₁ [v₈]) rfl rfl (by simp only [List.all_cons, List.all_nil, Bool.and_true]; exact (hO₁₈.sl 3 rfl : Sl Ze k₁₅ v₈ f1).oneV) (by rw [(hO₁₈.allLen 2 rfl : (vs₄).length = (out2).length)]; exact c₁₃) (by decide)) ?_
      rintro v₁₂ k₁₆ ⟨f₉, hW⟩
      have hO₁₉ : Own B h k₁₆ [eSl e_bool v₂ met4, eSl eV v₁₂ (vs₄ ++ [v₈]), eAll Ze vs₄ out2, eSl Ze v₈ f1, eSl eV v₁₁ [v₈]] := hW
      have hO₂₀ : Own B h k₁₆ [eSl e_bool v₂ met4, eSl eV v₁₂ (vs₄ ++ [v₈]), eAll Ze (vs₄ ++ [v₈]) (out2 ++ [f1]), eNone, eSl eV v₁₁ [v₈]] := hO₁₉.absorb 2 3 rfl rfl (by decide)
      refine Za (a_mv (v := v₁₂) rfl) (Zf (z9 (Zd (W_rg (Za (a_mv (v := .i .i64 e_) q₅_6) ?_)))))
      obtain ⟨c₁₄, hp⟩ := Zk hp
      refine Za (a_add (a := e_) (b := 1) rfl rfl c₁₄) (Za (a_mv (v := .i .i64 (e_ + 1)) rfl) (Zf ?_))
      have hp := Option.some.inj hp; subst hp
      exact (Or.inl (Exists.intro (met4, out2 ++ [f1], e_ + 1) (And.intro rfl (And.intro rfl (Exists.intro v₁₂ (Exists.intro (vs₄ ++ [v₈]) (And.intro (q₅_0) (And.intro (q₅_3) (And.intro (rfl) (And.intro (q₅_5) (And.intro (rfl) (hO₂₀.pick [0, 1, 2] rfl (by decide)))))))))))))
    ·refine W_cF (t := (decide (e_ < 4))) rfl b₂ ?_
     refine W_ex (zz ?_)
     have hp := Option.some.inj hp; subst hp
     refine (Or.inr (Exists.intro (met1, out2) (And.intro rfl (And.intro (fun h => nomatch h) (fun he => ?_)))))
     subst he; exact (And.intro rfl (Exists.intro v₅ (Exists.intro vs₄ (And.intro (q₄_0) (And.intro (q₄_3) (And.intro (q₄_4) (And.intro (q₄_5) (hO₇.pick [0, 1, 2] rfl (by decide)))))))))
   intro e₂ q₃ k₄ hJ₂
   obtain ⟨met2, out3⟩ := o₃
   obtain ⟨rfl, v₆, vs₅, q₃_0, q₃_3, q₃_4, q₃_5, hO₆⟩ := hJ₂
   refine zI (z9 (Zd (W_rg (Za (a_mv (v := .i .i64 v) q₃_5) ?_))))
   obtain ⟨c₁₅, hp⟩ := Zk hp
   refine Za (a_add (a := v) (b := 1) rfl rfl c₁₅) (Za (a_mv (v := .i .i64 (v + 1)) rfl) (Zf ?_))
   have hp := Option.some.inj hp; subst hp
   exact (Or.inl (Exists.intro (met2, out3, v + 1) (And.intro rfl (And.intro rfl (Exists.intro v₆ (Exists.intro vs₅ (And.intro (q₃_0) (And.intro (q₃_3) (And.intro (q₃_4) (And.intro (rfl) (hO₆.pick [0, 1, 2] rfl (by decide))))))))))))
  ·refine W_cF (t := (decide (v < (l.length : Int)))) rfl b₁ ?_
   refine W_ex (zz ?_)
   have hp := Option.some.inj hp; subst hp
   refine (Or.inr (Exists.intro out (And.intro rfl (And.intro (fun h => nomatch h) (fun he => ?_)))))
   subst he; exact (And.intro rfl (Exists.intro v₃ (Exists.intro vs₂ (And.intro (q₂_4) (hO₅.pick [1, 2] rfl (by decide))))))
 intro e₁ q₁ k₂ hJ₁
 obtain ⟨out1, rfl⟩ : ∃ x, x = o₁ := ⟨_, rfl⟩
 obtain ⟨rfl, v₄, vs₃, q₁_4, hO₂⟩ := hJ₁
 refine zI (Zd (W_sq (W_rg (Za (a_mv (v := v₄) q₁_4) (Za (a_mv (v := v₄) rfl) (Zf (Zd ?_)))))))
 refine W_rt (Ret_r (rs_t (n := 2) (v := v₄) rfl rs_nil) ?_)
 have hp := Option.some.inj hp; subst hp
 exact (Exists.intro v₄ (Exists.intro vs₃ (And.intro rfl (hO₂.pick [0, 1] rfl (by decide)))))

theorem zL.ok {h : Hp} {d : Int}   {r : Bool} (hp : zL d = some r) :
  ∃ u k', Is G 223 [.i .i64 d] h u k' ∧ V.b r = u ∧ Own (fun r => r < h.n) h k' [] := by
 refine WC.is (WC_of G_F_muntinref01_Good ?_)
 unfold zL at hp
 let B : Nat → Prop := (fun r => r < h.n)
 have hO : Own B h h [] := Own.start0 h
 refine W_sq (W_rg (Za (a_mv (v := .b false) rfl) (Zf (Zd (W_sq (W_rg (Za (a_mv (v := .i .i64 d) rfl) ?_)))))))
 refine Za (a_geq (a := d) (b := 0) rfl rfl) (Za (a_mv (v := .b (decide (0 ≤ d))) rfl) ?_)
 refine zB 3 (fun fr' k' => h = k' ∧ fr' 8 = .b ((decide (0 ≤ d)) && (decide (d ≤ 3)))) ?_ ?_
 ·rcases bc (decide (0 ≤ d)) with b₁ | b₁
  ·skip
   refine WO_on rfl b₁ (Za (a_mv (v := .i .i64 d) rfl) (WO_on rfl b₁ (Za (a_leq (a := d) (b := 3) rfl rfl) (Za (ZW (t := (decide (0 ≤ d))) (v := .b ((decide (0 ≤ d)) && (decide (d ≤ 3)))) rfl b₁ (Eq.trans (b := V.b (decide (d ≤ 3))) rfl (Zax b₁))) (Zf ?_)))))
   exact ⟨rfl, rfl⟩
  ·skip
   refine WO_off rfl b₁ (WO_off rfl b₁ (Za (ZT (t := (decide (0 ≤ d))) (v := .b ((decide (0 ≤ d)) && (decide (d ≤ 3)))) rfl b₁ (Eq.trans (b := V.b false) rfl (Zal b₁))) (Zf ?_)))
   exact ⟨rfl, rfl⟩
 rintro frg₁ _ ⟨rfl, g₁_8⟩
 refine Za (a_mv (v := .b ((decide (0 ≤ d)) && (decide (d ≤ 3)))) g₁_8) (Zf (Zd (W_rt (Ret_r (rs_t (n := 2) (v := .b ((decide (0 ≤ d)) && (decide (d ≤ 3)))) rfl rs_nil) ?_))))
 have hp := Option.some.inj hp; subst hp
 exact (And.intro rfl (hO.pick [] rfl (by decide)))

theorem zW.ok {h : Hp} {d : Int} {times : Int}   {r : Int} (hp : zW d times = some r) :
  ∃ u k', Is G 224 [.i .i64 d, .i .i64 times] h u k' ∧ V.i .i64 r = u ∧ Own (fun r => r < h.n) h k' [] := by
 refine WC.is (WC_of G_F_muntinref01_Left ?_)
 unfold zW at hp
 let B : Nat → Prop := (fun r => r < h.n)
 have hO : Own B h h [] := Own.start0 h
 refine W_sq (W_rg (Za (a_mv (v := .i .i64 0) rfl) (Zf (Zd (W_sq (W_rg (Za (a_mv (v := .i .i64 d) rfl) ?_)))))))
 obtain ⟨x, hx₁, hp⟩ := Zv hp
 obtain ⟨u₁, k₁, ca₁, rfl, hW₁⟩ := zL.ok (h := h)   hx₁
 refine zS (id := 223) (caps := []) rfl (Z2 (v := .i .i64 d) rfl zi) ca₁ ?_
 have hO₁ : Own B h k₁ [] := hO.call hW₁ rfl
 refine Za (a_mv (v := .b x) rfl) (Zf (Zd (W_sq (W_sq (W_rg (Za (a_mv (v := .b x) rfl) (Za (a_not (t := x) rfl) ?_)))))))
 refine Zf (Zd ?_)
 rcases Zu hp with ⟨b₁, hp⟩ | ⟨b₁, hp⟩
 ·refine W_cT (t := (!x)) rfl b₁ ?_
  refine W_sq (W_rg (Za (a_mv (v := .i .i64 0) rfl) (Zf (Zd (W_rt (zh (Ret_r (rs_t (n := 4) (v := .i .i64 0) rfl rs_nil) ?_)))))))
  have hp := Option.some.inj hp; subst hp
  exact (And.intro rfl (hO₁.pick [] rfl (by decide)))
 ·refine W_cF (t := (!x)) rfl b₁ ?_
  refine W_sk (Zd (W_sq (W_rg (Za (a_mv (v := .i .i64 times) rfl) (Za (a_rem (a := times) (b := 4) rfl rfl (by decide)) (Za (a_mv (v := .i .i64 (times.tmod 4)) rfl) (Zf ?_)))))))
  refine Zd (W_sq (W_sq (W_rg (Za (a_mv (v := .i .i64 (times.tmod 4)) rfl) (Za (a_lss (a := (times.tmod 4)) (b := 0) rfl rfl) (Zf (Zd ?_)))))))
  rcases Zu hp with ⟨b₂, hp⟩ | ⟨b₂, hp⟩
  ·refine W_cT (t := (decide ((times.tmod 4) < 0))) rfl b₂ ?_
   refine W_rg (Za (a_mv (v := .i .i64 (times.tmod 4)) rfl) ?_)
   obtain ⟨c₁, hp⟩ := Zk hp
   refine Za (a_add (a := (times.tmod 4)) (b := 4) rfl rfl c₁) (Za (a_mv (v := .i .i64 ((times.tmod 4) + 4)) rfl) (Zf (Zd (W_sq (W_rg (Za (a_mv (v := .i .i64 d) rfl) (Za (a_mv (v := .i .i64 ((times.tmod 4) + 4)) rfl) ?_)))))))
   obtain ⟨c₂, hp⟩ := Zk hp
   refine Za (a_add (a := d) (b := ((times.tmod 4) + 4)) rfl rfl c₂) (Za (a_rem (a := (d + ((times.tmod 4) + 4))) (b := 4) rfl rfl (by decide)) (Za (a_mv (v := .i .i64 ((d + ((times.tmod 4) + 4)).tmod 4)) rfl) (Zf (Zd (W_rt (Ret_r (rs_t (n := 4) (v := .i .i64 ((d + ((times.tmod 4) + 4)).tmod 4)) rfl rs_nil) ?_))))))
   have hp := Option.some.inj hp; subst hp
   exact (And.intro rfl (hO₁.pick [] rfl (by decide)))
  ·refine W_cF (t := (decide ((times.tmod 4) < 0))) rfl b₂ ?_
   refine W_sk (Zd (W_sq (W_rg (Za (a_mv (v := .i .i64 d) rfl) (Za (a_mv (v := .i .i64 (times.tmod 4)) rfl) ?_)))))
   obtain ⟨c₃, hp⟩ := Zk hp
   refine Za (a_add (a := d) (b := (times.tmod 4)) rfl rfl c₃) (Za (a_rem (a := (d + (times.tmod 4))) (b := 4) rfl rfl (by decide)) (Za (a_mv (v := .i .i64 ((d + (times.tmod 4)).tmod 4)) rfl) (Zf (Zd (W_rt (Ret_r (rs_t (n := 4) (v := .i .i64 ((d + (times.tmod 4)).tmod 4)) rfl rs_nil) ?_))))))
   have hp := Option.some.inj hp; subst hp
   exact (And.intro rfl (hO₁.pick [] rfl (by decide)))

theorem zV.ok {h : Hp} {d : Int} {e_ : Int}   {r : Int} (hp : zV d e_ = some r) :
  ∃ u k', Is G 207 [.i .i64 d, .i .i64 e_] h u k' ∧ V.i .i64 r = u ∧ Own (fun r => r < h.n) h k' [] := by
 refine WC.is (WC_of G_F_muntinref01_Turn ?_)
 unfold zV at hp
 let B : Nat → Prop := (fun r => r < h.n)
 have hO : Own B h h [] := Own.start0 h
 refine W_sq (W_rg (Za (a_mv (v := .i .i64 0) rfl) (Zf (Zd (W_sq (W_rg (Za (a_mv (v := .i .i64 d) rfl) ?_)))))))
 obtain ⟨x, hx₁, hp⟩ := Zv hp
 obtain ⟨u₁, k₁, ca₁, rfl, hW₁⟩ := zL.ok (h := h)   hx₁
 refine zS (id := 223) (caps := []) rfl (Z2 (v := .i .i64 d) rfl zi) ca₁ ?_
 have hO₁ : Own B h k₁ [] := hO.call hW₁ rfl
 refine Za (a_mv (v := .b x) rfl) (Zf (Zd (W_sq (W_rg (Za (a_mv (v := .i .i64 e_) rfl) ?_)))))
 obtain ⟨x1, hx₂, hp⟩ := Zv hp
 obtain ⟨u₂, k₂, ca₂, rfl, hW₂⟩ := zL.ok (h := k₁)   hx₂
 refine zS (id := 223) (caps := []) rfl (Z2 (v := .i .i64 e_) rfl zi) ca₂ ?_
 have hO₂ : Own B h k₂ [] := hO₁.call hW₂ rfl
 refine Za (a_mv (v := .b x1) rfl) (Zf (Zd (W_sq (W_sq (W_rg (Za (a_mv (v := .b x) rfl) (Za (a_not (t := x) rfl) ?_)))))))
 refine Za (a_mv (v := .b (!x)) rfl) ?_
 refine zB 3 (fun fr' k' => k₂ = k' ∧ fr' 17 = .b ((!x) || (!x1)) ∧ fr' 0 = .i .i64 d ∧ fr' 1 = .i .i64 e_) ?_ ?_
 ·rcases bc (!x) with b₁ | b₁
  ·skip
   refine WO_off rfl b₁ (WO_off rfl b₁ (Za (ZW (t := (!x)) (v := .b ((!x) || (!x1))) rfl b₁ (Eq.trans (b := V.b true) rfl (Zar b₁))) (Zf ?_)))
   exact ⟨rfl, rfl, rfl, rfl⟩
  ·skip
   refine WO_on rfl b₁ (Za (a_mv (v := .b x1) rfl) (WO_on rfl b₁ (Za (a_not (t := x1) rfl) (Za (ZT (t := (!x)) (v := .b ((!x) || (!x1))) rfl b₁ (Eq.trans (b := V.b (!x1)) rfl (Zaz b₁))) (Zf ?_)))))
   exact ⟨rfl, rfl, rfl, rfl⟩
 rintro frg₁ _ ⟨rfl, g₁_17, g₁_0, g₁_1⟩
 refine Za (a_mv (v := .b ((!x) || (!x1))) g₁_17) ?_
 refine zB 4 (fun fr' k' => k₂ = k' ∧ fr' 22 = .b (((!x) || (!x1)) || (decide (d = e_))) ∧ fr' 0 = .i .i64 d ∧ fr' 1 = .i .i64 e_) ?_ ?_
 ·rcases bc ((!x) || (!x1)) with b₂ | b₂
  ·skip
   refine WO_off rfl b₂ (WO_off rfl b₂ (WO_off rfl b₂ (Za (ZW (t := ((!x) || (!x1))) (v := .b (((!x) || (!x1)) || (decide (d = e_)))) rfl b₂ (Eq.trans (b := V.b true) rfl (Zar b₂))) (Zf ?_))))
   exact ⟨rfl, rfl, g₁_0, g₁_1⟩
  ·skip
   refine WO_on rfl b₂ (Za (a_mv (v := .i .i64 d) g₁_0) (WO_on rfl b₂ (Za (a_mv (v := .i .i64 e_) g₁_1) (WO_on rfl b₂ (Za (a_eqI (a := d) (b := e_) rfl rfl) (Za (ZT (t := ((!x) || (!x1))) (v := .b (((!x) || (!x1)) || (decide (d = e_)))) rfl b₂ (Eq.trans (b := V.b (decide (d = e_))) rfl (Zaz b₂))) (Zf ?_)))))))
   exact ⟨rfl, rfl, g₁_0, g₁_1⟩
 rintro frg₂ _ ⟨rfl, g₂_22, g₂_0, g₂_1⟩
 refine Zf (Zd ?_)
 rcases Zu hp with ⟨b₃, hp⟩ | ⟨b₃, hp⟩
 ·refine W_cT (t := (((!x) || (!x1)) || (decide (d = e_)))) g₂_22 b₃ ?_
  refine W_sq (W_rg (Za (a_mv (v := .i .i64 0) rfl) (Zf (Zd (W_rt (zh (Ret_r (rs_t (n := 4) (v := .i .i64 0) rfl rs_nil) ?_)))))))
  have hp := Option.some.inj hp; subst hp
  exact (And.intro rfl (hO₂.pick [] rfl (by decide)))
 ·refine W_cF (t := (((!x) || (!x1)) || (decide (d = e_)))) g₂_22 b₃ ?_
  refine W_sk (Zd (W_sq (W_rg (Za (a_mv (v := .i .i64 d) g₂_0) ?_))))
  obtain ⟨x2, hx₃, hp⟩ := Zv hp
  obtain ⟨u₃, k₃, ca₃, rfl, hW₃⟩ := zW.ok (h := k₂)   hx₃
  refine zS (id := 224) (caps := []) rfl (Z2 (v := .i .i64 d) rfl (Z2 (v := .i .i64 1) rfl zi)) ca₃ ?_
  have hO₃ : Own B h k₃ [] := hO₂.call hW₃ rfl
  refine Za (a_mv (v := .i .i64 x2) rfl) (Zf (Zd (W_sq (W_sq (W_rg (Za (a_mv (v := .i .i64 x2) rfl) (Za (a_mv (v := .i .i64 e_) g₂_1) ?_)))))))
  refine Za (a_eqI (a := x2) (b := e_) rfl rfl) (Zf (Zd ?_))
  rcases Zu hp with ⟨b₄, hp⟩ | ⟨b₄, hp⟩
  ·refine W_cT (t := (decide (x2 = e_))) rfl b₄ ?_
   refine W_sq (W_rg (Za (a_mv (v := .i .i64 1) rfl) (Zf (Zd (W_rt (zh (Ret_r (rs_t (n := 4) (v := .i .i64 1) rfl rs_nil) ?_)))))))
   have hp := Option.some.inj hp; subst hp
   exact (And.intro rfl (hO₃.pick [] rfl (by decide)))
  ·refine W_cF (t := (decide (x2 = e_))) rfl b₄ ?_
   refine W_sk (Zd (W_sq (W_rg (Za (a_mv (v := .i .i64 d) g₂_0) ?_))))
   obtain ⟨x3, hx₄, hp⟩ := Zv hp
   obtain ⟨u₄, k₄, ca₄, rfl, hW₄⟩ := zW.ok (h := k₃)   hx₄
   refine zS (id := 224) (caps := []) rfl (Z2 (v := .i .i64 d) rfl (Z2 (v := .i .i64 3) rfl zi)) ca₄ ?_
   have hO₄ : Own B h k₄ [] := hO₃.call hW₄ rfl
   refine Za (a_mv (v := .i .i64 x3) rfl) (Zf (Zd (W_sq (W_sq (W_rg (Za (a_mv (v := .i .i64 x3) rfl) (Za (a_mv (v := .i .i64 e_) g₂_1) ?_)))))))
   refine Za (a_eqI (a := x3) (b := e_) rfl rfl) (Zf (Zd ?_))
   rcases Zu hp with ⟨b₅, hp⟩ | ⟨b₅, hp⟩
   ·refine W_cT (t := (decide (x3 = e_))) rfl b₅ ?_
    refine W_sq (W_rg (Za (a_mv (v := .i .i64 (-1)) rfl) (Zf (Zd (W_rt (zh (Ret_r (rs_t (n := 4) (v := .i .i64 (-1)) rfl rs_nil) ?_)))))))
    have hp := Option.some.inj hp; subst hp
    exact (And.intro rfl (hO₄.pick [] rfl (by decide)))
   ·refine W_cF (t := (decide (x3 = e_))) rfl b₅ ?_
    refine W_sk (Zd (W_sq (W_rg (Za (a_mv (v := .i .i64 (-2)) rfl) (Zf (Zd (W_rt ?_)))))))
    refine Ret_r (rs_t (n := 4) (v := .i .i64 (-2)) rfl rs_nil) ?_
    have hp := Option.some.inj hp; subst hp
    exact (And.intro rfl (hO₄.pick [] rfl (by decide)))

theorem zp.ok {h : Hp} {l : List Zg} {f : List Zl} {v_l : V} {v_f : V} (s_l : Sl Zb h v_l l) (s_f : Sl Ze h v_f f) {r : (List Int)} (hp : zp l f = some r) :
  ∃ u k', Is G 182 [v_l, v_f] h u k' ∧ ∃ (v₁ : V), v₁ = u ∧ Own (fun r => r < h.n) h k' [eSl eInt v₁ r] := by
 refine WC.is (WC_of G_F_muntinref12_Turns ?_)
 unfold zp at hp
 let B : Nat → Prop := (fun r => r < h.n)
 have hO : Own B h h [] := Own.start0 h
 refine W_sq (W_rg (Za (a_mv (v := .sn) rfl) (Zf (Zd (W_sq (W_rg (Za (a_mv (v := .sn) rfl) ?_)))))))
 refine Zf (Zd (W_sq (W_sq (W_rg (Za (a_mv (v := .i .i64 0) rfl) (Zf (Zd ?_)))))))
 refine W_bl ?_
 obtain ⟨o₁, ho₁, hp⟩ := Zv hp
 refine W.mono (Q := fun e fr k => match (generalizing := false) o₁ with
   | out1 => e = (.exit 0) ∧ ∃ (v₃ : V), fr 5 = v₃ ∧ Own B h k [eSl eInt v₃ out1]) ?_ ?_
 ·clear hp
  have hO₂ : Own B h h [eSl eInt .sn ([] : List Int)] := hO.nil eInt
  refine zu (fun st fr k => match st with | (out, i) => ∃ (v₂ : V), fr 0 = v_l ∧ fr 1 = v_f ∧ fr 5 = v₂ ∧ fr 6 = .i .i64 i ∧ Own B h k [eSl eInt v₂ out]) ho₁ (s := (([] : List Int), 0)) (Exists.intro V.sn (And.intro (rfl) (And.intro (rfl) (And.intro (rfl) (And.intro (rfl) (hO₂.pick [0] rfl (by decide))))))) ?_
  rintro ⟨out, i⟩ q₂ k₂ ⟨v₂, q₂_0, q₂_1, q₂_5, q₂_6, hO₃⟩ o₂ hp
  dsimp only [zp.s0] at hp
  refine W_sq (W_sq (W_rg (Za (a_mv (v := .i .i64 i) q₂_6) (Za (a_mv (v := v_f) q₂_1) (Za (a_len (hO₃.rd0 s_f.rd : Sl Ze k₂ v_f f) rfl) (Za (a_lss (a := i) (b := (f.length : Int)) rfl rfl) (Zf ?_)))))))
  refine Zd ?_
  rcases Zu hp with ⟨b₁, hp⟩ | ⟨b₁, hp⟩
  ·refine W_cT (t := (decide (i < (f.length : Int)))) rfl b₁ ?_
   refine W_sk (Zd (W_sq (W_bl (W_sq (W_rg (Za (a_mv (v := v_l) q₂_0) (Za (a_mv (v := v_f) q₂_1) ?_)))))))
   refine Za (a_mv (v := .i .i64 i) q₂_6) ?_
   obtain ⟨c₁, hp⟩ := Zk hp
   refine Za (a_ixa (E := Ze) (z := i) (hO₃.rd0 s_f.rd : Sl Ze k₂ v_f f) rfl rfl c₁) (Za (Za7 (E := Ze) (hO₃.rd0 s_f.rd : Sl Ze k₂ v_f f) rfl (Zm c₁)) ?_)
   obtain ⟨x, hx₁, hp⟩ := Zv hp
   obtain ⟨u₁, k₃, ca₁, rfl, hW₁⟩ := zd.ok (h := k₂)  (hO₃.rd0 s_l.rd : Sl Zb k₂ v_l l) hx₁
   refine zS (id := 202) (caps := []) rfl (Z2 (v := v_l) rfl (Z2 (v := .ag (Ze.c (gi f (i : Int).toNat))) rfl zi)) ca₁ ?_
   have hO₄ : Own B h k₃ [eSl eInt v₂ out] := hO₃.call hW₁ rfl
   refine z8 (hO₄.alloc (cs := Ze.c (⟨0, 0⟩ : Zl)) hO₄.fr) ?_
   rintro _ k₄ ⟨r₁, rfl, n₁, f₁, hW⟩
   have hO₅ : Own B h k₄ [eSl eInt v₂ out, eBox r₁ (Ze.c (⟨0, 0⟩ : Zl))] := hW
   refine z8 (hO₅.stb (ws := Ze.c x) (cs' := Ze.c x) (v := .ag (Ze.c x)) 1 rfl rfl rfl rfl ⟨rfl, Nat.le_of_ble_eq_true rfl, rfl⟩ rfl) ?_
   rintro _ k₅ ⟨rfl, f₂, m₁, hW⟩
   have hO₆ : Own B h k₅ [eSl eInt v₂ out, eBox r₁ (Ze.c x)] := hW
   refine Zf (Zd (W_sq (W_dr ?_)))
   have hW := hO₆.bump 9
   have fr₁ := Fresh.start k₅ 9
   have nb₁ : ∀ {i : Nat}, h.n ≤ k₅.n + i := Nat.le_trans hO₆.n (Nat.le_add_right _ _)
   have hO₇ : Own B h (k₅.bump 9) [eSl eInt v₂ out, eBox r₁ (Ze.c x)] := hW
   refine zH (a_mv (v := v_f) q₂_1) (zH (a_mv (v := .i .i64 i) q₂_6) (zH (a_ixa (E := Ze) (z := i) (hO₇.rd0 s_f.rd : Sl Ze (k₅.bump 9) v_f f) rfl rfl c₁) (zH (zU (off' := 0) (off2 := 1) (hO₇.rd0 s_f.rd : Sl Ze (k₅.bump 9) v_f f) (Zm c₁) rfl rfl) (zH (z2 (w := .i .i64 ((gi f (i : Int).toNat).Dir)) (hO₇.rd0 s_f.rd : Sl Ze (k₅.bump 9) v_f f) rfl (Zm c₁) rfl) (zH (a_fa (r := r₁) (o := 0) (o' := 1) rfl rfl) (zH (Zaf (cs := (Ze.c x)) (v := .i .i64 x.Dir) (hO₇.box 1 rfl) rfl rfl) ?_))))))
   obtain ⟨x1, hx₂, hp⟩ := Zv hp
   obtain ⟨u₂, k₇, ca₂, rfl, hW₂⟩ := zV.ok (h := (k₅.bump 9))   hx₂
   refine WD_c (id := 207) (caps := []) rfl (Z2 (v := .i .i64 ((gi f (i : Int).toNat).Dir)) rfl (Z2 (v := .i .i64 x.Dir) rfl zi)) ca₂ ?_
   have fr₂ := fr₁.call hW₂
   have hO₈ : Own B h k₇ [eSl eInt v₂ out, eBox r₁ (Ze.c x)] := hO₇.call hW₂ rfl
   refine zH (a_mv (v := .i .i64 x1) rfl) (WD_end ?_)
   refine And.intro ?_ ?_
   ·intro q hq
    simp only [List.mem_cons, List.not_mem_nil, or_false] at hq
    rcases hq with rfl
    ·refine ap_ll ?_ ?_
     ·exact (fun h => nomatch h)
     ·exact (fun h => nomatch h)
   refine Zd (W_rg (Za (a_mv (v := v₂) q₂_5) (Za (a_mv (v := .i .i64 x1) rfl) (z8 (hO₈.bsl (E := eInt) (l := [x1]) hO₈.fr (by rw [(zq (v := .i .i64 x1) rfl ev_nil)]; rfl) rfl) ?_))))
   rintro v₄ k₈ ⟨r₂, f₃, hW⟩
   have hO₉ : Own B h k₈ [eSl eInt v₂ out, eBox r₁ (Ze.c x), eSl eInt v₄ [x1]] := hW
   obtain ⟨c₂, hp⟩ := Zk hp
   refine z8 (hO₉.app (E := eInt) (bytes := 8) 0 hO₉.fr rfl (hO₉.sl 2 rfl : Sl eInt k₈ v₄ [x1]) rfl rfl (fun _ => rfl) c₂ (by decide)) ?_
   rintro v₅ k₉ ⟨f₄, hW⟩
   have hO₁₀ : Own B h k₉ [eSl eInt v₅ (out ++ [x1]), eBox r₁ (Ze.c x), eSl eInt v₄ [x1]] := hW
   refine Za (a_mv (v := v₅) rfl) (Zf (z9 (Zd (W_rg (Za (a_mv (v := .i .i64 i) q₂_6) ?_)))))
   obtain ⟨c₃, hp⟩ := Zk hp
   refine Za (a_add (a := i) (b := 1) rfl rfl c₃) (Za (a_mv (v := .i .i64 (i + 1)) rfl) (Zf ?_))
   have hp := Option.some.inj hp; subst hp
   exact (Or.inl (Exists.intro (out ++ [x1], i + 1) (And.intro rfl (And.intro rfl (Exists.intro v₅ (And.intro (q₂_0) (And.intro (q₂_1) (And.intro (rfl) (And.intro (rfl) (hO₁₀.pick [0] rfl (by decide)))))))))))
  ·refine W_cF (t := (decide (i < (f.length : Int)))) rfl b₁ ?_
   refine W_ex (zz ?_)
   have hp := Option.some.inj hp; subst hp
   refine (Or.inr (Exists.intro out (And.intro rfl (And.intro (fun h => nomatch h) (fun he => ?_)))))
   subst he; exact (And.intro rfl (Exists.intro v₂ (And.intro (q₂_5) (hO₃.pick [0] rfl (by decide)))))
 intro e₁ q₁ k₁ hJ₁
 obtain ⟨out1, rfl⟩ : ∃ x, x = o₁ := ⟨_, rfl⟩
 obtain ⟨rfl, v₃, q₁_5, hO₁⟩ := hJ₁
 refine zI (Zd (W_sq (W_rg (Za (a_mv (v := v₃) q₁_5) (Za (a_mv (v := v₃) rfl) (Zf (Zd ?_)))))))
 refine W_rt (Ret_r (rs_t (n := 4) (v := v₃) rfl rs_nil) ?_)
 have hp := Option.some.inj hp; subst hp
 exact (Exists.intro v₃ (And.intro rfl (hO₁.pick [0] rfl (by decide))))

theorem zn.ok {h : Hp} {t : List Int} {v_t : V} (s_t : Sl eInt h v_t t) {r : Int} (hp : zn t = some r) :
  ∃ u k', Is G 206 [v_t] h u k' ∧ V.i .i64 r = u ∧ Own (fun r => r < h.n) h k' [] := by
 refine WC.is (WC_of G_F_muntinref12_Rotation ?_)
 unfold zn at hp
 let B : Nat → Prop := (fun r => r < h.n)
 have hO : Own B h h [] := Own.start0 h
 refine W_sq (W_rg (Za (a_mv (v := .i .i64 0) rfl) (Zf (Zd (W_sq (W_rg (Za (a_mv (v := .i .i64 0) rfl) ?_)))))))
 refine Zf (Zd (W_sq (W_sq (W_rg (Za (a_mv (v := .i .i64 0) rfl) (Zf (Zd ?_)))))))
 refine W_bl ?_
 obtain ⟨o₁, ho₁, hp⟩ := Zv hp
 refine W.mono (Q := fun e fr k => match (generalizing := false) o₁ with
   | n1 => e = (.exit 0) ∧ fr 3 = .i .i64 n1 ∧ Own B h k []) ?_ ?_
 ·clear hp
  refine zu (fun st fr k => match st with | (n, i) => fr 0 = v_t ∧ fr 3 = .i .i64 n ∧ fr 4 = .i .i64 i ∧ Own B h k []) ho₁ (s := (0, 0)) (And.intro (rfl) (And.intro (rfl) (And.intro (rfl) (hO.pick [] rfl (by decide))))) ?_
  rintro ⟨n, i⟩ q₂ k₂ ⟨q₂_0, q₂_3, q₂_4, hO₂⟩ o₂ hp
  dsimp only [zn.s0] at hp
  refine W_sq (W_sq (W_rg (Za (a_mv (v := .i .i64 i) q₂_4) (Za (a_mv (v := v_t) q₂_0) (Za (a_len (hO₂.rd0 s_t.rd : Sl eInt k₂ v_t t) rfl) (Za (a_lss (a := i) (b := (t.length : Int)) rfl rfl) (Zf ?_)))))))
  refine Zd ?_
  rcases Zu hp with ⟨b₁, hp⟩ | ⟨b₁, hp⟩
  ·refine W_cT (t := (decide (i < (t.length : Int)))) rfl b₁ ?_
   refine W_sk (Zd (W_sq (W_bl (W_sq (W_rg (Za (a_mv (v := v_t) q₂_0) (Za (a_mv (v := .i .i64 i) q₂_4) ?_)))))))
   obtain ⟨c₁, hp⟩ := Zk hp
   refine Za (a_ixa (E := eInt) (z := i) (hO₂.rd0 s_t.rd : Sl eInt k₂ v_t t) rfl rfl c₁) (Za (z2 (w := .i .i64 (gi t (i : Int).toNat)) (hO₂.rd0 s_t.rd : Sl eInt k₂ v_t t) rfl (Zm c₁) rfl) (Za (a_geq (a := (gi t (i : Int).toNat)) (b := (-2)) rfl rfl) (Za (a_mv (v := .b (decide ((-2) ≤ (gi t (i : Int).toNat)))) rfl) ?_)))
   refine zB 6 (fun fr' k' => k₂ = k' ∧ fr' 22 = .b ((decide ((-2) ≤ (gi t (i : Int).toNat))) && (decide ((gi t (i : Int).toNat) ≤ 1))) ∧ fr' 0 = v_t ∧ fr' 3 = .i .i64 n ∧ fr' 4 = .i .i64 i) ?_ ?_
   ·rcases bc (decide ((-2) ≤ (gi t (i : Int).toNat))) with b₂ | b₂
    ·skip
     refine WO_on rfl b₂ (Za (a_mv (v := v_t) q₂_0) (WO_on rfl b₂ (Za (a_mv (v := .i .i64 i) q₂_4) (WO_on rfl b₂ (Za (a_ixa (E := eInt) (z := i) (hO₂.rd0 s_t.rd : Sl eInt k₂ v_t t) rfl rfl c₁) (WO_on rfl b₂ (Za (z2 (w := .i .i64 (gi t (i : Int).toNat)) (hO₂.rd0 s_t.rd : Sl eInt k₂ v_t t) rfl (Zm c₁) rfl) ?_)))))))
     refine WO_on rfl b₂ (Za (a_leq (a := (gi t (i : Int).toNat)) (b := 1) rfl rfl) (Za (ZW (t := (decide ((-2) ≤ (gi t (i : Int).toNat)))) (v := .b ((decide ((-2) ≤ (gi t (i : Int).toNat))) && (decide ((gi t (i : Int).toNat) ≤ 1)))) rfl b₂ (Eq.trans (b := V.b (decide ((gi t (i : Int).toNat) ≤ 1))) rfl (Zax b₂))) (Zf ?_)))
     exact ⟨rfl, rfl, q₂_0, q₂_3, q₂_4⟩
    ·skip
     refine WO_off rfl b₂ (WO_off rfl b₂ (WO_off rfl b₂ (WO_off rfl b₂ (WO_off rfl b₂ (Za (ZT (t := (decide ((-2) ≤ (gi t (i : Int).toNat)))) (v := .b ((decide ((-2) ≤ (gi t (i : Int).toNat))) && (decide ((gi t (i : Int).toNat) ≤ 1)))) rfl b₂ (Eq.trans (b := V.b false) rfl (Zal b₂))) (Zf ?_))))))
     exact ⟨rfl, rfl, q₂_0, q₂_3, q₂_4⟩
   rintro frg₁ _ ⟨rfl, g₁_22, g₁_0, g₁_3, g₁_4⟩
   refine Zf (Zd ?_)
   rcases Zu hp with ⟨b₃, hp⟩ | ⟨b₃, hp⟩
   ·refine W_cT (t := ((decide ((-2) ≤ (gi t (i : Int).toNat))) && (decide ((gi t (i : Int).toNat) ≤ 1)))) g₁_22 b₃ ?_
    refine W_rg (Za (a_mv (v := .i .i64 n) g₁_3) (Za (a_mv (v := v_t) g₁_0) (Za (a_mv (v := .i .i64 i) g₁_4) (Za (a_ixa (E := eInt) (z := i) (hO₂.rd0 s_t.rd : Sl eInt k₂ v_t t) rfl rfl c₁) (Za (z2 (w := .i .i64 (gi t (i : Int).toNat)) (hO₂.rd0 s_t.rd : Sl eInt k₂ v_t t) rfl (Zm c₁) rfl) ?_)))))
    obtain ⟨c₂, hp⟩ := Zk hp
    refine Za (a_add (a := n) (b := (gi t (i : Int).toNat)) rfl rfl c₂) (Za (a_mv (v := .i .i64 (n + (gi t (i : Int).toNat))) rfl) (Zf (z9 (Zd (W_rg (Za (a_mv (v := .i .i64 i) g₁_4) ?_))))))
    obtain ⟨c₃, hp⟩ := Zk hp
    refine Za (a_add (a := i) (b := 1) rfl rfl c₃) (Za (a_mv (v := .i .i64 (i + 1)) rfl) (Zf ?_))
    have hp := Option.some.inj hp; subst hp
    exact (Or.inl (Exists.intro (n + (gi t (i : Int).toNat), i + 1) (And.intro rfl (And.intro rfl (And.intro (g₁_0) (And.intro (rfl) (And.intro (rfl) (hO₂.pick [] rfl (by decide)))))))))
   ·refine W_cF (t := ((decide ((-2) ≤ (gi t (i : Int).toNat))) && (decide ((gi t (i : Int).toNat) ≤ 1)))) g₁_22 b₃ ?_
    refine W_sk (z9 (Zd (W_rg (Za (a_mv (v := .i .i64 i) g₁_4) ?_))))
    obtain ⟨c₄, hp⟩ := Zk hp
    refine Za (a_add (a := i) (b := 1) rfl rfl c₄) (Za (a_mv (v := .i .i64 (i + 1)) rfl) (Zf ?_))
    have hp := Option.some.inj hp; subst hp
    exact (Or.inl (Exists.intro (n, i + 1) (And.intro rfl (And.intro rfl (And.intro (g₁_0) (And.intro (g₁_3) (And.intro (rfl) (hO₂.pick [] rfl (by decide)))))))))
  ·refine W_cF (t := (decide (i < (t.length : Int)))) rfl b₁ ?_
   refine W_ex (zz ?_)
   have hp := Option.some.inj hp; subst hp
   refine (Or.inr (Exists.intro n (And.intro rfl (And.intro (fun h => nomatch h) (fun he => ?_)))))
   subst he; exact (And.intro rfl (And.intro (q₂_3) (hO₂.pick [] rfl (by decide))))
 intro e₁ q₁ k₁ hJ₁
 obtain ⟨n1, rfl⟩ : ∃ x, x = o₁ := ⟨_, rfl⟩
 obtain ⟨rfl, q₁_3, hO₁⟩ := hJ₁
 refine zI (Zd (W_sq (W_rg (Za (a_mv (v := .i .i64 n1) q₁_3) (Za (a_mv (v := .i .i64 n1) rfl) (Zf (Zd ?_)))))))
 refine W_rt (Ret_r (rs_t (n := 2) (v := .i .i64 n1) rfl rs_nil) ?_)
 have hp := Option.some.inj hp; subst hp
 exact (And.intro rfl (hO₁.pick [] rfl (by decide)))

theorem zt.ok {h : Hp} {l : List Zg} {v_l : V} (s_l : Sl Zb h v_l l) {r : Int × Int} (hp : zt l = some r) :
  ∃ u k', Is G 181 [v_l] h u k' ∧ V.tu [.i .i64 r.1, .i .i64 r.2] = u ∧ Own (fun r => r < h.n) h k' [] := by
 refine WC.is (WC_of G_F_muntinref14_Outer ?_)
 unfold zt at hp
 let B : Nat → Prop := (fun r => r < h.n)
 have hO : Own B h h [] := Own.start0 h
 refine W_sq (W_rg (Za (a_mv (v := .i .i64 0) rfl) (Za (a_mv (v := .i .i64 0) rfl) (Zf (Zd (W_sq (W_rg ?_)))))))
 refine Za (a_mv (v := v_l) rfl) ?_
 obtain ⟨x, hx₁, hp⟩ := Zv hp
 obtain ⟨u₁, k₁, ca₁, rfl, hW₁⟩ := ZR.ok (h := h)  (hO.rd0 s_l.rd : Sl Zb h v_l l) hx₁
 refine zS (id := 34) (caps := []) rfl (Z2 (v := v_l) rfl zi) ca₁ ?_
 have hO₁ : Own B h k₁ [] := hO.call hW₁ rfl
 refine Za (a_mv (v := .i .i64 x) rfl) (Zf (Zd (W_sq (W_sq (W_rg (Za (a_mv (v := .i .i64 x) rfl) (Za (a_neI (a := x) (b := 0) rfl rfl) ?_)))))))
 refine Zf (Zd ?_)
 rcases Zu hp with ⟨b₁, hp⟩ | ⟨b₁, hp⟩
 ·refine W_cT (t := (!(decide (x = 0)))) rfl b₁ ?_
  refine W_sq (W_rg (Za (a_mv (v := .i .i64 x) rfl) (Za (a_mv (v := .i .i64 (-1)) rfl) (Za (a_mv (v := .i .i64 x) rfl) (Zf (Zd (W_rt ?_)))))))
  refine zh (Ret_r (rs_t (n := 2) (v := .i .i64 (-1)) rfl (rs_t (n := 3) (v := .i .i64 x) rfl rs_nil)) ?_)
  have hp := Option.some.inj hp; subst hp
  exact (And.intro rfl (hO₁.pick [] rfl (by decide)))
 ·refine W_cF (t := (!(decide (x = 0)))) rfl b₁ ?_
  refine W_sk (Zd (W_sq (W_rg (Za (a_mv (v := v_l) rfl) ?_))))
  obtain ⟨x1, hx₂, hp⟩ := Zv hp
  obtain ⟨u₂, k₂, ca₂, v₁, vs₁, rfl, hW₂⟩ := ZU.ok (h := k₁)  (hO₁.rd0 s_l.rd : Sl Zb k₁ v_l l) hx₂
  refine zS (id := 30) (caps := []) rfl (Z2 (v := v_l) rfl zi) ca₂ ?_
  have hO₂ : Own B h k₂ [eSl eV v₁ vs₁, eAll eInt vs₁ x1] := hO₁.call hW₂ rfl
  refine Za (a_mv (v := v₁) rfl) (Zf (Zd (W_sq (W_sq (W_rg (Za (a_mv (v := v₁) rfl) (Za (a_lenN (n := (x1).length) (hO₂.sl 0 rfl : Sl eV k₂ v₁ vs₁) (hO₂.allLen 1 rfl : (vs₁).length = (x1).length) rfl) ?_)))))))
  refine Za (a_neI (a := (x1.length : Int)) (b := 1) rfl rfl) (Zf (Zd ?_))
  rcases Zu hp with ⟨b₂, hp⟩ | ⟨b₂, hp⟩
  ·refine W_cT (t := (!(decide ((x1.length : Int) = 1)))) rfl b₂ ?_
   refine W_sq (W_rg (Za (a_mv (v := .i .i64 (-1)) rfl) (Za (a_mv (v := .i .i64 13) rfl) (Zf (Zd (W_rt (zh ?_)))))))
   refine Ret_r (rs_t (n := 2) (v := .i .i64 (-1)) rfl (rs_t (n := 3) (v := .i .i64 13) rfl rs_nil)) ?_
   have hp := Option.some.inj hp; subst hp
   exact (And.intro rfl (hO₂.pick [] rfl (by decide)))
  ·refine W_cF (t := (!(decide ((x1.length : Int) = 1)))) rfl b₂ ?_
   refine W_sk (Zd (W_sq (W_sq (W_rg (Za (a_mv (v := v_l) rfl) (Za (a_len (hO₂.rd0 s_l.rd : Sl Zb k₂ v_l l) rfl) (Za (a_eqI (a := (l.length : Int)) (b := 1) rfl rfl) ?_)))))))
   refine Zf (Zd ?_)
   rcases Zu hp with ⟨b₃, hp⟩ | ⟨b₃, hp⟩
   ·refine W_cT (t := (decide ((l.length : Int) = 1))) rfl b₃ ?_
    refine W_sq (W_rg (Za (a_mv (v := .i .i64 (-1)) rfl) (Za (a_mv (v := .i .i64 0) rfl) (Zf (Zd (W_rt (zh ?_)))))))
    refine Ret_r (rs_t (n := 2) (v := .i .i64 (-1)) rfl (rs_t (n := 3) (v := .i .i64 0) rfl rs_nil)) ?_
    have hp := Option.some.inj hp; subst hp
    exact (And.intro rfl (hO₂.pick [] rfl (by decide)))
   ·refine W_cF (t := (decide ((l.length : Int) = 1))) rfl b₃ ?_
    refine W_sk (Zd (W_sq (W_rg (Za (a_mv (v := v_l) rfl) ?_))))
    obtain ⟨x2, hx₃, hp⟩ := Zv hp
    obtain ⟨u₃, k₃, ca₃, v₂, vs₂, rfl, hW₃⟩ := Z9.ok (h := k₂)  (hO₂.rd0 s_l.rd : Sl Zb k₂ v_l l) hx₃
    refine zS (id := 177) (caps := []) rfl (Z2 (v := v_l) rfl zi) ca₃ ?_
    have hO₃ : Own B h k₃ [eSl eV v₁ vs₁, eAll eInt vs₁ x1, eSl eV v₂ vs₂, eAll Ze vs₂ x2] := hO₂.call hW₃ rfl
    refine Za (a_mv (v := v₂) rfl) (Zf (Zd (W_sq (W_rg (Za (a_mv (v := .i .i64 (-1)) rfl) (Zf (Zd ?_)))))))
    refine W_sq (W_sq (W_rg (Za (a_mv (v := .i .i64 0) rfl) (Zf (Zd (W_bl ?_))))))
    obtain ⟨o₁, ho₁, hp⟩ := Zv hp
    refine W.mono (Q := fun e fr k => match (generalizing := false) o₁ with
      | .inl at_1 => e = (.exit 0) ∧ fr 7 = .i .i64 at_1 ∧ Own B h k []
      | .inr _ => e = .ret ∧ fr 2 = .i .i64 (-1) ∧ fr 3 = .i .i64 10 ∧ Own B h k []) ?_ ?_
    ·clear hp
     refine zu (fun st fr k => match st with | (at_, i) => fr 0 = v_l ∧ fr 6 = v₂ ∧ fr 7 = .i .i64 at_ ∧ fr 8 = .i .i64 i ∧ Own B h k [eSl eV v₂ vs₂, eAll Ze vs₂ x2]) ho₁ (s := ((-1), 0)) (And.intro (rfl) (And.intro (rfl) (And.intro (rfl) (And.intro (rfl) (hO₃.pick [2, 3] rfl (by decide)))))) ?_
     rintro ⟨at_, i⟩ q₂ k₅ ⟨q₂_0, q₂_6, q₂_7, q₂_8, hO₅⟩ o₂ hp
     dsimp only [zt.s0] at hp
     refine W_sq (W_sq (W_rg (Za (a_mv (v := .i .i64 i) q₂_8) (Za (a_mv (v := v₂) q₂_6) (Za (a_lenN (n := (x2).length) (hO₅.sl 0 rfl : Sl eV k₅ v₂ vs₂) (hO₅.allLen 1 rfl : (vs₂).length = (x2).length) rfl) (Za (a_lss (a := i) (b := (x2.length : Int)) rfl rfl) (Zf ?_)))))))
     refine Zd ?_
     rcases Zu hp with ⟨b₄, hp⟩ | ⟨b₄, hp⟩
     ·refine W_cT (t := (decide (i < (x2.length : Int)))) rfl b₄ ?_
      refine W_sk (Zd (W_sq (W_bl (W_sq (W_rg (Za (a_mv (v := v_l) q₂_0) (Za (a_mv (v := v₂) q₂_6) ?_)))))))
      refine Za (a_mv (v := .i .i64 i) q₂_8) ?_
      obtain ⟨c₁, hp⟩ := Zk hp
      refine Za (a_ixa (E := eV) (z := i) (hO₅.sl 0 rfl : Sl eV k₅ v₂ vs₂) rfl rfl (by rw [(hO₅.allLen 1 rfl : (vs₂).length = (x2).length)]; exact c₁)) (Za (z2 (w := (gi vs₂ (i : Int).toNat)) (hO₅.sl 0 rfl : Sl eV k₅ v₂ vs₂) rfl (by rw [(hO₅.allLen 1 rfl : (vs₂).length = (x2).length)]; exact Zm c₁) rfl) ?_)
      obtain ⟨x3, hx₄, hp⟩ := Zv hp
      obtain ⟨u₄, k₆, ca₄, v₃, rfl, hW₄⟩ := zp.ok (h := k₅)  (hO₅.rd0 s_l.rd : Sl Zb k₅ v_l l) (hO₅.inn 1 rfl (Zm c₁) : Sl Ze k₅ (gi vs₂ (i : Int).toNat) (gi x2 (i : Int).toNat)) hx₄
      refine zS (id := 182) (caps := []) rfl (Z2 (v := v_l) rfl (Z2 (v := (gi vs₂ (i : Int).toNat)) rfl zi)) ca₄ ?_
      have hO₆ : Own B h k₆ [eSl eV v₂ vs₂, eAll Ze vs₂ x2, eSl eInt v₃ x3] := hO₅.call hW₄ rfl
      refine Za (a_mv (v := v₃) rfl) (Zf (Zd (W_sq (W_rg (Za (a_mv (v := v₃) rfl) ?_)))))
      obtain ⟨x4, hx₅, hp⟩ := Zv hp
      obtain ⟨u₅, k₇, ca₅, rfl, hW₅⟩ := zn.ok (h := k₆)  (hO₆.sl 2 rfl : Sl eInt k₆ v₃ x3) hx₅
      refine zS (id := 206) (caps := []) rfl (Z2 (v := v₃) rfl zi) ca₅ ?_
      have hO₇ : Own B h k₇ [eSl eV v₂ vs₂, eAll Ze vs₂ x2, eSl eInt v₃ x3] := hO₆.call hW₅ rfl
      refine Za (a_mv (v := .i .i64 x4) rfl) (Zf (Zd (W_sq (W_sq (W_rg (Za (a_mv (v := .i .i64 x4) rfl) (Za (a_neI (a := x4) (b := 4) rfl rfl) ?_)))))))
      refine Za (a_mv (v := .b (!(decide (x4 = 4)))) rfl) ?_
      refine zB 3 (fun fr' k' => k₇ = k' ∧ fr' 45 = .b ((!(decide (x4 = 4))) && (!(decide (x4 = (-4))))) ∧ fr' 0 = v_l ∧ fr' 10 = .i .i64 x4 ∧ fr' 6 = v₂ ∧ fr' 7 = .i .i64 at_ ∧ fr' 8 = .i .i64 i) ?_ ?_
      ·rcases bc (!(decide (x4 = 4))) with b₅ | b₅
       ·skip
        refine WO_on rfl b₅ (Za (a_mv (v := .i .i64 x4) rfl) (WO_on rfl b₅ (Za (a_neI (a := x4) (b := (-4)) rfl rfl) (Za (ZW (t := (!(decide (x4 = 4)))) (v := .b ((!(decide (x4 = 4))) && (!(decide (x4 = (-4)))))) rfl b₅ (Eq.trans (b := V.b (!(decide (x4 = (-4))))) rfl (Zax b₅))) (Zf ?_)))))
        exact ⟨rfl, rfl, q₂_0, rfl, q₂_6, q₂_7, q₂_8⟩
       ·skip
        refine WO_off rfl b₅ (WO_off rfl b₅ (Za (ZT (t := (!(decide (x4 = 4)))) (v := .b ((!(decide (x4 = 4))) && (!(decide (x4 = (-4)))))) rfl b₅ (Eq.trans (b := V.b false) rfl (Zal b₅))) (Zf ?_)))
        exact ⟨rfl, rfl, q₂_0, rfl, q₂_6, q₂_7, q₂_8⟩
      rintro frg₁ _ ⟨rfl, g₁_45, g₁_0, g₁_10, g₁_6, g₁_7, g₁_8⟩
      refine Za (a_mv (v := .b ((!(decide (x4 = 4))) && (!(decide (x4 = (-4)))))) g₁_45) ?_
      refine zB 7 (fun fr' k' => k₇ = k' ∧ fr' 53 = .b (((!(decide (x4 = 4))) && (!(decide (x4 = (-4))))) || ((decide (x4 = (-4))) && (decide (0 ≤ at_)))) ∧ fr' 0 = v_l ∧ fr' 10 = .i .i64 x4 ∧ fr' 6 = v₂ ∧ fr' 7 = .i .i64 at_ ∧ fr' 8 = .i .i64 i) ?_ ?_
      ·rcases bc ((!(decide (x4 = 4))) && (!(decide (x4 = (-4))))) with b₆ | b₆
       ·skip
        refine WO_off rfl b₆ (WO_off rfl b₆ (WO_off rfl b₆ (WO_un rfl (WO_un rfl (WO_off rfl b₆ (Za (ZW (t := ((!(decide (x4 = 4))) && (!(decide (x4 = (-4)))))) (v := .b (((!(decide (x4 = 4))) && (!(decide (x4 = (-4))))) || ((decide (x4 = (-4))) && (decide (0 ≤ at_))))) rfl b₆ (Eq.trans (b := V.b true) rfl (Zar b₆))) (Zf ?_)))))))
        exact ⟨rfl, rfl, g₁_0, g₁_10, g₁_6, g₁_7, g₁_8⟩
       ·skip
        refine WO_on rfl b₆ (Za (a_mv (v := .i .i64 x4) g₁_10) (WO_on rfl b₆ (Za (a_eqI (a := x4) (b := (-4)) rfl rfl) (WO_on rfl b₆ (Za (a_mv (v := .b (decide (x4 = (-4)))) rfl) ?_)))))
        refine zB 3 (fun fr' k' => k₇ = k' ∧ fr' 52 = .b ((decide (x4 = (-4))) && (decide (0 ≤ at_))) ∧ fr' 0 = v_l ∧ fr' 10 = .i .i64 x4 ∧ fr' 46 = .b ((!(decide (x4 = 4))) && (!(decide (x4 = (-4))))) ∧ fr' 6 = v₂ ∧ fr' 7 = .i .i64 at_ ∧ fr' 8 = .i .i64 i) ?_ ?_
        ·rcases bc (decide (x4 = (-4))) with b₇ | b₇
         ·skip
          refine WO_on rfl b₇ (Za (a_mv (v := .i .i64 at_) g₁_7) (WO_on rfl b₇ (Za (a_geq (a := at_) (b := 0) rfl rfl) (WO_on rfl b₆ (Za (ZW (t := (decide (x4 = (-4)))) (v := .b ((decide (x4 = (-4))) && (decide (0 ≤ at_)))) rfl b₇ (Eq.trans (b := V.b (decide (0 ≤ at_))) rfl (Zax b₇))) (Zf ?_))))))
          exact ⟨rfl, rfl, g₁_0, g₁_10, rfl, g₁_6, g₁_7, g₁_8⟩
         ·skip
          refine WO_off rfl b₇ (WO_off rfl b₇ (WO_on rfl b₆ (Za (ZT (t := (decide (x4 = (-4)))) (v := .b ((decide (x4 = (-4))) && (decide (0 ≤ at_)))) rfl b₇ (Eq.trans (b := V.b false) rfl (Zal b₇))) (Zf ?_))))
          exact ⟨rfl, rfl, g₁_0, g₁_10, rfl, g₁_6, g₁_7, g₁_8⟩
        rintro frg₂ _ ⟨rfl, g₂_52, g₂_0, g₂_10, g₂_46, g₂_6, g₂_7, g₂_8⟩
        refine Za (ZT (t := ((!(decide (x4 = 4))) && (!(decide (x4 = (-4)))))) (v := .b (((!(decide (x4 = 4))) && (!(decide (x4 = (-4))))) || ((decide (x4 = (-4))) && (decide (0 ≤ at_))))) g₂_46 b₆ (Eq.trans (b := V.b ((decide (x4 = (-4))) && (decide (0 ≤ at_)))) g₂_52 (Zaz b₆))) (Zf ?_)
        exact ⟨rfl, rfl, g₂_0, g₂_10, g₂_6, g₂_7, g₂_8⟩
      rintro frg₃ _ ⟨rfl, g₃_53, g₃_0, g₃_10, g₃_6, g₃_7, g₃_8⟩
      refine Zf (Zd ?_)
      rcases Zu hp with ⟨b₈, hp⟩ | ⟨b₈, hp⟩
      ·refine W_cT (t := (((!(decide (x4 = 4))) && (!(decide (x4 = (-4))))) || ((decide (x4 = (-4))) && (decide (0 ≤ at_))))) g₃_53 b₈ ?_
       refine W_sq (W_rg (Za (a_mv (v := .i .i64 (-1)) rfl) (Za (a_mv (v := .i .i64 10) rfl) (Zf (Zd (W_rt (zh ?_)))))))
       refine zY (zh ?_)
       have hp := Option.some.inj hp; subst hp
       refine (Or.inr (Exists.intro (.inr ()) (And.intro rfl (And.intro (fun h => nomatch h) (fun he => ?_)))))
       subst he; exact (And.intro rfl (And.intro (rfl) (And.intro (rfl) (hO₇.pick [] rfl (by decide)))))
      ·refine W_cF (t := (((!(decide (x4 = 4))) && (!(decide (x4 = (-4))))) || ((decide (x4 = (-4))) && (decide (0 ≤ at_))))) g₃_53 b₈ ?_
       refine W_sk (Zd (W_sq (W_rg (Za (a_mv (v := .i .i64 x4) g₃_10) (Za (a_eqI (a := x4) (b := (-4)) rfl rfl) (Zf (Zd ?_)))))))
       rcases Zu hp with ⟨b₉, hp⟩ | ⟨b₉, hp⟩
       ·refine W_cT (t := (decide (x4 = (-4)))) rfl b₉ ?_
        refine W_rg (Za (a_mv (v := .i .i64 i) g₃_8) (Za (a_mv (v := .i .i64 i) rfl) (Zf (z9 (Zd (W_rg (Za (a_mv (v := .i .i64 i) g₃_8) ?_)))))))
        obtain ⟨c₂, hp⟩ := Zk hp
        refine Za (a_add (a := i) (b := 1) rfl rfl c₂) (Za (a_mv (v := .i .i64 (i + 1)) rfl) (Zf ?_))
        have hp := Option.some.inj hp; subst hp
        exact (Or.inl (Exists.intro (i, i + 1) (And.intro rfl (And.intro rfl (And.intro (g₃_0) (And.intro (g₃_6) (And.intro (rfl) (And.intro (rfl) (hO₇.pick [0, 1] rfl (by decide))))))))))
       ·refine W_cF (t := (decide (x4 = (-4)))) rfl b₉ ?_
        refine W_sk (z9 (Zd (W_rg (Za (a_mv (v := .i .i64 i) g₃_8) ?_))))
        obtain ⟨c₃, hp⟩ := Zk hp
        refine Za (a_add (a := i) (b := 1) rfl rfl c₃) (Za (a_mv (v := .i .i64 (i + 1)) rfl) (Zf ?_))
        have hp := Option.some.inj hp; subst hp
        exact (Or.inl (Exists.intro (at_, i + 1) (And.intro rfl (And.intro rfl (And.intro (g₃_0) (And.intro (g₃_6) (And.intro (g₃_7) (And.intro (rfl) (hO₇.pick [0, 1] rfl (by decide))))))))))
     ·refine W_cF (t := (decide (i < (x2.length : Int)))) rfl b₄ ?_
      refine W_ex (zz ?_)
      have hp := Option.some.inj hp; subst hp
      refine (Or.inr (Exists.intro (.inl at_) (And.intro rfl (And.intro (fun h => nomatch h) (fun he => ?_)))))
      subst he; exact (And.intro rfl (And.intro (q₂_7) (hO₅.pick [] rfl (by decide))))
    intro e₁ q₁ k₄ hJ₁
    rcases o₁ with at_1 | _
    ·obtain ⟨rfl, q₁_7, hO₄⟩ := hJ₁
     refine zI (Zd (W_sq (W_sq (W_rg (Za (a_mv (v := .i .i64 at_1) q₁_7) (Za (a_lss (a := at_1) (b := 0) rfl rfl) (Zf ?_)))))))
     refine Zd ?_
     rcases Zu hp with ⟨b₁₀, hp⟩ | ⟨b₁₀, hp⟩
     ·refine W_cT (t := (decide (at_1 < 0))) rfl b₁₀ ?_
      refine W_sq (W_rg (Za (a_mv (v := .i .i64 (-1)) rfl) (Za (a_mv (v := .i .i64 10) rfl) (Zf (Zd (W_rt (zh ?_)))))))
      refine Ret_r (rs_t (n := 2) (v := .i .i64 (-1)) rfl (rs_t (n := 3) (v := .i .i64 10) rfl rs_nil)) ?_
      have hp := Option.some.inj hp; subst hp
      exact (And.intro rfl (hO₄.pick [] rfl (by decide)))
     ·refine W_cF (t := (decide (at_1 < 0))) rfl b₁₀ ?_
      refine W_sk (Zd (W_sq (W_rg (Za (a_mv (v := .i .i64 at_1) q₁_7) (Za (a_mv (v := .i .i64 at_1) rfl) (Za (a_mv (v := .i .i64 0) rfl) (Zf ?_)))))))
      refine Zd (W_rt (Ret_r (rs_t (n := 2) (v := .i .i64 at_1) rfl (rs_t (n := 3) (v := .i .i64 0) rfl rs_nil)) ?_))
      have hp := Option.some.inj hp; subst hp
      exact (And.intro rfl (hO₄.pick [] rfl (by decide)))
    ·obtain ⟨rfl, q₁_2, q₁_3, hO₄⟩ := hJ₁
     refine zY (zh (Ret_r (rs_t (n := 2) (v := .i .i64 (-1)) q₁_2 (rs_t (n := 3) (v := .i .i64 10) q₁_3 rs_nil)) ?_))
     have hp := Option.some.inj hp; subst hp
     exact (And.intro rfl (hO₄.pick [] rfl (by decide)))

theorem ZQ.ok {h : Hp} {l : List Zg} {v_l : V} (s_l : Sl Zb h v_l l) {r : Int × Int} (hp : ZQ l = some r) :
  ∃ u k', Is G 179 [v_l] h u k' ∧ V.tu [.i .i64 r.1, .i .i64 r.2] = u ∧ Own (fun r => r < h.n) h k' [] := by
 refine WC.is (WC_of G_F_muntinref20_First ?_)
 unfold ZQ at hp
 let B : Nat → Prop := (fun r => r < h.n)
 have hO : Own B h h [] := Own.start0 h
 refine W_sq (W_rg (Za (a_mv (v := .i .i64 0) rfl) (Za (a_mv (v := .i .i64 0) rfl) (Zf (Zd (W_sq (W_rg ?_)))))))
 refine Za (a_mv (v := v_l) rfl) ?_
 obtain ⟨⟨x, x1⟩, hx₁, hp⟩ := Zv hp
 obtain ⟨u₁, k₁, ca₁, rfl, hW₁⟩ := zt.ok (h := h)  (hO.rd0 s_l.rd : Sl Zb h v_l l) hx₁
 refine zS (id := 181) (caps := []) rfl (Z2 (v := v_l) rfl zi) ca₁ ?_
 have hO₁ : Own B h k₁ [] := hO.call hW₁ rfl
 refine Za (a_mv (v := .tu [.i .i64 x, .i .i64 x1]) rfl) (Za (Zah (vs := [.i .i64 x, .i .i64 x1]) (v := .i .i64 x) rfl rfl) (Za (Zah (vs := [.i .i64 x, .i .i64 x1]) (v := .i .i64 x1) rfl rfl) (Za (a_mv (v := .i .i64 x) rfl) (Za (a_mv (v := .i .i64 x1) rfl) (Zf (Zd (W_sq ?_)))))))
 refine W_sq (W_rg (Za (a_mv (v := .i .i64 x1) rfl) (Za (a_neI (a := x1) (b := 0) rfl rfl) (Za (a_mv (v := .b (!(decide (x1 = 0)))) rfl) ?_))))
 refine zB 3 (fun fr' k' => k₁ = k' ∧ fr' 20 = .b ((!(decide (x1 = 0))) || (decide (x < 0))) ∧ fr' 0 = v_l ∧ fr' 4 = .i .i64 x) ?_ ?_
 ·rcases bc (!(decide (x1 = 0))) with b₁ | b₁
  ·skip
   refine WO_off rfl b₁ (WO_off rfl b₁ (Za (ZW (t := (!(decide (x1 = 0)))) (v := .b ((!(decide (x1 = 0))) || (decide (x < 0)))) rfl b₁ (Eq.trans (b := V.b true) rfl (Zar b₁))) (Zf ?_)))
   exact ⟨rfl, rfl, rfl, rfl⟩
  ·skip
   refine WO_on rfl b₁ (Za (a_mv (v := .i .i64 x) rfl) (WO_on rfl b₁ (Za (a_lss (a := x) (b := 0) rfl rfl) (Za (ZT (t := (!(decide (x1 = 0)))) (v := .b ((!(decide (x1 = 0))) || (decide (x < 0)))) rfl b₁ (Eq.trans (b := V.b (decide (x < 0))) rfl (Zaz b₁))) (Zf ?_)))))
   exact ⟨rfl, rfl, rfl, rfl⟩
 rintro frg₁ _ ⟨rfl, g₁_20, g₁_0, g₁_4⟩
 refine Zf (Zd ?_)
 rcases Zu hp with ⟨b₂, hp⟩ | ⟨b₂, hp⟩
 ·refine W_cT (t := ((!(decide (x1 = 0))) || (decide (x < 0)))) g₁_20 b₂ ?_
  refine W_sq (W_rg (Za (a_mv (v := .i .i64 (-1)) rfl) (Za (a_mv (v := .i .i64 0) rfl) (Zf (Zd (W_rt (zh ?_)))))))
  refine Ret_r (rs_t (n := 2) (v := .i .i64 (-1)) rfl (rs_t (n := 3) (v := .i .i64 0) rfl rs_nil)) ?_
  have hp := Option.some.inj hp; subst hp
  exact (And.intro rfl (hO₁.pick [] rfl (by decide)))
 ·refine W_cF (t := ((!(decide (x1 = 0))) || (decide (x < 0)))) g₁_20 b₂ ?_
  refine W_sk (Zd (W_sq (W_rg (Za (a_mv (v := v_l) g₁_0) ?_))))
  obtain ⟨x2, hx₂, hp⟩ := Zv hp
  obtain ⟨u₂, k₂, ca₂, v₁, vs₁, rfl, hW₂⟩ := Z9.ok (h := k₁)  (hO₁.rd0 s_l.rd : Sl Zb k₁ v_l l) hx₂
  refine zS (id := 177) (caps := []) rfl (Z2 (v := v_l) rfl zi) ca₂ ?_
  have hO₂ : Own B h k₂ [eSl eV v₁ vs₁, eAll Ze vs₁ x2] := hO₁.call hW₂ rfl
  refine Za (a_mv (v := v₁) rfl) (Zf (Zd (W_sq (W_sq (W_rg (Za (a_mv (v := .i .i64 0) rfl) (Zf ?_)))))))
  refine Zd (W_bl ?_)
  obtain ⟨o₁, ho₁, hp⟩ := Zv hp
  refine W.mono (Q := fun e fr k => match (generalizing := false) o₁ with
    | .inl _ => e = (.exit 0) ∧ Own B h k []
    | .inr (x3, x4) => e = .ret ∧ fr 2 = .i .i64 x3 ∧ fr 3 = .i .i64 x4 ∧ Own B h k []) ?_ ?_
  ·clear hp
   refine zu (fun st fr k => match st with | i => fr 0 = v_l ∧ fr 4 = .i .i64 x ∧ fr 6 = v₁ ∧ fr 7 = .i .i64 i ∧ Own B h k [eSl eV v₁ vs₁, eAll Ze vs₁ x2]) ho₁ (s := 0) (And.intro (g₁_0) (And.intro (g₁_4) (And.intro (rfl) (And.intro (rfl) (hO₂.pick [0, 1] rfl (by decide)))))) ?_
   rintro i q₂ k₄ ⟨q₂_0, q₂_4, q₂_6, q₂_7, hO₄⟩ o₂ hp
   dsimp only [ZQ.s0] at hp
   refine W_sq (W_sq (W_rg (Za (a_mv (v := .i .i64 i) q₂_7) (Za (a_mv (v := v₁) q₂_6) (Za (a_lenN (n := (x2).length) (hO₄.sl 0 rfl : Sl eV k₄ v₁ vs₁) (hO₄.allLen 1 rfl : (vs₁).length = (x2).length) rfl) (Za (a_lss (a := i) (b := (x2.length : Int)) rfl rfl) (Zf ?_)))))))
   refine Zd ?_
   rcases Zu hp with ⟨b₃, hp⟩ | ⟨b₃, hp⟩
   ·refine W_cT (t := (decide (i < (x2.length : Int)))) rfl b₃ ?_
    refine W_sk (Zd (W_sq (W_bl (W_sq (W_rg (Za (a_mv (v := v_l) q₂_0) (Za (a_mv (v := v₁) q₂_6) ?_)))))))
    refine Za (a_mv (v := .i .i64 i) q₂_7) ?_
    obtain ⟨c₁, hp⟩ := Zk hp
    refine Za (a_ixa (E := eV) (z := i) (hO₄.sl 0 rfl : Sl eV k₄ v₁ vs₁) rfl rfl (by rw [(hO₄.allLen 1 rfl : (vs₁).length = (x2).length)]; exact c₁)) (Za (z2 (w := (gi vs₁ (i : Int).toNat)) (hO₄.sl 0 rfl : Sl eV k₄ v₁ vs₁) rfl (by rw [(hO₄.allLen 1 rfl : (vs₁).length = (x2).length)]; exact Zm c₁) rfl) ?_)
    obtain ⟨x5, hx₃, hp⟩ := Zv hp
    obtain ⟨u₃, k₅, ca₃, v₂, rfl, hW₃⟩ := zp.ok (h := k₄)  (hO₄.rd0 s_l.rd : Sl Zb k₄ v_l l) (hO₄.inn 1 rfl (Zm c₁) : Sl Ze k₄ (gi vs₁ (i : Int).toNat) (gi x2 (i : Int).toNat)) hx₃
    refine zS (id := 182) (caps := []) rfl (Z2 (v := v_l) rfl (Z2 (v := (gi vs₁ (i : Int).toNat)) rfl zi)) ca₃ ?_
    have hO₅ : Own B h k₅ [eSl eV v₁ vs₁, eAll Ze vs₁ x2, eSl eInt v₂ x5] := hO₄.call hW₃ rfl
    refine Za (a_mv (v := v₂) rfl) (Zf (Zd (W_sq (W_rg (Za (a_mv (v := .i .i64 0) rfl) (Zf (Zd ?_)))))))
    refine W_bl ?_
    obtain ⟨o₃, ho₂, hp⟩ := Zv hp
    refine W.mono (Q := fun e fr k => match (generalizing := false) o₃ with
      | .inl _ => e = (.exit 2) ∧ fr 0 = v_l ∧ fr 4 = .i .i64 x ∧ fr 6 = v₁ ∧ fr 7 = .i .i64 i ∧ Own B h k [eSl eV v₁ vs₁, eAll Ze vs₁ x2]
      | .inr x6 => e = .ret ∧ fr 2 = .i .i64 i ∧ fr 3 = .i .i64 x6 ∧ Own B h k []) ?_ ?_
    ·clear hp
     refine zu (fun st fr k => match st with | k_ => fr 0 = v_l ∧ fr 4 = .i .i64 x ∧ fr 6 = v₁ ∧ fr 7 = .i .i64 i ∧ fr 8 = v₂ ∧ fr 9 = .i .i64 k_ ∧ Own B h k [eSl eV v₁ vs₁, eAll Ze vs₁ x2, eSl eInt v₂ x5]) ho₂ (s := 0) (And.intro (q₂_0) (And.intro (q₂_4) (And.intro (q₂_6) (And.intro (q₂_7) (And.intro (rfl) (And.intro (rfl) (hO₅.pick [0, 1, 2] rfl (by decide)))))))) ?_
     rintro k_ q₄ k₇ ⟨q₄_0, q₄_4, q₄_6, q₄_7, q₄_8, q₄_9, hO₇⟩ o₄ hp
     dsimp only [ZQ.s1] at hp
     refine W_sq (W_sq (W_rg (Za (a_mv (v := .i .i64 k_) q₄_9) (Za (a_mv (v := v₂) q₄_8) (Za (a_len (hO₇.sl 2 rfl : Sl eInt k₇ v₂ x5) rfl) (Za (a_lss (a := k_) (b := (x5.length : Int)) rfl rfl) (Za (a_mv (v := .b (decide (k_ < (x5.length : Int)))) rfl) ?_)))))))
     refine zB 4 (fun fr' k' => k₇ = k' ∧ fr' 43 = .b ((decide (k_ < (x5.length : Int))) && (!(decide (i = x)))) ∧ fr' 0 = v_l ∧ fr' 4 = .i .i64 x ∧ fr' 6 = v₁ ∧ fr' 7 = .i .i64 i ∧ fr' 8 = v₂ ∧ fr' 9 = .i .i64 k_) ?_ ?_
     ·rcases bc (decide (k_ < (x5.length : Int))) with b₄ | b₄
      ·skip
       refine WO_on rfl b₄ (Za (a_mv (v := .i .i64 i) q₄_7) (WO_on rfl b₄ (Za (a_mv (v := .i .i64 x) q₄_4) (WO_on rfl b₄ (Za (a_neI (a := i) (b := x) rfl rfl) (Za (ZW (t := (decide (k_ < (x5.length : Int)))) (v := .b ((decide (k_ < (x5.length : Int))) && (!(decide (i = x))))) rfl b₄ (Eq.trans (b := V.b (!(decide (i = x)))) rfl (Zax b₄))) (Zf ?_)))))))
       exact ⟨rfl, rfl, q₄_0, q₄_4, q₄_6, q₄_7, q₄_8, q₄_9⟩
      ·skip
       refine WO_off rfl b₄ (WO_off rfl b₄ (WO_off rfl b₄ (Za (ZT (t := (decide (k_ < (x5.length : Int)))) (v := .b ((decide (k_ < (x5.length : Int))) && (!(decide (i = x))))) rfl b₄ (Eq.trans (b := V.b false) rfl (Zal b₄))) (Zf ?_))))
       exact ⟨rfl, rfl, q₄_0, q₄_4, q₄_6, q₄_7, q₄_8, q₄_9⟩
     rintro frg₂ _ ⟨rfl, g₂_43, g₂_0, g₂_4, g₂_6, g₂_7, g₂_8, g₂_9⟩
     refine Zf (Zd ?_)
     rcases Zu hp with ⟨b₅, hp⟩ | ⟨b₅, hp⟩
     ·refine W_cT (t := ((decide (k_ < (x5.length : Int))) && (!(decide (i = x))))) g₂_43 b₅ ?_
      refine W_sk (Zd (W_sq (W_bl (W_sq (W_rg (Za (a_mv (v := v₂) g₂_8) (Za (a_mv (v := .i .i64 k_) g₂_9) ?_)))))))
      obtain ⟨c₂, hp⟩ := Zk hp
      refine Za (a_ixa (E := eInt) (z := k_) (hO₇.sl 2 rfl : Sl eInt k₇ v₂ x5) rfl rfl c₂) (Za (z2 (w := .i .i64 (gi x5 (k_ : Int).toNat)) (hO₇.sl 2 rfl : Sl eInt k₇ v₂ x5) rfl (Zm c₂) rfl) (Za (a_lss (a := (gi x5 (k_ : Int).toNat)) (b := 0) rfl rfl) (Zf (Zd ?_))))
      rcases Zu hp with ⟨b₆, hp⟩ | ⟨b₆, hp⟩
      ·refine W_cT (t := (decide ((gi x5 (k_ : Int).toNat) < 0))) rfl b₆ ?_
       refine W_sq (W_rg (Za (a_mv (v := .i .i64 i) g₂_7) (Za (a_mv (v := .i .i64 k_) g₂_9) (Za (a_mv (v := .i .i64 i) rfl) (Za (a_mv (v := .i .i64 k_) rfl) (Zf (Zd ?_)))))))
       refine W_rt (zY (zh ?_))
       have hp := Option.some.inj hp; subst hp
       refine (Or.inr (Exists.intro (.inr k_) (And.intro rfl (And.intro (fun h => nomatch h) (fun he => ?_)))))
       subst he; exact (And.intro rfl (And.intro (rfl) (And.intro (rfl) (hO₇.pick [] rfl (by decide)))))
      ·refine W_cF (t := (decide ((gi x5 (k_ : Int).toNat) < 0))) rfl b₆ ?_
       refine W_sk (z9 (Zd (W_rg (Za (a_mv (v := .i .i64 k_) g₂_9) ?_))))
       obtain ⟨c₃, hp⟩ := Zk hp
       refine Za (a_add (a := k_) (b := 1) rfl rfl c₃) (Za (a_mv (v := .i .i64 (k_ + 1)) rfl) (Zf ?_))
       have hp := Option.some.inj hp; subst hp
       exact (Or.inl (Exists.intro (k_ + 1) (And.intro rfl (And.intro rfl (And.intro (g₂_0) (And.intro (g₂_4) (And.intro (g₂_6) (And.intro (g₂_7) (And.intro (g₂_8) (And.intro (rfl) (hO₇.pick [0, 1, 2] rfl (by decide))))))))))))
     ·refine W_cF (t := ((decide (k_ < (x5.length : Int))) && (!(decide (i = x))))) g₂_43 b₅ ?_
      refine W_ex (zz ?_)
      have hp := Option.some.inj hp; subst hp
      refine (Or.inr (Exists.intro (.inl ()) (And.intro rfl (And.intro (fun h => nomatch h) (fun he => ?_)))))
      subst he; exact (And.intro rfl (And.intro (g₂_0) (And.intro (g₂_4) (And.intro (g₂_6) (And.intro (g₂_7) (hO₇.pick [0, 1] rfl (by decide)))))))
    intro e₂ q₃ k₆ hJ₂
    rcases o₃ with _ | x6
    ·obtain ⟨rfl, q₃_0, q₃_4, q₃_6, q₃_7, hO₆⟩ := hJ₂
     refine zI (z9 (Zd (W_rg (Za (a_mv (v := .i .i64 i) q₃_7) ?_))))
     obtain ⟨c₄, hp⟩ := Zk hp
     refine Za (a_add (a := i) (b := 1) rfl rfl c₄) (Za (a_mv (v := .i .i64 (i + 1)) rfl) (Zf ?_))
     have hp := Option.some.inj hp; subst hp
     exact (Or.inl (Exists.intro (i + 1) (And.intro rfl (And.intro rfl (And.intro (q₃_0) (And.intro (q₃_4) (And.intro (q₃_6) (And.intro (rfl) (hO₆.pick [0, 1] rfl (by decide))))))))))
    ·obtain ⟨rfl, q₃_2, q₃_3, hO₆⟩ := hJ₂
     refine zY (zY (zh ?_))
     have hp := Option.some.inj hp; subst hp
     refine (Or.inr (Exists.intro (.inr (i, x6)) (And.intro rfl (And.intro (fun h => nomatch h) (fun he => ?_)))))
     subst he; exact (And.intro rfl (And.intro (q₃_2) (And.intro (q₃_3) (hO₆.pick [] rfl (by decide)))))
   ·refine W_cF (t := (decide (i < (x2.length : Int)))) rfl b₃ ?_
    refine W_ex (zz ?_)
    have hp := Option.some.inj hp; subst hp
    refine (Or.inr (Exists.intro (.inl ()) (And.intro rfl (And.intro (fun h => nomatch h) (fun he => ?_)))))
    subst he; exact (And.intro rfl (hO₄.pick [] rfl (by decide)))
  intro e₁ q₁ k₃ hJ₁
  rcases o₁ with _ | ⟨x3, x4⟩
  ·obtain ⟨rfl, hO₃⟩ := hJ₁
   refine zI (Zd (W_sq (W_rg (Za (a_mv (v := .i .i64 (-1)) rfl) (Za (a_mv (v := .i .i64 0) rfl) (Zf (Zd ?_)))))))
   refine W_rt (Ret_r (rs_t (n := 2) (v := .i .i64 (-1)) rfl (rs_t (n := 3) (v := .i .i64 0) rfl rs_nil)) ?_)
   have hp := Option.some.inj hp; subst hp
   exact (And.intro rfl (hO₃.pick [] rfl (by decide)))
  ·obtain ⟨rfl, q₁_2, q₁_3, hO₃⟩ := hJ₁
   refine zY (zh (Ret_r (rs_t (n := 2) (v := .i .i64 x3) q₁_2 (rs_t (n := 3) (v := .i .i64 x4) q₁_3 rs_nil)) ?_))
   have hp := Option.some.inj hp; subst hp
   exact (And.intro rfl (hO₃.pick [] rfl (by decide)))

theorem zP.ok {h : Hp} {s : List Int} {f : Int → Option Bool} {v_s : V} {id_f : Nat} {cap_f : List V} (s_s : Sl eInt h v_s s) (f_f : ∀ (k : Hp) (x0 : Int) (y : Bool), Ex' (fun r => r < h.n) h k → f x0 = some y → ∃ u k', Is G id_f (.i .i64 x0 :: cap_f) k u k' ∧ V.b y = u ∧ Own (fun r => r < k.n) k k' []) {r : Bool} (hp : zP s f = some r) :
  ∃ u k', Is G 78 [v_s, .f id_f cap_f] h u k' ∧ V.b r = u ∧ Own (fun r => r < h.n) h k' [] := by
 refine WC.is (WC_of G_F_slices_ContainsFunc_int ?_)
 unfold zP at hp
 let B : Nat → Prop := (fun r => r < h.n)
 have hO : Own B h h [] := Own.start0 h
 refine W_sq (W_rg (Za (a_mv (v := .b false) rfl) (Zf (Zd (W_sq (W_rg (Za (a_mv (v := v_s) rfl) ?_)))))))
 refine Za (a_mv (v := .f id_f cap_f) rfl) ?_
 obtain ⟨x, hx₁, hp⟩ := Zv hp
 obtain ⟨u₁, k₁, ca₁, rfl, hW₁⟩ := ZX.ok (h := h)  (hO.rd0 s_s.rd : Sl eInt h v_s s) (fun k z0 y hk hx => f_f k z0 y (exTo hO hk) hx) hx₁
 refine zS (id := 91) (caps := []) rfl (Z2 (v := v_s) rfl (Z2 (v := .f id_f cap_f) rfl zi)) ca₁ ?_
 have hO₁ : Own B h k₁ [] := hO.call hW₁ rfl
 refine Za (a_geq (a := x) (b := 0) rfl rfl) (Za (a_mv (v := .b (decide (0 ≤ x))) rfl) (Zf (Zd (W_rt (Ret_r (rs_t (n := 4) (v := .b (decide (0 ≤ x))) rfl rs_nil) ?_)))))
 have hp := Option.some.inj hp; subst hp
 exact (And.intro rfl (hO₁.pick [] rfl (by decide)))

theorem Zau.ok {h : Hp} {t : Int}   {r : Bool} (hp : Zau t = some r) :
  ∃ u k', Is G 79 [.i .i64 t] h u k' ∧ V.b r = u ∧ Own (fun r => r < h.n) h k' [] := by
 refine WC.is (WC_of G_F_front_right_1 ?_)
 unfold Zau at hp
 let B : Nat → Prop := (fun r => r < h.n)
 have hO : Own B h h [] := Own.start0 h
 refine W_sq (W_rg (Za (a_mv (v := .b false) rfl) (Zf (Zd (W_sq (W_rg (Za (a_mv (v := .i .i64 t) rfl) ?_)))))))
 refine Za (a_lss (a := t) (b := (-2)) rfl rfl) (Za (a_mv (v := .b (decide (t < (-2)))) rfl) ?_)
 refine zB 3 (fun fr' k' => h = k' ∧ fr' 8 = .b ((decide (t < (-2))) || (decide (1 < t)))) ?_ ?_
 ·rcases bc (decide (t < (-2))) with b₁ | b₁
  ·skip
   refine WO_off rfl b₁ (WO_off rfl b₁ (Za (ZW (t := (decide (t < (-2)))) (v := .b ((decide (t < (-2))) || (decide (1 < t)))) rfl b₁ (Eq.trans (b := V.b true) rfl (Zar b₁))) (Zf ?_)))
   exact ⟨rfl, rfl⟩
  ·skip
   refine WO_on rfl b₁ (Za (a_mv (v := .i .i64 t) rfl) (WO_on rfl b₁ (Za (a_gtr (a := t) (b := 1) rfl rfl) (Za (ZT (t := (decide (t < (-2)))) (v := .b ((decide (t < (-2))) || (decide (1 < t)))) rfl b₁ (Eq.trans (b := V.b (decide (1 < t))) rfl (Zaz b₁))) (Zf ?_)))))
   exact ⟨rfl, rfl⟩
 rintro frg₁ _ ⟨rfl, g₁_8⟩
 refine Za (a_mv (v := .b ((decide (t < (-2))) || (decide (1 < t)))) g₁_8) (Zf (Zd (W_rt (Ret_r (rs_t (n := 2) (v := .b ((decide (t < (-2))) || (decide (1 < t)))) rfl rs_nil) ?_))))
 have hp := Option.some.inj hp; subst hp
 exact (And.intro rfl (hO.pick [] rfl (by decide)))

theorem Zan.ok {h : Hp} {turns : List Int} {v_turns : V} (s_turns : Sl eInt h v_turns turns) {r : Bool} (hp : Zan turns = some r) :
  ∃ u k', Is G 58 [v_turns] h u k' ∧ V.b r = u ∧ Own (fun r => r < h.n) h k' [] := by
 refine WC.is (WC_of G_F_front_right ?_)
 unfold Zan at hp
 let B : Nat → Prop := (fun r => r < h.n)
 have hO : Own B h h [] := Own.start0 h
 refine W_sq (W_rg (Za (a_mv (v := .b false) rfl) (Zf (Zd (W_sq (W_rg (Za (a_mv (v := v_turns) rfl) ?_)))))))
 obtain ⟨x, hx₁, hp⟩ := Zv hp
 obtain ⟨u₁, k₁, ca₁, rfl, hW₁⟩ := zP.ok (h := h)  (hO.rd0 s_turns.rd : Sl eInt h v_turns turns) (fun k z0 y hk hx => Zau.ok (h := k)  hx) hx₁
 refine zS (id := 78) (caps := []) rfl (Z2 (v := v_turns) rfl (Z2 (v := .f 79 []) rfl zi)) ca₁ ?_
 have hO₁ : Own B h k₁ [] := hO.call hW₁ rfl
 refine Za (a_not (t := x) rfl) (Za (a_mv (v := .b (!x)) rfl) (Zf (Zd (W_rt (Ret_r (rs_t (n := 2) (v := .b (!x)) rfl rs_nil) ?_)))))
 have hp := Option.some.inj hp; subst hp
 exact (And.intro rfl (hO₁.pick [] rfl (by decide)))

theorem Zai.ok {h : Hp} {turns : List Int} {i : Int} {v_turns : V} (s_turns : Sl eInt h v_turns turns) {r : Int × Bool} (hp : Zai turns i = some r) :
  ∃ u k', Is G 13 [v_turns, .i .i64 i] h u k' ∧ V.tu [.i .i64 r.1, .b r.2] = u ∧ Own (fun r => r < h.n) h k' [] := by
 refine WC.is (WC_of G_F_front_Of ?_)
 unfold Zai at hp
 let B : Nat → Prop := (fun r => r < h.n)
 have hO : Own B h h [] := Own.start0 h
 refine W_sq (W_rg (Za (a_mv (v := .i .i64 0) rfl) (Za (a_mv (v := .b false) rfl) (Zf (Zd (W_sq (W_sq ?_)))))))
 refine W_rg (Za (a_mv (v := v_turns) rfl) ?_)
 obtain ⟨x, hx₁, hp⟩ := Zv hp
 obtain ⟨u₁, k₁, ca₁, rfl, hW₁⟩ := Zan.ok (h := h)  (hO.rd0 s_turns.rd : Sl eInt h v_turns turns) hx₁
 refine zS (id := 58) (caps := []) rfl (Z2 (v := v_turns) rfl zi) ca₁ ?_
 have hO₁ : Own B h k₁ [] := hO.call hW₁ rfl
 refine Za (a_not (t := x) rfl) (Za (a_mv (v := .b (!x)) rfl) ?_)
 refine zB 3 (fun fr' k' => k₁ = k' ∧ fr' 15 = .b ((!x) || (decide (i < 0))) ∧ fr' 0 = v_turns ∧ fr' 1 = .i .i64 i) ?_ ?_
 ·rcases bc (!x) with b₁ | b₁
  ·skip
   refine WO_off rfl b₁ (WO_off rfl b₁ (Za (ZW (t := (!x)) (v := .b ((!x) || (decide (i < 0)))) rfl b₁ (Eq.trans (b := V.b true) rfl (Zar b₁))) (Zf ?_)))
   exact ⟨rfl, rfl, rfl, rfl⟩
  ·skip
   refine WO_on rfl b₁ (Za (a_mv (v := .i .i64 i) rfl) (WO_on rfl b₁ (Za (a_lss (a := i) (b := 0) rfl rfl) (Za (ZT (t := (!x)) (v := .b ((!x) || (decide (i < 0)))) rfl b₁ (Eq.trans (b := V.b (decide (i < 0))) rfl (Zaz b₁))) (Zf ?_)))))
   exact ⟨rfl, rfl, rfl, rfl⟩
 rintro frg₁ _ ⟨rfl, g₁_15, g₁_0, g₁_1⟩
 refine Za (a_mv (v := .b ((!x) || (decide (i < 0)))) g₁_15) ?_
 refine zB 5 (fun fr' k' => k₁ = k' ∧ fr' 21 = .b (((!x) || (decide (i < 0))) || (decide ((turns.length : Int) ≤ i))) ∧ fr' 0 = v_turns ∧ fr' 1 = .i .i64 i) ?_ ?_
 ·rcases bc ((!x) || (decide (i < 0))) with b₂ | b₂
  ·skip
   refine WO_off rfl b₂ (WO_off rfl b₂ (WO_off rfl b₂ (WO_off rfl b₂ (Za (ZW (t := ((!x) || (decide (i < 0)))) (v := .b (((!x) || (decide (i < 0))) || (decide ((turns.length : Int) ≤ i)))) rfl b₂ (Eq.trans (b := V.b true) rfl (Zar b₂))) (Zf ?_)))))
   exact ⟨rfl, rfl, g₁_0, g₁_1⟩
  ·skip
   refine WO_on rfl b₂ (Za (a_mv (v := .i .i64 i) g₁_1) (WO_on rfl b₂ (Za (a_mv (v := v_turns) g₁_0) (WO_on rfl b₂ (Za (a_len (hO₁.rd0 s_turns.rd : Sl eInt k₁ v_turns turns) rfl) (WO_on rfl b₂ (Za (a_geq (a := i) (b := (turns.length : Int)) rfl rfl) ?_)))))))
   refine Za (ZT (t := ((!x) || (decide (i < 0)))) (v := .b (((!x) || (decide (i < 0))) || (decide ((turns.length : Int) ≤ i)))) rfl b₂ (Eq.trans (b := V.b (decide ((turns.length : Int) ≤ i))) rfl (Zaz b₂))) (Zf ?_)
   exact ⟨rfl, rfl, g₁_0, g₁_1⟩
 rintro frg₂ _ ⟨rfl, g₂_21, g₂_0, g₂_1⟩
 refine Za (a_mv (v := .b (((!x) || (decide (i < 0))) || (decide ((turns.length : Int) ≤ i)))) g₂_21) ?_
 obtain ⟨t, hv₁, hp⟩ := Zv hp
 refine zB 6 (fun fr' k' => k₁ = k' ∧ fr' 28 = .b t ∧ fr' 0 = v_turns ∧ fr' 1 = .i .i64 i) ?_ ?_
 ·clear hp; rcases Zu hv₁ with ⟨b₃, hp⟩ | ⟨b₃, hp⟩
  ·skip
   refine WO_off rfl b₃ (WO_off rfl b₃ (WO_off rfl b₃ (WO_off rfl b₃ (WO_off rfl b₃ (Za (ZW (t := (((!x) || (decide (i < 0))) || (decide ((turns.length : Int) ≤ i)))) (v := .b t) rfl b₃ (Eq.trans (b := V.b true) rfl (congrArg V.b (Option.some.inj hp)))) (Zf ?_))))))
   exact ⟨rfl, rfl, g₂_0, g₂_1⟩
  ·skip
   refine WO_on rfl b₃ (Za (a_mv (v := v_turns) g₂_0) (WO_on rfl b₃ (Za (a_mv (v := .i .i64 i) g₂_1) (WO_on rfl b₃ ?_))))
   obtain ⟨c₁, hp⟩ := Zk hp
   refine Za (a_ixa (E := eInt) (z := i) (hO₁.rd0 s_turns.rd : Sl eInt k₁ v_turns turns) rfl rfl c₁) (WO_on rfl b₃ (Za (z2 (w := .i .i64 (gi turns (i : Int).toNat)) (hO₁.rd0 s_turns.rd : Sl eInt k₁ v_turns turns) rfl (Zm c₁) rfl) (WO_on rfl b₃ (Za (a_geq (a := (gi turns (i : Int).toNat)) (b := 0) rfl rfl) (Za (ZT (t := (((!x) || (decide (i < 0))) || (decide ((turns.length : Int) ≤ i)))) (v := .b t) rfl b₃ (Eq.trans (b := V.b (decide (0 ≤ (gi turns (i : Int).toNat)))) rfl (congrArg V.b (Option.some.inj hp)))) (Zf ?_))))))
   exact ⟨rfl, rfl, g₂_0, g₂_1⟩
 rintro frg₃ _ ⟨rfl, g₃_28, g₃_0, g₃_1⟩
 refine Zf (Zd ?_)
 rcases Zu hp with ⟨b₄, hp⟩ | ⟨b₄, hp⟩
 ·refine W_cT (t := t) g₃_28 b₄ ?_
  refine W_sq (W_rg (Za (a_mv (v := .i .i64 0) rfl) (Za (a_mv (v := .b false) rfl) (Zf (Zd (W_rt (zh ?_)))))))
  refine Ret_r (rs_t (n := 4) (v := .i .i64 0) rfl (rs_t (n := 5) (v := .b false) rfl rs_nil)) ?_
  have hp := Option.some.inj hp; subst hp
  exact (And.intro rfl (hO₁.pick [] rfl (by decide)))
 ·refine W_cF (t := t) g₃_28 b₄ ?_
  refine W_sk (Zd (W_sq (W_rg (Za (a_mv (v := .i .i64 0) rfl) (Zf (Zd (W_sq ?_)))))))
  refine W_sq (W_rg (Za (a_mv (v := v_turns) g₃_0) (Za (a_len (hO₁.rd0 s_turns.rd : Sl eInt k₁ v_turns turns) rfl) (Za (a_mv (v := .i .i64 0) rfl) (Zf (Zd (W_bl ?_)))))))
  obtain ⟨o₁, ho₁, hp⟩ := Zv hp
  refine W.mono (Q := fun e fr k => match (generalizing := false) o₁ with
    | .inl _ => e = (.exit 0) ∧ Own B h k []
    | .inr x2 => e = .ret ∧ fr 4 = .i .i64 x2 ∧ fr 5 = .b true ∧ Own B h k []) ?_ ?_
  ·clear hp
   refine zu (fun st fr k => match st with | (sum, x1) => fr 0 = v_turns ∧ fr 1 = .i .i64 i ∧ fr 6 = .i .i64 sum ∧ fr 30 = .i .i64 (turns.length : Int) ∧ fr 31 = .i .i64 x1 ∧ Own B h k []) ho₁ (s := (0, 0)) (And.intro (g₃_0) (And.intro (g₃_1) (And.intro (rfl) (And.intro (rfl) (And.intro (rfl) (hO₁.pick [] rfl (by decide))))))) ?_
   rintro ⟨sum, x1⟩ q₂ k₃ ⟨q₂_0, q₂_1, q₂_6, q₂_30, q₂_31, hO₃⟩ o₂ hp
   dsimp only [Zai.s0] at hp
   refine W_sq (W_rg (Za (a_lss (a := x1) (b := (turns.length : Int)) q₂_31 q₂_30) (Zf (Zd (W_sq ?_)))))
   rcases Zu hp with ⟨b₅, hp⟩ | ⟨b₅, hp⟩
   ·refine W_cT (t := (decide (x1 < (turns.length : Int)))) rfl b₅ ?_
    refine W_sk (Zd (W_sq (W_bl (W_sq (W_rg (Za (a_mv (v := .i .i64 x1) q₂_31) (Za (a_mv (v := .i .i64 x1) rfl) ?_)))))))
    refine Zf (Zd (W_sq (W_rg (Za (a_mv (v := .i .i64 i) q₂_1) (Za (a_mv (v := .i .i64 x1) rfl) ?_)))))
    obtain ⟨c₂, hp⟩ := Zk hp
    refine Za (a_add (a := i) (b := x1) rfl rfl c₂) (Za (a_mv (v := v_turns) q₂_0) (Za (a_len (hO₃.rd0 s_turns.rd : Sl eInt k₃ v_turns turns) rfl) ?_))
    obtain ⟨c₃, hp⟩ := Zk hp
    refine Za (a_rem (a := (i + x1)) (b := (turns.length : Int)) rfl rfl c₃) (Za (a_mv (v := .i .i64 ((i + x1).tmod (turns.length : Int))) rfl) (Zf (Zd (W_sq (W_rg (Za (a_mv (v := .i .i64 sum) q₂_6) (Za (a_mv (v := v_turns) q₂_0) ?_)))))))
    refine Za (a_mv (v := .i .i64 ((i + x1).tmod (turns.length : Int))) rfl) ?_
    obtain ⟨c₄, hp⟩ := Zk hp
    refine Za (a_ixa (E := eInt) (z := ((i + x1).tmod (turns.length : Int))) (hO₃.rd0 s_turns.rd : Sl eInt k₃ v_turns turns) rfl rfl c₄) (Za (z2 (w := .i .i64 (gi turns ((i + x1).tmod (turns.length : Int) : Int).toNat)) (hO₃.rd0 s_turns.rd : Sl eInt k₃ v_turns turns) rfl (Zm c₄) rfl) ?_)
    obtain ⟨c₅, hp⟩ := Zk hp
    refine Za (a_add (a := sum) (b := (gi turns ((i + x1).tmod (turns.length : Int) : Int).toNat)) rfl rfl c₅) (Za (a_mv (v := .i .i64 (sum + (gi turns ((i + x1).tmod (turns.length : Int) : Int).toNat))) rfl) (Zf (Zd (W_sq (W_rg (Za (a_mv (v := .i .i64 (sum + (gi turns ((i + x1).tmod (turns.length : Int) : Int).toNat))) rfl) (Za (a_eqI (a := (sum + (gi turns ((i + x1).tmod (turns.length : Int) : Int).toNat))) (b := 1) rfl rfl) ?_)))))))
    refine Zf (Zd ?_)
    rcases Zu hp with ⟨b₆, hp⟩ | ⟨b₆, hp⟩
    ·refine W_cT (t := (decide (sum + (gi turns ((i + x1).tmod (turns.length : Int) : Int).toNat) = 1))) rfl b₆ ?_
     refine W_sq (W_rg (Za (a_mv (v := .i .i64 ((i + x1).tmod (turns.length : Int))) rfl) ?_))
     obtain ⟨c₆, hp⟩ := Zk hp
     refine Za (a_add (a := ((i + x1).tmod (turns.length : Int))) (b := 1) rfl rfl c₆) (Za (a_mv (v := v_turns) q₂_0) (Za (a_len (hO₃.rd0 s_turns.rd : Sl eInt k₃ v_turns turns) rfl) (Za (a_rem (a := (((i + x1).tmod (turns.length : Int)) + 1)) (b := (turns.length : Int)) rfl rfl c₃) (Za (a_mv (v := .i .i64 ((((i + x1).tmod (turns.length : Int)) + 1).tmod (turns.length : Int))) rfl) (Za (a_mv (v := .b true) rfl) (Zf (Zd ?_)))))))
     refine W_rt (zY (zh ?_))
     have hp := Option.some.inj hp; subst hp
     refine (Or.inr (Exists.intro (.inr ((((i + x1).tmod (turns.length : Int)) + 1).tmod (turns.length : Int))) (And.intro rfl (And.intro (fun h => nomatch h) (fun he => ?_)))))
     subst he; exact (And.intro rfl (And.intro (rfl) (And.intro (rfl) (hO₃.pick [] rfl (by decide)))))
    ·refine W_cF (t := (decide (sum + (gi turns ((i + x1).tmod (turns.length : Int) : Int).toNat) = 1))) rfl b₆ ?_
     refine W_sk (z9 (Zd (W_rg ?_)))
     obtain ⟨c₇, hp⟩ := Zk hp
     refine Za (a_add (a := x1) (b := 1) q₂_31 rfl c₇) (Za (a_mv (v := .i .i64 (x1 + 1)) rfl) (Zf ?_))
     have hp := Option.some.inj hp; subst hp
     exact (Or.inl (Exists.intro (sum + (gi turns ((i + x1).tmod (turns.length : Int) : Int).toNat), x1 + 1) (And.intro rfl (And.intro rfl (And.intro (q₂_0) (And.intro (q₂_1) (And.intro (rfl) (And.intro (q₂_30) (And.intro (rfl) (hO₃.pick [] rfl (by decide)))))))))))
   ·refine W_cF (t := (decide (x1 < (turns.length : Int)))) rfl b₅ ?_
    refine W_ex (zz ?_)
    have hp := Option.some.inj hp; subst hp
    refine (Or.inr (Exists.intro (.inl ()) (And.intro rfl (And.intro (fun h => nomatch h) (fun he => ?_)))))
    subst he; exact (And.intro rfl (hO₃.pick [] rfl (by decide)))
  intro e₁ q₁ k₂ hJ₁
  rcases o₁ with _ | x2
  ·obtain ⟨rfl, hO₂⟩ := hJ₁
   refine zI (Zd (W_sq (W_rg (Za (a_mv (v := .i .i64 0) rfl) (Za (a_mv (v := .b false) rfl) (Zf (Zd ?_)))))))
   refine W_rt (Ret_r (rs_t (n := 4) (v := .i .i64 0) rfl (rs_t (n := 5) (v := .b false) rfl rs_nil)) ?_)
   have hp := Option.some.inj hp; subst hp
   exact (And.intro rfl (hO₂.pick [] rfl (by decide)))
  ·obtain ⟨rfl, q₁_4, q₁_5, hO₂⟩ := hJ₁
   refine zY (zh (Ret_r (rs_t (n := 4) (v := .i .i64 x2) q₁_4 (rs_t (n := 5) (v := .b true) q₁_5 rs_nil)) ?_))
   have hp := Option.some.inj hp; subst hp
   exact (And.intro rfl (hO₂.pick [] rfl (by decide)))

theorem Zam.ok {h : Hp} {turns : List Int} {v_turns : V} (s_turns : Sl eInt h v_turns turns) {r : Int × Bool} (hp : Zam turns = some r) :
  ∃ u k', Is G 15 [v_turns] h u k' ∧ V.tu [.i .i64 r.1, .b r.2] = u ∧ Own (fun r => r < h.n) h k' [] := by
 refine WC.is (WC_of G_F_front_Open ?_)
 unfold Zam at hp
 let B : Nat → Prop := (fun r => r < h.n)
 have hO : Own B h h [] := Own.start0 h
 refine W_sq (W_rg (Za (a_mv (v := .i .i64 0) rfl) (Za (a_mv (v := .b false) rfl) (Zf (Zd (W_sq (W_sq ?_)))))))
 refine W_rg (Za (a_mv (v := v_turns) rfl) ?_)
 obtain ⟨x, hx₁, hp⟩ := Zv hp
 obtain ⟨u₁, k₁, ca₁, rfl, hW₁⟩ := Zan.ok (h := h)  (hO.rd0 s_turns.rd : Sl eInt h v_turns turns) hx₁
 refine zS (id := 58) (caps := []) rfl (Z2 (v := v_turns) rfl zi) ca₁ ?_
 have hO₁ : Own B h k₁ [] := hO.call hW₁ rfl
 refine Za (a_not (t := x) rfl) (Zf (Zd ?_))
 rcases Zu hp with ⟨b₁, hp⟩ | ⟨b₁, hp⟩
 ·refine W_cT (t := (!x)) rfl b₁ ?_
  refine W_sq (W_rg (Za (a_mv (v := .i .i64 0) rfl) (Za (a_mv (v := .b false) rfl) (Zf (Zd (W_rt (zh ?_)))))))
  refine Ret_r (rs_t (n := 2) (v := .i .i64 0) rfl (rs_t (n := 3) (v := .b false) rfl rs_nil)) ?_
  have hp := Option.some.inj hp; subst hp
  exact (And.intro rfl (hO₁.pick [] rfl (by decide)))
 ·refine W_cF (t := (!x)) rfl b₁ ?_
  refine W_sk (Zd (W_sq (W_sq (W_rg (Za (a_mv (v := v_turns) rfl) (Za (a_len (hO₁.rd0 s_turns.rd : Sl eInt k₁ v_turns turns) rfl) (Za (a_mv (v := .i .i64 0) rfl) ?_)))))))
  refine Zf (Zd (W_bl ?_))
  obtain ⟨o₁, ho₁, hp⟩ := Zv hp
  refine W.mono (Q := fun e fr k => match (generalizing := false) o₁ with
    | .inl _ => e = (.exit 0) ∧ Own B h k []
    | .inr x2 => e = .ret ∧ fr 2 = .i .i64 x2 ∧ fr 3 = .b true ∧ Own B h k []) ?_ ?_
  ·clear hp
   refine zu (fun st fr k => match st with | x1 => fr 0 = v_turns ∧ fr 11 = v_turns ∧ fr 12 = .i .i64 (turns.length : Int) ∧ fr 13 = .i .i64 x1 ∧ Own B h k []) ho₁ (s := 0) (And.intro (rfl) (And.intro (rfl) (And.intro (rfl) (And.intro (rfl) (hO₁.pick [] rfl (by decide)))))) ?_
   rintro x1 q₂ k₃ ⟨q₂_0, q₂_11, q₂_12, q₂_13, hO₃⟩ o₂ hp
   dsimp only [Zam.s0] at hp
   refine W_sq (W_rg (Za (a_lss (a := x1) (b := (turns.length : Int)) q₂_13 q₂_12) (Zf (Zd (W_sq ?_)))))
   rcases Zu hp with ⟨b₂, hp⟩ | ⟨b₂, hp⟩
   ·refine W_cT (t := (decide (x1 < (turns.length : Int)))) rfl b₂ ?_
    refine W_sk (Zd (W_sq (W_bl (W_sq (W_rg (Za (a_mv (v := .i .i64 x1) q₂_13) ?_))))))
    obtain ⟨c₁, hp⟩ := Zk hp
    refine Za (a_ixa (E := eInt) (z := x1) (hO₃.rd0 s_turns.rd : Sl eInt k₃ v_turns turns) q₂_11 q₂_13 c₁) (Za (z2 (w := .i .i64 (gi turns (x1 : Int).toNat)) (hO₃.rd0 s_turns.rd : Sl eInt k₃ v_turns turns) rfl (Zm c₁) rfl) (Za (a_mv (v := .i .i64 x1) rfl) (Za (a_mv (v := .i .i64 (gi turns (x1 : Int).toNat)) rfl) (Zf (Zd (W_sq (W_rg ?_)))))))
    refine Za (a_mv (v := v_turns) q₂_0) (Za (a_mv (v := .i .i64 x1) rfl) ?_)
    obtain ⟨⟨x3, x4⟩, hx₂, hp⟩ := Zv hp
    obtain ⟨u₂, k₄, ca₂, rfl, hW₂⟩ := Zai.ok (h := k₃)  (hO₃.rd0 s_turns.rd : Sl eInt k₃ v_turns turns) hx₂
    refine zS (id := 13) (caps := []) rfl (Z2 (v := v_turns) rfl (Z2 (v := .i .i64 x1) rfl zi)) ca₂ ?_
    have hO₄ : Own B h k₄ [] := hO₃.call hW₂ rfl
    refine Za (a_mv (v := .tu [.i .i64 x3, .b x4]) rfl) (Za (Zah (vs := [.i .i64 x3, .b x4]) (v := .i .i64 x3) rfl rfl) (Za (Zah (vs := [.i .i64 x3, .b x4]) (v := .b x4) rfl rfl) (Za (a_mv (v := .i .i64 x3) rfl) (Za (a_mv (v := .b x4) rfl) (Zf (Zd (W_sq ?_)))))))
    refine W_rg (Za (a_mv (v := .i .i64 (gi turns (x1 : Int).toNat)) rfl) (Za (a_lss (a := (gi turns (x1 : Int).toNat)) (b := 0) rfl rfl) (Za (a_mv (v := .b (decide ((gi turns (x1 : Int).toNat) < 0))) rfl) ?_)))
    refine zB 3 (fun fr' k' => k₄ = k' ∧ fr' 29 = .b ((decide ((gi turns (x1 : Int).toNat) < 0)) && (!x4)) ∧ fr' 0 = v_turns ∧ fr' 11 = v_turns ∧ fr' 12 = .i .i64 (turns.length : Int) ∧ fr' 13 = .i .i64 x1 ∧ fr' 4 = .i .i64 x1) ?_ ?_
    ·rcases bc (decide ((gi turns (x1 : Int).toNat) < 0)) with b₃ | b₃
     ·skip
      refine WO_on rfl b₃ (Za (a_mv (v := .b x4) rfl) (WO_on rfl b₃ (Za (a_not (t := x4) rfl) (Za (ZW (t := (decide ((gi turns (x1 : Int).toNat) < 0))) (v := .b ((decide ((gi turns (x1 : Int).toNat) < 0)) && (!x4))) rfl b₃ (Eq.trans (b := V.b (!x4)) rfl (Zax b₃))) (Zf ?_)))))
      exact ⟨rfl, rfl, q₂_0, q₂_11, q₂_12, q₂_13, rfl⟩
     ·skip
      refine WO_off rfl b₃ (WO_off rfl b₃ (Za (ZT (t := (decide ((gi turns (x1 : Int).toNat) < 0))) (v := .b ((decide ((gi turns (x1 : Int).toNat) < 0)) && (!x4))) rfl b₃ (Eq.trans (b := V.b false) rfl (Zal b₃))) (Zf ?_)))
      exact ⟨rfl, rfl, q₂_0, q₂_11, q₂_12, q₂_13, rfl⟩
    rintro frg₁ _ ⟨rfl, g₁_29, g₁_0, g₁_11, g₁_12, g₁_13, g₁_4⟩
    refine Zf (Zd ?_)
    rcases Zu hp with ⟨b₄, hp⟩ | ⟨b₄, hp⟩
    ·refine W_cT (t := ((decide ((gi turns (x1 : Int).toNat) < 0)) && (!x4))) g₁_29 b₄ ?_
     refine W_sq (W_rg (Za (a_mv (v := .i .i64 x1) g₁_4) (Za (a_mv (v := .i .i64 x1) rfl) (Za (a_mv (v := .b true) rfl) (Zf (Zd (W_rt ?_)))))))
     refine zY (zh ?_)
     have hp := Option.some.inj hp; subst hp
     refine (Or.inr (Exists.intro (.inr x1) (And.intro rfl (And.intro (fun h => nomatch h) (fun he => ?_)))))
     subst he; exact (And.intro rfl (And.intro (rfl) (And.intro (rfl) (hO₄.pick [] rfl (by decide)))))
    ·refine W_cF (t := ((decide ((gi turns (x1 : Int).toNat) < 0)) && (!x4))) g₁_29 b₄ ?_
     refine W_sk (z9 (Zd (W_rg ?_)))
     obtain ⟨c₂, hp⟩ := Zk hp
     refine Za (a_add (a := x1) (b := 1) g₁_13 rfl c₂) (Za (a_mv (v := .i .i64 (x1 + 1)) rfl) (Zf ?_))
     have hp := Option.some.inj hp; subst hp
     exact (Or.inl (Exists.intro (x1 + 1) (And.intro rfl (And.intro rfl (And.intro (g₁_0) (And.intro (g₁_11) (And.intro (g₁_12) (And.intro (rfl) (hO₄.pick [] rfl (by decide))))))))))
   ·refine W_cF (t := (decide (x1 < (turns.length : Int)))) rfl b₂ ?_
    refine W_ex (zz ?_)
    have hp := Option.some.inj hp; subst hp
    refine (Or.inr (Exists.intro (.inl ()) (And.intro rfl (And.intro (fun h => nomatch h) (fun he => ?_)))))
    subst he; exact (And.intro rfl (hO₃.pick [] rfl (by decide)))
  intro e₁ q₁ k₂ hJ₁
  rcases o₁ with _ | x2
  ·obtain ⟨rfl, hO₂⟩ := hJ₁
   refine zI (Zd (W_sq (W_rg (Za (a_mv (v := .i .i64 0) rfl) (Za (a_mv (v := .b false) rfl) (Zf (Zd ?_)))))))
   refine W_rt (Ret_r (rs_t (n := 2) (v := .i .i64 0) rfl (rs_t (n := 3) (v := .b false) rfl rs_nil)) ?_)
   have hp := Option.some.inj hp; subst hp
   exact (And.intro rfl (hO₂.pick [] rfl (by decide)))
  ·obtain ⟨rfl, q₁_2, q₁_3, hO₂⟩ := hJ₁
   refine zY (zh (Ret_r (rs_t (n := 2) (v := .i .i64 x2) q₁_2 (rs_t (n := 3) (v := .b true) q₁_3 rs_nil)) ?_))
   have hp := Option.some.inj hp; subst hp
   exact (And.intro rfl (hO₂.pick [] rfl (by decide)))

theorem Zad.ok {h : Hp}    {r : Bool} (hp : Zad  = some r) :
  ∃ u k', Is G 17 [] h u k' ∧ V.b r = u ∧ Own (fun r => r < h.n) h k' [] := by
 refine WC.is (WC_of G_F_muntinlaw20_wakes ?_)
 unfold Zad at hp
 let B : Nat → Prop := (fun r => r < h.n)
 have hO : Own B h h [] := Own.start0 h
 refine W_sq (W_rg (Za (a_mv (v := .b false) rfl) (Zf (Zd (W_sq (W_rg (z8 (hO.bsl (E := eInt) (l := ([1, 1, (-1), 1, 1, 1] : List Int)) hO.fr (by rw [(zq (v := .i .i64 1) rfl (zq (v := .i .i64 1) rfl (zq (v := .i .i64 (-1)) rfl (zq (v := .i .i64 1) rfl (zq (v := .i .i64 1) rfl (zq (v := .i .i64 1) rfl ev_nil))))))]; rfl) rfl) ?_)))))))
 rintro v₁ k₁ ⟨r₁, f₁, hW⟩
 have hO₁ : Own B h k₁ [eSl eInt v₁ ([1, 1, (-1), 1, 1, 1] : List Int)] := hW
 refine Za (a_mv (v := v₁) rfl) (Zf (Zd (W_sq (W_rg (Za (a_mv (v := v₁) rfl) ?_)))))
 obtain ⟨⟨x, x1⟩, hx₁, hp⟩ := Zv hp
 obtain ⟨u₁, k₂, ca₁, rfl, hW₁⟩ := Zai.ok (h := k₁)  (hO₁.sl 0 rfl : Sl eInt k₁ v₁ ([1, 1, (-1), 1, 1, 1] : List Int)) hx₁
 refine zS (id := 13) (caps := []) rfl (Z2 (v := v₁) rfl (Z2 (v := .i .i64 2) rfl zi)) ca₁ ?_
 have hO₂ : Own B h k₂ [eSl eInt v₁ ([1, 1, (-1), 1, 1, 1] : List Int)] := hO₁.call hW₁ rfl
 refine Za (a_mv (v := .tu [.i .i64 x, .b x1]) rfl) (Za (Zah (vs := [.i .i64 x, .b x1]) (v := .i .i64 x) rfl rfl) (Za (Zah (vs := [.i .i64 x, .b x1]) (v := .b x1) rfl rfl) (Za (a_mv (v := .i .i64 x) rfl) (Za (a_mv (v := .b x1) rfl) (Zf (Zd (W_sq ?_)))))))
 refine W_rg (Za (a_mv (v := v₁) rfl) ?_)
 obtain ⟨⟨x2, x3⟩, hx₂, hp⟩ := Zv hp
 obtain ⟨u₂, k₃, ca₂, rfl, hW₂⟩ := Zai.ok (h := k₂)  (hO₂.sl 0 rfl : Sl eInt k₂ v₁ ([1, 1, (-1), 1, 1, 1] : List Int)) hx₂
 refine zS (id := 13) (caps := []) rfl (Z2 (v := v₁) rfl (Z2 (v := .i .i64 0) rfl zi)) ca₂ ?_
 have hO₃ : Own B h k₃ [eSl eInt v₁ ([1, 1, (-1), 1, 1, 1] : List Int)] := hO₂.call hW₂ rfl
 refine Za (a_mv (v := .tu [.i .i64 x2, .b x3]) rfl) (Za (Zah (vs := [.i .i64 x2, .b x3]) (v := .i .i64 x2) rfl rfl) (Za (Zah (vs := [.i .i64 x2, .b x3]) (v := .b x3) rfl rfl) (Za (a_mv (v := .i .i64 x2) rfl) (Za (a_mv (v := .b x3) rfl) (Zf (Zd (W_sq ?_)))))))
 refine W_rg (z8 (hO₃.bsl (E := eInt) (l := ([(-2), (-2)] : List Int)) hO₃.fr (by rw [(zq (v := .i .i64 (-2)) rfl (zq (v := .i .i64 (-2)) rfl ev_nil))]; rfl) rfl) ?_)
 rintro v₂ k₄ ⟨r₂, f₂, hW⟩
 have hO₄ : Own B h k₄ [eSl eInt v₁ ([1, 1, (-1), 1, 1, 1] : List Int), eSl eInt v₂ ([(-2), (-2)] : List Int)] := hW
 obtain ⟨⟨x4, x5⟩, hx₃, hp⟩ := Zv hp
 obtain ⟨u₃, k₅, ca₃, rfl, hW₃⟩ := Zam.ok (h := k₄)  (hO₄.sl 1 rfl : Sl eInt k₄ v₂ ([(-2), (-2)] : List Int)) hx₃
 refine zS (id := 15) (caps := []) rfl (Z2 (v := v₂) rfl zi) ca₃ ?_
 have hO₅ : Own B h k₅ [eSl eInt v₁ ([1, 1, (-1), 1, 1, 1] : List Int), eSl eInt v₂ ([(-2), (-2)] : List Int)] := hO₄.call hW₃ rfl
 refine Za (a_mv (v := .tu [.i .i64 x4, .b x5]) rfl) (Za (Zah (vs := [.i .i64 x4, .b x5]) (v := .i .i64 x4) rfl rfl) (Za (Zah (vs := [.i .i64 x4, .b x5]) (v := .b x5) rfl rfl) (Za (a_mv (v := .i .i64 x4) rfl) (Za (a_mv (v := .b x5) rfl) (Zf (Zd (W_sq ?_)))))))
 refine W_rg (Za (a_mv (v := .i .i64 x) rfl) (Za (a_eqI (a := x) (b := 5) rfl rfl) (Za (a_mv (v := .b (decide (x = 5))) rfl) ?_)))
 refine zB 2 (fun fr' k' => k₅ = k' ∧ fr' 28 = .b ((decide (x = 5)) && x1) ∧ fr' 5 = .b x3 ∧ fr' 6 = .i .i64 x4 ∧ fr' 7 = .b x5) ?_ ?_
 ·rcases bc (decide (x = 5)) with b₁ | b₁
  ·skip
   refine WO_on rfl b₁ (Za (a_mv (v := .b x1) rfl) (Za (ZW (t := (decide (x = 5))) (v := .b ((decide (x = 5)) && x1)) rfl b₁ (Eq.trans (b := V.b x1) rfl (Zax b₁))) (Zf ?_)))
   exact ⟨rfl, rfl, rfl, rfl, rfl⟩
  ·skip
   refine WO_off rfl b₁ (Za (ZT (t := (decide (x = 5))) (v := .b ((decide (x = 5)) && x1)) rfl b₁ (Eq.trans (b := V.b false) rfl (Zal b₁))) (Zf ?_))
   exact ⟨rfl, rfl, rfl, rfl, rfl⟩
 rintro frg₁ _ ⟨rfl, g₁_28, g₁_5, g₁_6, g₁_7⟩
 refine Za (a_mv (v := .b ((decide (x = 5)) && x1)) g₁_28) ?_
 refine zB 3 (fun fr' k' => k₅ = k' ∧ fr' 32 = .b (((decide (x = 5)) && x1) && (!x3)) ∧ fr' 6 = .i .i64 x4 ∧ fr' 7 = .b x5) ?_ ?_
 ·rcases bc ((decide (x = 5)) && x1) with b₂ | b₂
  ·skip
   refine WO_on rfl b₂ (Za (a_mv (v := .b x3) g₁_5) (WO_on rfl b₂ (Za (a_not (t := x3) rfl) (Za (ZW (t := ((decide (x = 5)) && x1)) (v := .b (((decide (x = 5)) && x1) && (!x3))) rfl b₂ (Eq.trans (b := V.b (!x3)) rfl (Zax b₂))) (Zf ?_)))))
   exact ⟨rfl, rfl, g₁_6, g₁_7⟩
  ·skip
   refine WO_off rfl b₂ (WO_off rfl b₂ (Za (ZT (t := ((decide (x = 5)) && x1)) (v := .b (((decide (x = 5)) && x1) && (!x3))) rfl b₂ (Eq.trans (b := V.b false) rfl (Zal b₂))) (Zf ?_)))
   exact ⟨rfl, rfl, g₁_6, g₁_7⟩
 rintro frg₂ _ ⟨rfl, g₂_32, g₂_6, g₂_7⟩
 refine Za (a_mv (v := .b (((decide (x = 5)) && x1) && (!x3))) g₂_32) ?_
 refine zB 3 (fun fr' k' => k₅ = k' ∧ fr' 36 = .b ((((decide (x = 5)) && x1) && (!x3)) && (decide (x4 = 0))) ∧ fr' 7 = .b x5) ?_ ?_
 ·rcases bc (((decide (x = 5)) && x1) && (!x3)) with b₃ | b₃
  ·skip
   refine WO_on rfl b₃ (Za (a_mv (v := .i .i64 x4) g₂_6) (WO_on rfl b₃ (Za (a_eqI (a := x4) (b := 0) rfl rfl) (Za (ZW (t := (((decide (x = 5)) && x1) && (!x3))) (v := .b ((((decide (x = 5)) && x1) && (!x3)) && (decide (x4 = 0)))) rfl b₃ (Eq.trans (b := V.b (decide (x4 = 0))) rfl (Zax b₃))) (Zf ?_)))))
   exact ⟨rfl, rfl, g₂_7⟩
  ·skip
   refine WO_off rfl b₃ (WO_off rfl b₃ (Za (ZT (t := (((decide (x = 5)) && x1) && (!x3))) (v := .b ((((decide (x = 5)) && x1) && (!x3)) && (decide (x4 = 0)))) rfl b₃ (Eq.trans (b := V.b false) rfl (Zal b₃))) (Zf ?_)))
   exact ⟨rfl, rfl, g₂_7⟩
 rintro frg₃ _ ⟨rfl, g₃_36, g₃_7⟩
 refine Za (a_mv (v := .b ((((decide (x = 5)) && x1) && (!x3)) && (decide (x4 = 0)))) g₃_36) ?_
 refine zB 2 (fun fr' k' => k₅ = k' ∧ fr' 39 = .b (((((decide (x = 5)) && x1) && (!x3)) && (decide (x4 = 0))) && x5)) ?_ ?_
 ·rcases bc ((((decide (x = 5)) && x1) && (!x3)) && (decide (x4 = 0))) with b₄ | b₄
  ·skip
   refine WO_on rfl b₄ (Za (a_mv (v := .b x5) g₃_7) (Za (ZW (t := ((((decide (x = 5)) && x1) && (!x3)) && (decide (x4 = 0)))) (v := .b (((((decide (x = 5)) && x1) && (!x3)) && (decide (x4 = 0))) && x5)) rfl b₄ (Eq.trans (b := V.b x5) rfl (Zax b₄))) (Zf ?_)))
   exact ⟨rfl, rfl⟩
  ·skip
   refine WO_off rfl b₄ (Za (ZT (t := ((((decide (x = 5)) && x1) && (!x3)) && (decide (x4 = 0)))) (v := .b (((((decide (x = 5)) && x1) && (!x3)) && (decide (x4 = 0))) && x5)) rfl b₄ (Eq.trans (b := V.b false) rfl (Zal b₄))) (Zf ?_))
   exact ⟨rfl, rfl⟩
 rintro frg₄ _ ⟨rfl, g₄_39⟩
 refine Za (a_mv (v := .b (((((decide (x = 5)) && x1) && (!x3)) && (decide (x4 = 0))) && x5)) g₄_39) (Zf (Zd (W_rt (Ret_r (rs_t (n := 0) (v := .b (((((decide (x = 5)) && x1) && (!x3)) && (decide (x4 = 0))) && x5)) rfl rs_nil) ?_))))
 have hp := Option.some.inj hp; subst hp
 exact (And.intro rfl (hO₅.pick [] rfl (by decide)))

theorem zf.ok {h : Hp} {z : ZY} {raw : List Zg} {v_z_At : V} {v_z_Bits : V} {v_z_Own : V} {v_raw : V} (s_z_At : Sl Za3 h v_z_At z.At) (s_z_Bits : Sl Za3 h v_z_Bits z.Bits) (s_z_Own : Sl Za6 h v_z_Own z.Own) (s_raw : Sl Zb h v_raw raw) {r : Bool} (hp : zf z raw = some r) :
  ∃ u k', Is G 159 [.ag [v_z_At, v_z_Bits, v_z_Own], v_raw] h u k' ∧ V.b r = u ∧ Own (fun r => r < h.n) h k' [] := by
 refine WC.is (WC_of G_F_muntinlaw20_FrontFirst ?_)
 unfold zf at hp
 let B : Nat → Prop := (fun r => r < h.n)
 have hO : Own B h h [] := Own.start0 h
 refine W_sq (W_rg (z8 (hO.boxd (v := .ag [v_z_At, v_z_Bits, v_z_Own]) (cs := [v_z_At, v_z_Bits, v_z_Own]) hO.fr rfl rfl) ?_))
 rintro _ k₁ ⟨r₁, rfl, n₁, f₁, hW⟩
 have hO₁ : Own B h k₁ [eBox r₁ [v_z_At, v_z_Bits, v_z_Own]] := hW
 refine Za (a_mv (v := .b false) rfl) (Zf (Zd (W_sq (W_rg (Za (a_ldbA (cs := [v_z_At, v_z_Bits, v_z_Own]) (ws := [v_z_At, v_z_Bits, v_z_Own]) (hO₁.box 0 rfl) rfl rfl) ?_)))))
 obtain ⟨⟨x, x1⟩, hx₁, hp⟩ := Zv hp
 obtain ⟨u₁, k₂, ca₁, v₁, v₂, rfl, hW₁⟩ := Z5.ok (h := k₁)  (hO₁.rd0 s_z_At.rd : Sl Za3 k₁ v_z_At z.At) (hO₁.rd0 s_z_Bits.rd : Sl Za3 k₁ v_z_Bits z.Bits) (hO₁.rd0 s_z_Own.rd : Sl Za6 k₁ v_z_Own z.Own) hx₁
 refine zS (id := 28) (caps := []) rfl (Z2 (v := .ag [v_z_At, v_z_Bits, v_z_Own]) rfl (Z2 (v := .i .i64 16) rfl zi)) ca₁ ?_
 have hO₂ : Own B h k₂ [eBox r₁ [v_z_At, v_z_Bits, v_z_Own], eSl Zb v₁ x, eSl Zh v₂ x1] := hO₁.call hW₁ rfl
 refine Za (a_mv (v := .tu [v₁, v₂]) rfl) (Za (Zah (vs := [v₁, v₂]) (v := v₁) rfl rfl) (Za (Zah (vs := [v₁, v₂]) (v := v₂) rfl rfl) (Za (a_mv (v := v₁) rfl) (Za (a_mv (v := v₂) rfl) (Zf (Zd (W_sq ?_)))))))
 refine W_sq (W_rg (Za (a_mv (v := v₁) rfl) (Za (a_mv (v := v_raw) rfl) (Za (a_mv (v := v_raw) rfl) (Za (a_len (hO₂.rd0 s_raw.rd : Sl Zb k₂ v_raw raw) rfl) (Za (a_mn (a := (raw.length : Int)) (b := 4) rfl rfl) ?_))))))
 obtain ⟨c₁, hp⟩ := Zk hp
 refine Za (a_slcU (E := Zb) (z := (min (raw.length : Int) 4)) (hO₂.rd0 s_raw.rd : Sl Zb k₂ v_raw raw) rfl rfl c₁) (z8 (hO₂.bsl (E := eV) (l := [v₁, (V.cut v_raw 0 (min (raw.length : Int) 4 : Int).toNat)]) hO₂.fr (by rw [(zq (v := v₁) rfl (zq (v := (V.cut v_raw 0 (min (raw.length : Int) 4 : Int).toNat)) rfl ev_nil))]; simp [fill, over, (hO₂.sl 1 rfl : Sl Zb k₂ v₁ x).cells, (Sl.cutU (hO₂.rd0 s_raw.rd : Sl Zb k₂ v_raw raw) c₁ : Sl Zb k₂ (V.cut v_raw 0 (min (raw.length : Int) 4 : Int).toNat) (raw.take (min (raw.length : Int) 4 : Int).toNat)).cells]) rfl) ?_)
 rintro v₃ k₃ ⟨r₂, f₂, hW⟩
 have hO₃ : Own B h k₃ [eBox r₁ [v_z_At, v_z_Bits, v_z_Own], eSl Zb v₁ x, eSl Zh v₂ x1, eSl eV v₃ [v₁, (V.cut v_raw 0 (min (raw.length : Int) 4 : Int).toNat)]] := hW
 refine Za (a_lenN (n := ([x, raw.take (min (raw.length : Int) 4 : Int).toNat]).length) (hO₃.sl 3 rfl : Sl eV k₃ v₃ [v₁, (V.cut v_raw 0 (min (raw.length : Int) 4 : Int).toNat)]) rfl rfl) (Za (a_mv (v := .i .i64 0) rfl) (Zf (Zd (W_bl ?_))))
 obtain ⟨o₁, ho₁, hp⟩ := Zv hp
 refine W.mono (Q := fun e fr k => match (generalizing := false) o₁ with
   | .inl _ => e = (.exit 0) ∧ Own B h k []
   | .inr _ => e = .ret ∧ fr 4 = .b false ∧ Own B h k []) ?_ ?_
 ·clear hp
  refine zu (fun st fr k => match st with | x2 => fr 25 = v₃ ∧ fr 26 = .i .i64 ([x, raw.take (min (raw.length : Int) 4 : Int).toNat].length : Int) ∧ fr 27 = .i .i64 x2 ∧ Own B h k [eSl eV v₃ [v₁, (V.cut v_raw 0 (min (raw.length : Int) 4 : Int).toNat)], eSl Zb v₁ x]) ho₁ (s := 0) (And.intro (rfl) (And.intro (rfl) (And.intro (rfl) (hO₃.pick [3, 1] rfl (by decide))))) ?_
  rintro x2 q₂ k₅ ⟨q₂_25, q₂_26, q₂_27, hO₅⟩ o₂ hp
  dsimp only [zf.s0] at hp
  refine W_sq (W_rg (Za (a_lss (a := x2) (b := ([x, raw.take (min (raw.length : Int) 4 : Int).toNat].length : Int)) q₂_27 q₂_26) (Zf (Zd (W_sq ?_)))))
  rcases Zu hp with ⟨b₁, hp⟩ | ⟨b₁, hp⟩
  ·refine W_cT (t := (decide (x2 < ([x, raw.take (min (raw.length : Int) 4 : Int).toNat].length : Int)))) rfl b₁ ?_
   refine W_sk (Zd (W_sq (W_bl (W_sq (W_rg ?_)))))
   obtain ⟨c₂, hp⟩ := Zk hp
   refine Za (a_ixa (E := eV) (z := x2) (hO₅.sl 0 rfl : Sl eV k₅ v₃ [v₁, (V.cut v_raw 0 (min (raw.length : Int) 4 : Int).toNat)]) q₂_25 q₂_27 c₂) (Za (z2 (w := (gi [v₁, (V.cut v_raw 0 (min (raw.length : Int) 4 : Int).toNat)] (x2 : Int).toNat)) (hO₅.sl 0 rfl : Sl eV k₅ v₃ [v₁, (V.cut v_raw 0 (min (raw.length : Int) 4 : Int).toNat)]) rfl (Zm c₂) rfl) (Za (a_mv (v := (gi [v₁, (V.cut v_raw 0 (min (raw.length : Int) 4 : Int).toNat)] (x2 : Int).toNat)) rfl) (Zf (Zd (W_sq (W_rg (Za (a_mv (v := (gi [v₁, (V.cut v_raw 0 (min (raw.length : Int) 4 : Int).toNat)] (x2 : Int).toNat)) rfl) ?_)))))))
   obtain ⟨⟨x3, x4, x5⟩, hx₂, hp⟩ := Zv hp
   obtain ⟨u₂, k₆, ca₂, rfl, hW₂⟩ := zG.ok (h := k₅)  (Lit.at (Lit.cons (hO₅.sl 1 rfl : Sl Zb k₅ v₁ x) (Lit.cons (Sl.cutU (hO₅.rd0 s_raw.rd : Sl Zb k₅ v_raw raw) c₁ : Sl Zb k₅ (V.cut v_raw 0 (min (raw.length : Int) 4 : Int).toNat) (raw.take (min (raw.length : Int) 4 : Int).toNat)) Lit.nil)) (Zm c₂) : Sl Zb k₅ (gi [v₁, (V.cut v_raw 0 (min (raw.length : Int) 4 : Int).toNat)] (x2 : Int).toNat) (gi [x, raw.take (min (raw.length : Int) 4 : Int).toNat] (x2 : Int).toNat)) hx₂
   refine zS (id := 178) (caps := []) rfl (Z2 (v := (gi [v₁, (V.cut v_raw 0 (min (raw.length : Int) 4 : Int).toNat)] (x2 : Int).toNat)) rfl zi) ca₂ ?_
   have hO₆ : Own B h k₆ [eSl eV v₃ [v₁, (V.cut v_raw 0 (min (raw.length : Int) 4 : Int).toNat)], eSl Zb v₁ x] := hO₅.call hW₂ rfl
   refine Za (a_mv (v := .tu [.i .i64 x3, .i .i64 x4, .b x5]) rfl) (Za (Zah (vs := [.i .i64 x3, .i .i64 x4, .b x5]) (v := .i .i64 x3) rfl rfl) (Za (Zah (vs := [.i .i64 x3, .i .i64 x4, .b x5]) (v := .i .i64 x4) rfl rfl) (Za (Zah (vs := [.i .i64 x3, .i .i64 x4, .b x5]) (v := .b x5) rfl rfl) (Za (a_mv (v := .i .i64 x3) rfl) (Za (a_mv (v := .i .i64 x4) rfl) (Za (a_mv (v := .b x5) rfl) (Zf ?_)))))))
   refine Zd (W_sq (W_rg (Za (a_mv (v := (gi [v₁, (V.cut v_raw 0 (min (raw.length : Int) 4 : Int).toNat)] (x2 : Int).toNat)) rfl) ?_)))
   obtain ⟨⟨x6, x7⟩, hx₃, hp⟩ := Zv hp
   obtain ⟨u₃, k₇, ca₃, rfl, hW₃⟩ := ZQ.ok (h := k₆)  (Lit.at (Lit.cons (hO₆.sl 1 rfl : Sl Zb k₆ v₁ x) (Lit.cons (Sl.cutU (hO₆.rd0 s_raw.rd : Sl Zb k₆ v_raw raw) c₁ : Sl Zb k₆ (V.cut v_raw 0 (min (raw.length : Int) 4 : Int).toNat) (raw.take (min (raw.length : Int) 4 : Int).toNat)) Lit.nil)) (Zm c₂) : Sl Zb k₆ (gi [v₁, (V.cut v_raw 0 (min (raw.length : Int) 4 : Int).toNat)] (x2 : Int).toNat) (gi [x, raw.take (min (raw.length : Int) 4 : Int).toNat] (x2 : Int).toNat)) hx₃
   refine zS (id := 179) (caps := []) rfl (Z2 (v := (gi [v₁, (V.cut v_raw 0 (min (raw.length : Int) 4 : Int).toNat)] (x2 : Int).toNat)) rfl zi) ca₃ ?_
   have hO₇ : Own B h k₇ [eSl eV v₃ [v₁, (V.cut v_raw 0 (min (raw.length : Int) 4 : Int).toNat)], eSl Zb v₁ x] := hO₆.call hW₃ rfl
   refine Za (a_mv (v := .tu [.i .i64 x6, .i .i64 x7]) rfl) (Za (Zah (vs := [.i .i64 x6, .i .i64 x7]) (v := .i .i64 x6) rfl rfl) (Za (Zah (vs := [.i .i64 x6, .i .i64 x7]) (v := .i .i64 x7) rfl rfl) (Za (a_mv (v := .i .i64 x6) rfl) (Za (a_mv (v := .i .i64 x7) rfl) (Zf (Zd (W_sq ?_)))))))
   refine W_rg (Za (a_mv (v := .b x5) rfl) (Za (a_mv (v := .i .i64 x6) rfl) (Za (a_geq (a := x6) (b := 0) rfl rfl) (Za (a_neB (a := x5) (b := (decide (0 ≤ x6))) rfl rfl) (Za (a_mv (v := .b (!(decide (x5 = (decide (0 ≤ x6)))))) rfl) ?_)))))
   refine zB 5 (fun fr' k' => k₇ = k' ∧ fr' 51 = .b ((!(decide (x5 = (decide (0 ≤ x6))))) || (!(decide (x3 = max x6 0)))) ∧ fr' 10 = .i .i64 x4 ∧ fr' 13 = .i .i64 x7 ∧ fr' 25 = v₃ ∧ fr' 26 = .i .i64 ([x, raw.take (min (raw.length : Int) 4 : Int).toNat].length : Int) ∧ fr' 27 = .i .i64 x2) ?_ ?_
   ·rcases bc (!(decide (x5 = (decide (0 ≤ x6))))) with b₂ | b₂
    ·skip
     refine WO_off rfl b₂ (WO_off rfl b₂ (WO_off rfl b₂ (WO_off rfl b₂ (Za (ZW (t := (!(decide (x5 = (decide (0 ≤ x6)))))) (v := .b ((!(decide (x5 = (decide (0 ≤ x6))))) || (!(decide (x3 = max x6 0))))) rfl b₂ (Eq.trans (b := V.b true) rfl (Zar b₂))) (Zf ?_)))))
     exact ⟨rfl, rfl, rfl, rfl, q₂_25, q₂_26, q₂_27⟩
    ·skip
     refine WO_on rfl b₂ (Za (a_mv (v := .i .i64 x3) rfl) (WO_on rfl b₂ (Za (a_mv (v := .i .i64 x6) rfl) (WO_on rfl b₂ (Za (a_mx (a := x6) (b := 0) rfl rfl) (WO_on rfl b₂ (Za (a_neI (a := x3) (b := (max x6 0)) rfl rfl) ?_)))))))
     refine Za (ZT (t := (!(decide (x5 = (decide (0 ≤ x6)))))) (v := .b ((!(decide (x5 = (decide (0 ≤ x6))))) || (!(decide (x3 = max x6 0))))) rfl b₂ (Eq.trans (b := V.b (!(decide (x3 = max x6 0)))) rfl (Zaz b₂))) (Zf ?_)
     exact ⟨rfl, rfl, rfl, rfl, q₂_25, q₂_26, q₂_27⟩
   rintro frg₁ _ ⟨rfl, g₁_51, g₁_10, g₁_13, g₁_25, g₁_26, g₁_27⟩
   refine Za (a_mv (v := .b ((!(decide (x5 = (decide (0 ≤ x6))))) || (!(decide (x3 = max x6 0))))) g₁_51) ?_
   refine zB 4 (fun fr' k' => k₇ = k' ∧ fr' 56 = .b (((!(decide (x5 = (decide (0 ≤ x6))))) || (!(decide (x3 = max x6 0)))) || (!(decide (x4 = x7)))) ∧ fr' 25 = v₃ ∧ fr' 26 = .i .i64 ([x, raw.take (min (raw.length : Int) 4 : Int).toNat].length : Int) ∧ fr' 27 = .i .i64 x2) ?_ ?_
   ·rcases bc ((!(decide (x5 = (decide (0 ≤ x6))))) || (!(decide (x3 = max x6 0)))) with b₃ | b₃
    ·skip
     refine WO_off rfl b₃ (WO_off rfl b₃ (WO_off rfl b₃ (Za (ZW (t := ((!(decide (x5 = (decide (0 ≤ x6))))) || (!(decide (x3 = max x6 0))))) (v := .b (((!(decide (x5 = (decide (0 ≤ x6))))) || (!(decide (x3 = max x6 0)))) || (!(decide (x4 = x7))))) rfl b₃ (Eq.trans (b := V.b true) rfl (Zar b₃))) (Zf ?_))))
     exact ⟨rfl, rfl, g₁_25, g₁_26, g₁_27⟩
    ·skip
     refine WO_on rfl b₃ (Za (a_mv (v := .i .i64 x4) g₁_10) (WO_on rfl b₃ (Za (a_mv (v := .i .i64 x7) g₁_13) (WO_on rfl b₃ (Za (a_neI (a := x4) (b := x7) rfl rfl) (Za (ZT (t := ((!(decide (x5 = (decide (0 ≤ x6))))) || (!(decide (x3 = max x6 0))))) (v := .b (((!(decide (x5 = (decide (0 ≤ x6))))) || (!(decide (x3 = max x6 0)))) || (!(decide (x4 = x7))))) rfl b₃ (Eq.trans (b := V.b (!(decide (x4 = x7)))) rfl (Zaz b₃))) (Zf ?_)))))))
     exact ⟨rfl, rfl, g₁_25, g₁_26, g₁_27⟩
   rintro frg₂ _ ⟨rfl, g₂_56, g₂_25, g₂_26, g₂_27⟩
   refine Zf (Zd ?_)
   rcases Zu hp with ⟨b₄, hp⟩ | ⟨b₄, hp⟩
   ·refine W_cT (t := (((!(decide (x5 = (decide (0 ≤ x6))))) || (!(decide (x3 = max x6 0)))) || (!(decide (x4 = x7))))) g₂_56 b₄ ?_
    refine W_sq (W_rg (Za (a_mv (v := .b false) rfl) (Zf (Zd (W_rt (zY (zh ?_)))))))
    have hp := Option.some.inj hp; subst hp
    refine (Or.inr (Exists.intro (.inr ()) (And.intro rfl (And.intro (fun h => nomatch h) (fun he => ?_)))))
    subst he; exact (And.intro rfl (And.intro (rfl) (hO₇.pick [] rfl (by decide))))
   ·refine W_cF (t := (((!(decide (x5 = (decide (0 ≤ x6))))) || (!(decide (x3 = max x6 0)))) || (!(decide (x4 = x7))))) g₂_56 b₄ ?_
    refine W_sk (z9 (Zd (W_rg ?_)))
    obtain ⟨c₃, hp⟩ := Zk hp
    refine Za (a_add (a := x2) (b := 1) g₂_27 rfl c₃) (Za (a_mv (v := .i .i64 (x2 + 1)) rfl) (Zf ?_))
    have hp := Option.some.inj hp; subst hp
    exact (Or.inl (Exists.intro (x2 + 1) (And.intro rfl (And.intro rfl (And.intro (g₂_25) (And.intro (g₂_26) (And.intro (rfl) (hO₇.pick [0, 1] rfl (by decide)))))))))
  ·refine W_cF (t := (decide (x2 < ([x, raw.take (min (raw.length : Int) 4 : Int).toNat].length : Int)))) rfl b₁ ?_
   refine W_ex (zz ?_)
   have hp := Option.some.inj hp; subst hp
   refine (Or.inr (Exists.intro (.inl ()) (And.intro rfl (And.intro (fun h => nomatch h) (fun he => ?_)))))
   subst he; exact (And.intro rfl (hO₅.pick [] rfl (by decide)))
 intro e₁ q₁ k₄ hJ₁
 rcases o₁ with _ | _
 ·obtain ⟨rfl, hO₄⟩ := hJ₁
  refine zI (Zd (W_sq (W_rg ?_)))
  obtain ⟨x8, hx₄, hp⟩ := Zv hp
  obtain ⟨u₄, k₈, ca₄, rfl, hW₄⟩ := Zad.ok (h := k₄)   hx₄
  refine zS (id := 17) (caps := []) rfl zi ca₄ ?_
  have hO₈ : Own B h k₈ [] := hO₄.call hW₄ rfl
  refine Za (a_mv (v := .b x8) rfl) (Zf (Zd (W_rt (Ret_r (rs_t (n := 4) (v := .b x8) rfl rs_nil) ?_))))
  have hp := Option.some.inj hp; subst hp
  exact (And.intro rfl (hO₈.pick [] rfl (by decide)))
 ·obtain ⟨rfl, q₁_4, hO₄⟩ := hJ₁
  refine zY (zh (Ret_r (rs_t (n := 4) (v := .b false) q₁_4 rs_nil) ?_))
  have hp := Option.some.inj hp; subst hp
  exact (And.intro rfl (hO₄.pick [] rfl (by decide)))

end Mu
