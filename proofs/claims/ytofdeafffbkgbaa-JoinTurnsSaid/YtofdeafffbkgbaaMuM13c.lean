/- Layer 13: spread, walked. -/
import Derived.Test.YtofdeafffbkgbaaMuM13b
set_option linter.unusedVariables false
set_option linter.unusedSimpArgs false
set_option maxRecDepth 10000
namespace Mu

theorem mSpread1 {l : List T_api_Cell} (hc : Ck l) (hl : l.length ≤ 4096) {v h : Nat} {t0 t : List Int} {δ : Nat → Nat} {fr dr : List Int} {mt : List Bool} (hh : h < l.length) (sb : Sb l v δ fr dr mt) (si : Si l v h δ t mt 0) (hn : mt.count false + t.length ≤ l.length) :
    ∃ r : List Int × List Int × List Int × List Bool, loopF (p_join_spread.s1 l ((h : Int) :: t0)) big (fr, dr, t, mt, 0) = some r ∧ ∃ δ', Sb l v δ' r.1 r.2.1 r.2.2.2 ∧ Si l v h δ' r.2.2.1 r.2.2.2 4 ∧ r.2.2.2.count false + r.2.2.1.length = mt.count false + t.length := by
  have g0 : ∀ x : List Int, gi ((h : Int) :: x) (0 : Int).toNat = h := fun _ => rfl
  refine loop_inv (n := 4) (I := fun d (s : List Int × List Int × List Int × List Bool × Int) => s.2.2.2.2 = d ∧ ∃ δ', Sb l v δ' s.1 s.2.1 s.2.2.2.1 ∧ Si l v h δ' s.2.2.1 s.2.2.2.1 d ∧ s.2.2.2.1.count false + s.2.2.1.length = mt.count false + t.length) (R := fun r : List Int × List Int × List Int × List Bool => ∃ δ', Sb l v δ' r.1 r.2.1 r.2.2.2 ∧ Si l v h δ' r.2.2.1 r.2.2.2 4 ∧ r.2.2.2.count false + r.2.2.1.length = mt.count false + t.length) (big_lt (by omega)) ⟨rfl, δ, sb, si, rfl⟩ ?_ ?_
  · rintro d ⟨fr', dr', t', mt', x⟩ hd ⟨hx, δ', sb', si', hn'⟩
    dsimp only at hx sb' si' hn'
    subst hx
    simp only [p_join_spread.s1]
    rw [ifd_pos (by omega), g0, ck_pos (by omega), ck_pos (by omega), Int.toNat_natCast]
    have e : ((gi l h).Next).get (d : Int) = nx l h d := rfl
    rw [e]
    have hlt := hc.lt hh (show d < 4 from hd)
    have lm := sb'.lm
    have lf := sb'.lf
    have ld := sb'.ld
    by_cases c : 0 ≤ nx l h d
    · obtain ⟨w, hw⟩ : ∃ w : Nat, nx l h d = w := ⟨(nx l h d).toNat, by omega⟩
      rw [hw]
      rw [hw] at hlt
      have hwl : w < l.length := by omega
      rw [ifd_pos (by omega), ck_pos (by omega), Option.bind_some, Int.toNat_natCast]
      cases hm : gi mt' w with
      | true =>
        rw [if_neg (by decide), ckI64 (by omega)]
        refine ⟨_, rfl, rfl, δ', sb', si'.skip (fun w' hw' => ?_), hn'⟩
        have : w' = w := by omega
        rw [this]; exact hm
      | false =>
        have hcount := count_set_t (m := mt') (w := w) (by omega) hm
        rw [if_pos (by decide), ck_pos (by omega), ck_pos (by omega), ck_pos (by omega), ck_pos (by simp; omega), ckI64 (by omega)]
        refine ⟨_, rfl, rfl, _, sb'.meet hc si'.hm hd hw hwl hm, si'.meet lm hw hwl hm, ?_⟩
        simp only [List.length_append, List.length_cons, List.length_nil]
        omega
    · rw [ifd_neg (by omega), Option.bind_some, if_neg (by decide), ckI64 (by omega)]
      exact ⟨_, rfl, rfl, δ', sb', si'.skip (fun w' hw' => by omega), hn'⟩
  · rintro ⟨fr', dr', t', mt', x⟩ ⟨hx, δ', sb', si', hn'⟩
    dsimp only at hx sb' si' hn'
    subst hx
    simp only [p_join_spread.s1]
    rw [ifd_neg (by omega)]
    exact ⟨_, rfl, δ', sb', si', hn'⟩
/-- What spread gives: for each cell that can be reached, how far it is. -/
structure Spr (l : List T_api_Cell) (v : Nat) (fr dr : List Int) : Prop where
  lf : fr.length = l.length
  ld : dr.length = l.length
  fm : ∀ a n, Dist l v a n → a ≠ v → ∃ p d m : Nat, gi fr a = p ∧ gi dr a = d ∧ d < 4 ∧ nx l p d = a ∧ Dist l v p m ∧ n = m + 1
  un : ∀ a, a < l.length → (∀ n, ¬ Rch l v n a) → gi dr a = -1
theorem spr_of {l : List T_api_Cell} (hc : Ck l) {v : Nat} {δ : Nat → Nat} {fr dr : List Int} {mt : List Bool} (hv : v < l.length) (sb : Sb l v δ fr dr mt) (so : So l v δ [] mt) : Spr l v fr dr := by
  have all : ∀ n a, Rch l v n a → gi mt a = true ∧ δ a ≤ n := by
    intro n a h
    induction h with
    | zero => exact ⟨sb.mv, by rw [sb.dv]; omega⟩
    | succ hr hab ih =>
      have := (so.pr _ ih.1 (by simp)).2 _ hab
      exact ⟨this.1, by omega⟩
  have dist : ∀ a, gi mt a = true → Dist l v a (δ a) := fun a ha => ⟨sb.rc a ha, fun m hm => (all m a hm).2⟩
  refine ⟨sb.lf, sb.ld, fun a n hd hav => ?_, fun a ha hu => ?_⟩
  · have hm := (all n a hd.1).1
    obtain ⟨p, d, h1, h2, h3, h4, h5, h6⟩ := sb.fm a hm hav
    refine ⟨p, d, δ p, h1, h2, h3, h5, dist p h4, ?_⟩
    have := (dist a hm).uniq hd
    omega
  · refine sb.un a ha ?_
    cases h : gi mt a with
    | false => rfl
    | true => exact absurd (sb.rc a h) (hu _)
theorem mSpread {l : List T_api_Cell} (hc : Ck l) (hl : l.length ≤ 64) {v : Nat} (hv : v < l.length) : ∃ fr dr, p_join_spread l v = some (fr, dr) ∧ Spr l v fr dr := by
  have gr : ∀ a, gi (List.replicate l.length false) a = false := by
    intro a
    by_cases h : a < l.length
    · rw [gi_eq (by simpa using h)]; simp
    · rw [gi_default (by simpa using h)]; rfl
  have gr2 : ∀ a, a < l.length → gi (List.replicate l.length (-1 : Int)) a = -1 := by
    intro a h
    rw [gi_eq (by simpa using h)]; simp
  have gm : ∀ a, gi ((List.replicate l.length false).set v true) a = if a = v then true else false := by
    intro a
    rw [gi_set (by simpa using hv), gr]
  have sb0 : Sb l v (fun _ => 0) (List.replicate l.length (-1)) (List.replicate l.length (-1)) ((List.replicate l.length false).set v true) := by
    refine ⟨by simp, by simp, by simp, by rw [gm, if_pos rfl], rfl, fun a ha => ?_, fun a ha hav => ?_, fun a ha hu => gr2 a ha⟩
    · rw [gm] at ha
      by_cases c : a = v
      · subst c; exact .zero
      · rw [if_neg c] at ha; cases ha
    · rw [gm, if_neg hav] at ha; cases ha
  have so0 : So l v (fun _ => 0) [(v : Int)] ((List.replicate l.length false).set v true) := by
    refine ⟨fun x hx => ?_, List.pairwise_singleton _ _, fun a ha hn => ?_⟩
    · rw [List.mem_singleton] at hx
      exact ⟨v, hx, hv, by rw [gm, if_pos rfl]⟩
    · rw [gm] at ha
      by_cases c : a = v
      · subst c; exact absurd List.mem_cons_self hn
      · rw [if_neg c] at ha; cases ha
  have cnt0 : ((List.replicate l.length false).set v true).count false + 1 = l.length := by
    rw [count_set_t (by simpa using hv) (gr v)]; simp
  obtain ⟨r, h1, h2⟩ := loop_meas (step := p_join_spread.s0 l) (s0 := (List.replicate l.length (-1), List.replicate l.length (-1), [(v : Int)], (List.replicate l.length false).set v true)) (μ := fun s : List Int × List Int × List Int × List Bool => s.2.2.2.count false + s.2.2.1.length) (I := fun s => ∃ δ, Sb l v δ s.1 s.2.1 s.2.2.2 ∧ So l v δ s.2.2.1 s.2.2.2 ∧ s.2.2.2.count false + s.2.2.1.length ≤ l.length) (R := fun r : List Int × List Int => Spr l v r.1 r.2) (big_lt (by simp only [List.length_cons, List.length_nil]; omega)) ⟨_, sb0, so0, by simp only [List.length_cons, List.length_nil]; omega⟩ (by
    rintro ⟨fr, dr, q, mt⟩ ⟨δ, sb, so, hn⟩
    dsimp only at sb so hn
    simp only [p_join_spread.s0]
    cases q with
    | nil =>
      right
      rw [ifd_neg (by simp)]
      exact ⟨_, rfl, spr_of hc hv sb so⟩
    | cons x t =>
      left
      obtain ⟨h, rfl, hh, _⟩ := so.el x List.mem_cons_self
      rw [List.length_cons] at hn
      obtain ⟨⟨fr', dr', t', mt'⟩, e1, δ', sb', si', hn'⟩ := mSpread1 (t0 := t) hc (by omega) hh sb so.open (by omega)
      dsimp only at e1 sb' si' hn'
      have hd : List.drop (1 : Int).toNat ((h : Int) :: t) = t := rfl
      rw [ifd_pos (by simp <;> omega), ck_pos (by simp <;> omega), ck_pos (by simp <;> omega), hd, e1, Option.bind_some]
      refine ⟨_, rfl, ⟨δ', sb', si'.close, by dsimp only; omega⟩, ?_⟩
      simp only [List.length_cons]
      omega)
  obtain ⟨fr, dr⟩ := r
  refine ⟨fr, dr, ?_, h2⟩
  unfold p_join_spread
  rw [mRepeat hl, Option.bind_some, Option.bind_some, ck_pos (by omega), Int.toNat_natCast, ck_pos (by simp; omega), Int.toNat_natCast, h1, Option.bind_some]
end Mu
