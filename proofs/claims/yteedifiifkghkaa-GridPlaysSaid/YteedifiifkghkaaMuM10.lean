/- Layer 10: cells, made of places. -/
import Derived.Test.YteedifiifkghkaaMuV
import Derived.Test.YteedifiifkghkaaMuDf
set_option linter.unusedVariables false
set_option linter.unusedSimpArgs false
set_option maxRecDepth 10000
namespace Mu

def nx (l : List T_api_Cell) (v d : Nat) : Int := ((gi l v).Next).get (d : Int)
def ow (l : List T_api_Cell) (v d : Nat) : Int := ((gi l v).Owner).get (d : Int)
theorem A4_get_set {α : Type} {x : A4 α} {i j : Nat} {v : α} (hi : i < 4) (hj : j < 4) : (x.set (i : Int) v).get (j : Int) = if j = i then v else x.get (j : Int) := by
  match i, j, hi, hj with
  | 0, 0, _, _ | 0, 1, _, _ | 0, 2, _, _ | 0, 3, _, _ | 1, 0, _, _ | 1, 1, _, _ | 1, 2, _, _ | 1, 3, _, _ | 2, 0, _, _ | 2, 1, _, _ | 2, 2, _, _ | 2, 3, _, _ | 3, 0, _, _ | 3, 1, _, _ | 3, 2, _, _ | 3, 3, _, _ => rfl
/-- A cell with no edges. -/
def noC : T_api_Cell := ⟨⟨-1, -1, -1, -1⟩, ⟨0, 0, 0, 0⟩⟩
theorem gi_map_range {α : Type} [Inhabited α] {n i : Nat} {f : Nat → α} (h : i < n) : gi ((List.range n).map f) i = f i := by
  rw [gi_eq (by simpa using h)]; simp
theorem list_ext {α : Type} [Inhabited α] {l m : List α} (h : l.length = m.length) (hg : ∀ i, i < l.length → gi l i = gi m i) : l = m := by
  apply List.ext_getElem h
  intro i h1 h2
  have := hg i h1
  rw [gi_eq h1, gi_eq h2] at this
  exact this

/-! New -/
theorem mNew {n : Nat} (hn : n ≤ 1000000000) : p_muntinref10_New n = some (List.replicate n noC) := by
  unfold p_muntinref10_New
  rw [ck_pos (by omega), Int.toNat_natCast, bd_eq (x := List.replicate n noC)]
  refine loop_to (fun i : Nat => (List.replicate i noC ++ List.replicate (n - i) ⟨⟨0, 0, 0, 0⟩, ⟨0, 0, 0, 0⟩⟩, (i : Int))) (n := n) (big_lt (by omega)) (by simp) (fun i hi => ?_) ?_
  · have e1 : List.replicate (n - i) (⟨⟨0, 0, 0, 0⟩, ⟨0, 0, 0, 0⟩⟩ : T_api_Cell) = ⟨⟨0, 0, 0, 0⟩, ⟨0, 0, 0, 0⟩⟩ :: List.replicate (n - (i + 1)) ⟨⟨0, 0, 0, 0⟩, ⟨0, 0, 0, 0⟩⟩ := by
      rw [show n - i = n - (i + 1) + 1 by omega, List.replicate_succ]
    have e2 : List.replicate (i + 1) noC = List.replicate i noC ++ [noC] := by rw [List.replicate_succ']
    have inner : loopF (p_muntinref10_New.s1 i) big (List.replicate i noC ++ List.replicate (n - i) ⟨⟨0, 0, 0, 0⟩, ⟨0, 0, 0, 0⟩⟩, 0) = some (List.replicate (i + 1) noC ++ List.replicate (n - (i + 1)) ⟨⟨0, 0, 0, 0⟩, ⟨0, 0, 0, 0⟩⟩) := by
      rw [e1, e2]
      generalize List.replicate (n - (i + 1)) (⟨⟨0, 0, 0, 0⟩, ⟨0, 0, 0, 0⟩⟩ : T_api_Cell) = r
      refine loop_to (fun k : Nat => (List.replicate i noC ++ (⟨⟨if 0 < k then -1 else 0, if 1 < k then -1 else 0, if 2 < k then -1 else 0, if 3 < k then -1 else 0⟩, ⟨0, 0, 0, 0⟩⟩ : T_api_Cell) :: r, (k : Int))) (n := 4) (big_lt (by omega)) rfl (fun k hk => ?_) ?_
      · have hlen : (List.replicate i noC).length = i := by simp
        have g : ∀ c : T_api_Cell, gi (List.replicate i noC ++ c :: r) i = c := by
          intro c
          have := gi_append_right (l := List.replicate i noC) (m := c :: r) (i := 0)
          rw [hlen, Nat.add_zero] at this
          rw [this]; rfl
        have st : ∀ c d : T_api_Cell, (List.replicate i noC ++ c :: r).set i d = List.replicate i noC ++ d :: r := by
          intro c d
          rw [List.set_append_right _ _ (by simp)]
          simp
        simp only [p_muntinref10_New.s1]
        rw [ifd_pos (by omega), ck_pos (by simp; omega), ck_pos (by omega), ck_pos (by omega), Int.toNat_natCast, g, st]
        match k, hk with
        | 0, _ | 1, _ | 2, _ | 3, _ => rfl
      · simp only [p_muntinref10_New.s1]
        rw [ifd_neg (by omega)]
        simp [noC]
    simp only [p_muntinref10_New.s0]
    rw [ifd_pos (by omega), inner, Option.bind_some, ck_pos (by omega)]
    rfl
  · simp only [p_muntinref10_New.s0]
    rw [ifd_neg (by omega)]
    simp

/-! The nearest -/
/-- A loop that keeps something. -/
theorem loop_inv {σ ρ : Type} {step : σ → Option (σ ⊕ ρ)} {n : Nat} (I : Nat → σ → Prop) {s0 : σ} {R : ρ → Prop} (hn : n < big) (h0 : I 0 s0) (hs : ∀ i s, i < n → I i s → ∃ s', step s = some (.inl s') ∧ I (i + 1) s') (he : ∀ s, I n s → ∃ r, step s = some (.inr r) ∧ R r) : ∃ r, loopF step big s0 = some r ∧ R r := by
  have key : ∀ k i s, i + k = n → I i s → ∃ r, loopF step (k + 1) s = some r ∧ R r := by
    intro k
    induction k with
    | zero =>
      intro i s hi hI
      obtain rfl : i = n := by omega
      obtain ⟨r, hr, hR⟩ := he s hI
      exact ⟨r, by simp only [loopF, hr], hR⟩
    | succ k ih =>
      intro i s hi hI
      obtain ⟨s', hs', hI'⟩ := hs i s (by omega) hI
      obtain ⟨r, hr, hR⟩ := ih (i + 1) s' (by omega) hI'
      exact ⟨r, by rw [loopF, hs']; exact hr, hR⟩
  obtain ⟨r, hr, hR⟩ := key n 0 s0 (by omega) h0
  exact ⟨r, loopF_le hr (by unfold big at *; omega), hR⟩
end Mu
