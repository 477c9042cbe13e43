/- Layer 10: cells, made of places. -/
import Derived.Test.YtofdeafffbkgbaaMuV
import Derived.Test.YtofdeafffbkgbaaMuDf
set_option linter.unusedVariables false
set_option linter.unusedSimpArgs false
set_option maxRecDepth 10000
namespace Mu

def nx (l : List T_api_Cell) (v d : Nat) : Int := ((gi l v).Next).get (d : Int)
def ow (l : List T_api_Cell) (v d : Nat) : Int := ((gi l v).Owner).get (d : Int)
theorem A4_get_set {α : Type} {x : A4 α} {i j : Nat} {v : α} (hi : i < 4) (hj : j < 4) : (x.set (i : Int) v).get (j : Int) = if j = i then v else x.get (j : Int) := by
  match i, j, hi, hj with
  | 0, 0, _, _ | 0, 1, _, _ | 0, 2, _, _ | 0, 3, _, _ | 1, 0, _, _ | 1, 1, _, _ | 1, 2, _, _ | 1, 3, _, _ | 2, 0, _, _ | 2, 1, _, _ | 2, 2, _, _ | 2, 3, _, _ | 3, 0, _, _ | 3, 1, _, _ | 3, 2, _, _ | 3, 3, _, _ => rfl
/-- A cell with no edges. -/
def noC : T_api_Cell := ⟨⟨-1, -1, -1, -1⟩, ⟨0, 0, 0, 0⟩⟩
theorem gi_map_range {α : Type} [Inhabited α] {n i : Nat} {f : Nat → α} (h : i < n) : gi ((List.range n).map f) i = f i := by
  rw [gi_eq (by simpa using h)]; simp
theorem list_ext {α : Type} [Inhabited α] {l m : List α} (h : l.length = m.length) (hg : ∀ i, i < l.length → gi l i = gi m i) : l = m := by
  apply List.ext_getElem h
  intro i h1 h2
  have := hg i h1
  rw [gi_eq h1, gi_eq h2] at this
  exact this

/-! New -/
/-! The nearest -/
/-- A loop that keeps something. -/
theorem loop_inv {σ ρ : Type} {step : σ → Option (σ ⊕ ρ)} {n : Nat} (I : Nat → σ → Prop) {s0 : σ} {R : ρ → Prop} (hn : n < big) (h0 : I 0 s0) (hs : ∀ i s, i < n → I i s → ∃ s', step s = some (.inl s') ∧ I (i + 1) s') (he : ∀ s, I n s → ∃ r, step s = some (.inr r) ∧ R r) : ∃ r, loopF step big s0 = some r ∧ R r := by
  have key : ∀ k i s, i + k = n → I i s → ∃ r, loopF step (k + 1) s = some r ∧ R r := by
    intro k
    induction k with
    | zero =>
      intro i s hi hI
      obtain rfl : i = n := by omega
      obtain ⟨r, hr, hR⟩ := he s hI
      exact ⟨r, by simp only [loopF, hr], hR⟩
    | succ k ih =>
      intro i s hi hI
      obtain ⟨s', hs', hI'⟩ := hs i s (by omega) hI
      obtain ⟨r, hr, hR⟩ := ih (i + 1) s' (by omega) hI'
      exact ⟨r, by rw [loopF, hs']; exact hr, hR⟩
  obtain ⟨r, hr, hR⟩ := key n 0 s0 (by omega) h0
  exact ⟨r, loopF_le hr (by unfold big at *; omega), hR⟩
end Mu
