/- Layer 10: GridPlays. -/
import Derived.Test.YtofdeafffbkgbaaMuM10e
set_option linter.unusedVariables false
set_option linter.unusedSimpArgs false
set_option maxRecDepth 10000
namespace Mu
theorem kGridWakes : p_muntinlaw10_wakes = some true := by decide +kernel
theorem mGridNew : ∀ k : Nat, k < 8 → p_grid_New (k : Int) = some (some ⟨List.replicate k noC⟩, 0) := by decide +kernel
theorem Rg.start {n : Nat} (h : n ≤ 4096) : Rg (List.replicate n noC) := by
  refine ⟨by simpa using h, fun v d hv hd => ?_⟩
  simp only [List.length_replicate] at hv
  have : gi (List.replicate n noC) v = noC := by rw [gi_eq (by simpa using hv)]; simp
  unfold Mu.nx
  rw [this]
  exact .inl (nx_noC hd).1
end Mu
