/- Layer 10: GridPlays. -/
import Derived.Test.YtofdeafffbkgbaaMuM10e
set_option linter.unusedVariables false
set_option linter.unusedSimpArgs false
set_option maxRecDepth 10000
namespace Mu
theorem kGridWakes : p_muntinlaw10_wakes = some true := by decide +kernel
theorem mGridNew : ∀ k : Nat, k < 8 → p_grid_New (k : Int) = some (some ⟨List.replicate k noC⟩, 0) := by decide +kernel
theorem mSame {a : List T_api_Cell} (h : a.length ≤ 1000000) : p_muntinref10_Same a a = some true := by
  have e : loopF (p_muntinref10_Same.s0 a a) big 0 = some (.inl ()) := by
    refine loop_to (fun n : Nat => (n : Int)) (n := a.length) (big_lt (by omega)) rfl (fun n hn => ?_) ?_
    · simp only [p_muntinref10_Same.s0]
      rw [ifd_pos (by omega), ck_pos (by omega), ck_pos (by omega), if_neg (by simp), ckI64 (by omega)]
      rfl
    · simp only [p_muntinref10_Same.s0]
      rw [ifd_neg (by omega)]
  unfold p_muntinref10_Same
  rw [ifn_neg rfl, e, Option.bind_some]
theorem Rg.start {n : Nat} (h : n ≤ 4096) : Rg (List.replicate n noC) := by
  refine ⟨by simpa using h, fun v d hv hd => ?_⟩
  simp only [List.length_replicate] at hv
  have : gi (List.replicate n noC) v = noC := by rw [gi_eq (by simpa using hv)]; simp
  unfold Mu.nx
  rw [this]
  exact .inl (nx_noC hd).1
end Mu
