/- Layer 4: LayerTight. -/
import Derived.Test.YtofdeafffbkgbaaMuM04d
set_option linter.unusedVariables false
set_option linter.unusedSimpArgs false
set_option maxRecDepth 10000
namespace Mu
theorem kLayerWakes : p_muntinlaw04_wakes = some true := by decide +kernel
theorem iEqual {s : List Int} (hs : s.length ≤ 1000000) : p_slices_Equal_int s s = some true := by
  have h : loopF (p_slices_Equal_int.s0 s s) big 0 = some (.inl ()) := by
    refine loop_to (fun n : Nat => (n : Int)) (n := s.length) (big_lt (by omega)) rfl (fun n hn => ?_) ?_
    · simp only [p_slices_Equal_int.s0]
      rw [ifd_pos (by omega), ck_pos (by omega), ck_pos (by omega), if_neg (by simp), ckI64 (by omega)]
      rfl
    · simp only [p_slices_Equal_int.s0]
      rw [ifd_neg (by omega)]
  unfold p_slices_Equal_int
  rw [ifn_neg rfl, h, Option.bind_some]
theorem Lay.below {n : Nat} {arcs : List T_api_Arc} {x : List Int} (h : Lay n arcs x) (hr : RA n arcs) {u : Int} (hu : 0 ≤ u) : ∀ (d : Nat) (i : Nat), i < n → gi x i = u + d → ∃ j, j < n ∧ gi x j = u
  | 0, i, hi, e => ⟨i, hi, by omega⟩
  | d + 1, i, hi, e => by
    obtain ⟨a, ha, h1, h2⟩ := h.tight i hi (by omega)
    have := hr a ha
    exact Lay.below h hr hu d a.From.toNat (by omega) (by omega)
end Mu
