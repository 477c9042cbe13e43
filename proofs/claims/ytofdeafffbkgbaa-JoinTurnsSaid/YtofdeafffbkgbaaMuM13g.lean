/- Layer 13: join's paths. -/
import Derived.Test.YtofdeafffbkgbaaMuM13f
set_option linter.unusedVariables false
set_option linter.unusedSimpArgs false
set_option maxRecDepth 10000
namespace Mu
theorem mPathOut {l : List T_api_Cell} (hc : Ck l) (hl : l.length ≤ 64) {v w : Int} (h : min v w < 0 ∨ (l.length : Int) ≤ max v w) : p_join_Path l v w = some ([], 2) := by
  have hk : chkP l = 0 := Ck_iff.2 ⟨by omega, hc⟩
  unfold p_join_Path
  rw [mCheck (by omega), Option.bind_some, hk, ifn_neg rfl, if_pos (by
    rw [Bool.or_eq_true, decide_eq_true_iff, decide_eq_true_iff]; exact h)]
end Mu
