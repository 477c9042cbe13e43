/- Layer 13: the document's parts, and the law. -/
import Derived.Test.YtofdeafffbkgbaaMuM13h
set_option linter.unusedVariables false
set_option linter.unusedSimpArgs false
set_option maxRecDepth 10000
namespace Mu
theorem mEqual {s : List Int} (hs : s.length ≤ 1000000) : p_slices_Equal_int s s = some true := by
  have h : loopF (p_slices_Equal_int.s0 s s) big 0 = some (.inl ()) := by
    refine loop_to (fun n : Nat => (n : Int)) (n := s.length) (big_lt (by omega)) rfl (fun n hn => ?_) ?_
    · simp only [p_slices_Equal_int.s0]
      rw [ifd_pos (by omega), ck_pos (by omega), ck_pos (by omega), if_neg (by simp), ckI64 (by omega)]
      rfl
    · simp only [p_slices_Equal_int.s0]
      rw [ifd_neg (by omega)]
  unfold p_slices_Equal_int
  rw [ifn_neg rfl, h, Option.bind_some]
theorem PS_part {l : List T_api_Cell} : ∀ n p, p ∈ (PS l n).1 → p.length ≤ l.length
  | 0, p, h => by simp [PS] at h
  | n + 1, p, h => by
    simp only [PS] at h
    split at h
    · exact PS_part n p h
    · rw [List.mem_append, List.mem_singleton] at h
      rcases h with h | rfl
      · exact PS_part n p h
      · exact partTo_length
theorem mPartsBad {l : List T_api_Cell} (hl : l.length ≤ 64) (h : chkP l ≠ 0) : p_join_Parts l = some ([], chkP l) := by
  unfold p_join_Parts
  rw [mCheck (by omega), Option.bind_some, ifn_pos h]
theorem mWhole {l : List T_api_Cell} (hc : Ck l) (hl : l.length ≤ 64) : p_join_Whole l = some (decide (((PS l l.length).1.length : Int) = 1)) := by
  unfold p_join_Whole
  rw [mJoinParts hc hl, Option.bind_some]
  simp
theorem mWholeBad {l : List T_api_Cell} (hl : l.length ≤ 64) (h : chkP l ≠ 0) : p_join_Whole l = some false := by
  unfold p_join_Whole
  rw [mPartsBad hl h, Option.bind_some]
  simp
end Mu
