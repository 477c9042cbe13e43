/- Layer 10: crossed, with, make. -/
import Derived.Test.YtofdeafffbkgbaaMuM10
set_option linter.unusedVariables false
set_option linter.unusedSimpArgs false
set_option maxRecDepth 10000
namespace Mu

theorem ckI64 {α : Type} {x : Int} {o : Option α} (h : -9223372036854775808 ≤ x ∧ x ≤ 9223372036854775807) : ck (in64 x) o = o := ck_pos h
theorem and_if {a : Bool} {b : Bool} : (if a = true then some b else some false) = some (a && b) := by cases a <;> rfl
theorem any_find {n : Nat} {P : Nat → Bool} : ((List.range n).any P) = ((List.range n).find? P).isSome := by
  rw [Bool.eq_iff_iff, List.find?_isSome, List.any_eq_true]
/-! with -/
/-! What may be. -/
end Mu
