/- Layer 13: there and back. -/
import Derived.Test.YtofdeafffbkgbaaMuM13e
set_option linter.unusedVariables false
set_option linter.unusedSimpArgs false
set_option maxRecDepth 10000
namespace Mu
/-- What Path answers. -/
def PathIs (l : List T_api_Cell) (v w : Nat) (p : List Int) (e : Int) : Prop := (e = 0 ∧ Dist l v w p.length) ∨ (e = 13 ∧ p = [] ∧ ∀ n, ¬ Rch l v n w)
theorem mPathIs {l : List T_api_Cell} (hc : Ck l) (hl : l.length ≤ 64) {v w : Nat} (hv : v < l.length) (hw : w < l.length) : ∃ p e, p_join_Path l v w = some (p, e) ∧ PathIs l v w p e := by
  rcases mPath hc hl hv hw with ⟨n, p, h1, h2, h3, _⟩ | ⟨h1, h2⟩
  · exact ⟨p, 0, h2, .inl ⟨rfl, by rw [h3]; exact h1⟩⟩
  · exact ⟨[], 13, h2, .inr ⟨rfl, rfl, h1⟩⟩
theorem okZ {z : T_muntinref10_Places} (m1 : z.At.length ≤ Go.maxLen) (b1 : ∀ y ∈ z.At, Ok_u8 y) (b3 : ∀ y ∈ z.Own, Ok_i8 y) : OkZ z :=
  ⟨by unfold Go.maxLen at m1; omega, b1, b3⟩
end Mu
