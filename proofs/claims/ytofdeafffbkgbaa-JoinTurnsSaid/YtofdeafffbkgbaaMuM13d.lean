/- Layer 13: far. -/
import Derived.Test.YtofdeafffbkgbaaMuM13c
set_option linter.unusedVariables false
set_option linter.unusedSimpArgs false
set_option maxRecDepth 10000
namespace Mu

/-- How far after so many rounds, the cells ahead of i done, of i the directions ahead of d. -/
structure Fa (l : List T_api_Cell) (v r i d : Nat) (far : List Int) : Prop where
  lf : far.length = l.length
  so : ∀ a, a < l.length → gi far a = -1 ∨ ∃ n : Nat, gi far a = n ∧ Dist l v a n ∧ n ≤ r + 1
  al : ∀ a n, Dist l v a n → n ≤ r → gi far a = n
  nw : ∀ (a b e : Nat), e < 4 → Dist l v a r → nx l a e = b → (a < i ∨ a = i ∧ e < d) → 0 ≤ gi far b
/-- The distance as a number: -1, where there is none. -/
def IsFar (l : List T_api_Cell) (v a : Nat) (x : Int) : Prop := (x = -1 ∧ ∀ n, ¬ Rch l v n a) ∨ ∃ n : Nat, x = n ∧ Dist l v a n
theorem Fa.close {l : List T_api_Cell} (hc : Ck l) {v r : Nat} {far : List Int} (hv : v < l.length) (h : Fa l v r l.length 0 far) : Fa l v (r + 1) 0 0 far := by
  refine ⟨h.lf, fun a ha => (h.so a ha).imp id (fun ⟨n, e, d, k⟩ => ⟨n, e, d, by omega⟩), fun a n hd hn => ?_, fun a b e he hd hw hh => by omega⟩
  by_cases c : n ≤ r
  · exact h.al a n hd c
  · obtain rfl : n = r + 1 := by omega
    obtain ⟨p, hp, e, he, hw⟩ := hd.pred
    have hpl := hp.1.lt hc hv
    have := h.nw p a e he hp hw (.inl hpl)
    rcases h.so a (hd.1.lt hc hv) with e1 | ⟨m, e1, e2, e3⟩
    · omega
    · rw [e1, e2.uniq hd]
end Mu
