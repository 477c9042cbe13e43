/- Layer 4: more arcs. -/
import Derived.Test.YtofdeafffbkgbaaMuM04f
set_option linter.unusedVariables false
set_option linter.unusedSimpArgs false
set_option maxRecDepth 10000
namespace Mu
theorem Lay.le {n : Nat} {arcs arcs' : List T_api_Arc} {x y : List Int} (h : Lay n arcs x) (h' : Lay n arcs' y) (hr : RA n arcs) (hu : ∀ a ∈ arcs, a.From < a.To) (hs : ∀ a ∈ arcs, a ∈ arcs') : ∀ v : Nat, v < n → gi x v ≤ gi y v := by
  intro v hv
  have := h.least hr hu (y := y) (m := 0) (fun a ha => h'.fit a (hs a ha)) (fun v hv => (h'.pos v hv).1) v hv
  omega
theorem Lay.uniq {n : Nat} {arcs arcs' : List T_api_Arc} {x y : List Int} (h : Lay n arcs x) (h' : Lay n arcs' y) (hr : RA n arcs) (hu : ∀ a ∈ arcs, a.From < a.To) (hs : ∀ a, a ∈ arcs ↔ a ∈ arcs') : x = y := by
  have hr' : RA n arcs' := fun a ha => hr a ((hs a).2 ha)
  have hu' : ∀ a ∈ arcs', a.From < a.To := fun a ha => hu a ((hs a).2 ha)
  apply list_ext (h.len.trans h'.len.symm)
  intro i hi
  have hi' : i < n := by have := h.len; omega
  have h1 := h.le h' hr hu (fun a ha => (hs a).1 ha) i hi'
  have h2 := h'.le h hr' hu' (fun a ha => (hs a).2 ha) i hi'
  omega
/-- With an arc more. -/
theorem Lay.more {n : Nat} {arcs arcs' : List T_api_Arc} {x y : List Int} {a b : Nat} {w : Int} (h : Lay n arcs x) (h' : Lay n arcs' y) (hr : RA n arcs) (hu : ∀ a ∈ arcs, a.From < a.To) (hab : a < b) (hb : b < n) (hw : 0 ≤ w ∧ w ≤ 1000000) (hs : ∀ e, e ∈ arcs' ↔ e ∈ arcs ∨ e = ⟨a, b, w⟩) :
    (∀ v : Nat, v < n → gi x v ≤ gi y v) ∧ (∀ v : Nat, v < b → gi y v = gi x v) ∧ gi y b = max (gi x b) (gi x a + 1) := by
  have hr' : RA n arcs' := fun e he => by
    rcases (hs e).1 he with he | rfl
    · exact hr e he
    · dsimp only; omega
  have hu' : ∀ e ∈ arcs', e.From < e.To := fun e he => by
    rcases (hs e).1 he with he | rfl
    · exact hu e he
    · dsimp only; omega
  have A := h.le h' hr hu (fun e he => (hs e).2 (.inl he))
  have B : ∀ v : Nat, v < b → gi y v = gi x v := by
    intro v
    induction v using Nat.strongRecOn with
    | _ v ih =>
      intro hv
      have h1 := A v (by omega)
      have p := h'.pos v (by omega)
      have q := h.pos v (by omega)
      by_cases c : 0 < gi y v
      · obtain ⟨e, he, e1, e2⟩ := h'.tight v (by omega) c
        rcases (hs e).1 he with he | rfl
        · have := hu e he
          have := hr e he
          have i := ih e.From.toNat (by omega) (by omega)
          have f := h.fit e he
          rw [show e.To.toNat = v by omega] at f
          omega
        · dsimp only at e1; omega
      · omega
  refine ⟨A, B, ?_⟩
  have h1 := A b hb
  have p := h'.pos b hb
  have f := h'.fit ⟨a, b, w⟩ ((hs _).2 (.inr rfl))
  dsimp only at f
  rw [Int.toNat_natCast, Int.toNat_natCast, B a hab] at f
  have q := h.pos a (by omega)
  obtain ⟨e, he, e1, e2⟩ := h'.tight b hb (by omega)
  rcases (hs e).1 he with he | rfl
  · have := hu e he
    have := hr e he
    have i := B e.From.toNat (by omega)
    have f2 := h.fit e he
    rw [show e.To.toNat = b by omega] at f2
    omega
  · dsimp only at e2
    rw [Int.toNat_natCast, B a hab] at e2
    omega
end Mu
