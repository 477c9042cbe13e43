/- Layer 10: make. -/
import Derived.Test.YtofdeafffbkgbaaMuM10b
set_option linter.unusedVariables false
set_option linter.unusedSimpArgs false
set_option maxRecDepth 10000
namespace Mu

theorem loop_meas {σ ρ : Type} {step : σ → Option (σ ⊕ ρ)} (μ : σ → Nat) (I : σ → Prop) {s0 : σ} {R : ρ → Prop} (hn : μ s0 < big) (h0 : I s0) (hs : ∀ s, I s → (∃ s', step s = some (.inl s') ∧ I s' ∧ μ s' < μ s) ∨ ∃ r, step s = some (.inr r) ∧ R r) : ∃ r, loopF step big s0 = some r ∧ R r := by
  have key : ∀ k s, μ s ≤ k → I s → ∃ r, loopF step (k + 1) s = some r ∧ R r := by
    intro k
    induction k with
    | zero =>
      intro s hk hI
      rcases hs s hI with ⟨s', h1, h2, h3⟩ | ⟨r, h1, h2⟩
      · omega
      · exact ⟨r, by simp only [loopF, h1], h2⟩
    | succ k ih =>
      intro s hk hI
      rcases hs s hI with ⟨s', h1, h2, h3⟩ | ⟨r, h1, h2⟩
      · obtain ⟨r, hr, hR⟩ := ih s' (by omega) h2
        exact ⟨r, by rw [loopF, h1]; exact hr, hR⟩
      · exact ⟨r, by rw [loopF, h1], h2⟩
  obtain ⟨r, hr, hR⟩ := key (μ s0) s0 (Nat.le_refl _) h0
  exact ⟨r, loopF_le hr (by omega), hR⟩

theorem Ck.lt {l : List T_api_Cell} (h : Ck l) {v d : Nat} (hv : v < l.length) (hd : d < 4) : -1 ≤ nx l v d ∧ nx l v d < l.length := by
  rcases h.s v d hv hd with ⟨a, _⟩ | ⟨w, a, b, _⟩ <;> omega
end Mu
