/- Layer 4: LayerLeast. -/
import Derived.Test.YtofdeafffbkgbaaMuM04e
set_option linter.unusedVariables false
set_option linter.unusedSimpArgs false
set_option maxRecDepth 10000
namespace Mu
theorem mMax {x : List Int} (h : x ≠ []) (hx : x.length ≤ 1000000) : ∃ M, p_slices_Max_int x = some M ∧ (∀ i, i < x.length → gi x i ≤ M) ∧ ∃ i, i < x.length ∧ gi x i = M := by
  have h0 : 0 < x.length := List.length_pos_iff.2 h
  have : ∃ r, loopF (p_slices_Max_int.s0 x) big (gi x 0, 1) = some r ∧ ((∀ i, i < x.length → gi x i ≤ r) ∧ ∃ i, i < x.length ∧ gi x i = r) := by
    refine loop_inv (fun (k : Nat) (s : Int × Int) => (∀ i, i < k + 1 → gi x i ≤ s.1) ∧ (∃ i, i < x.length ∧ gi x i = s.1) ∧ s.2 = k + 1) (n := x.length - 1) (big_lt (by omega)) ⟨fun i hi => ?_, ⟨0, h0, rfl⟩, rfl⟩ ?_ ?_
    · rw [show i = 0 by omega]; exact Int.le_refl _
    · rintro k ⟨m, j⟩ hk ⟨h1, ⟨i, hi, h2⟩, h3⟩
      dsimp only at h1 h2 h3 ⊢
      subst h3
      simp only [p_slices_Max_int.s0]
      rw [ifd_pos (by omega), ck_pos (by omega), ckI64 (by omega), show ((k : Int) + 1).toNat = k + 1 by omega]
      refine ⟨_, rfl, fun a ha => ?_, ?_, by dsimp only; omega⟩
      · dsimp only
        by_cases c : a = k + 1
        · subst c; omega
        · have := h1 a (by omega); omega
      · dsimp only
        by_cases c : m ≤ gi x (k + 1)
        · exact ⟨k + 1, by omega, by omega⟩
        · exact ⟨i, hi, by omega⟩
    · rintro ⟨m, j⟩ ⟨h1, h2, h3⟩
      dsimp only at h1 h2 h3 ⊢
      subst h3
      simp only [p_slices_Max_int.s0]
      rw [ifd_neg (by omega)]
      exact ⟨_, rfl, fun i hi => h1 i (by omega), h2⟩
  obtain ⟨r, e, h1, h2⟩ := this
  refine ⟨r, ?_, h1, h2⟩
  unfold p_slices_Max_int
  rw [ifd_neg (by omega), Option.bind_some, ck_pos (by omega)]
  show (loopF (p_slices_Max_int.s0 x) big (gi x 0, 1)).bind _ = _
  rw [e, Option.bind_some]
theorem mMin {x : List Int} (h : x ≠ []) (hx : x.length ≤ 1000000) : ∃ M, p_slices_Min_int x = some M ∧ (∀ i, i < x.length → M ≤ gi x i) ∧ ∃ i, i < x.length ∧ gi x i = M := by
  have h0 : 0 < x.length := List.length_pos_iff.2 h
  have : ∃ r, loopF (p_slices_Min_int.s0 x) big (gi x 0, 1) = some r ∧ ((∀ i, i < x.length → r ≤ gi x i) ∧ ∃ i, i < x.length ∧ gi x i = r) := by
    refine loop_inv (fun (k : Nat) (s : Int × Int) => (∀ i, i < k + 1 → s.1 ≤ gi x i) ∧ (∃ i, i < x.length ∧ gi x i = s.1) ∧ s.2 = k + 1) (n := x.length - 1) (big_lt (by omega)) ⟨fun i hi => ?_, ⟨0, h0, rfl⟩, rfl⟩ ?_ ?_
    · rw [show i = 0 by omega]; exact Int.le_refl _
    · rintro k ⟨m, j⟩ hk ⟨h1, ⟨i, hi, h2⟩, h3⟩
      dsimp only at h1 h2 h3 ⊢
      subst h3
      simp only [p_slices_Min_int.s0]
      rw [ifd_pos (by omega), ck_pos (by omega), ckI64 (by omega), show ((k : Int) + 1).toNat = k + 1 by omega]
      refine ⟨_, rfl, fun a ha => ?_, ?_, by dsimp only; omega⟩
      · dsimp only
        by_cases c : a = k + 1
        · subst c; omega
        · have := h1 a (by omega); omega
      · dsimp only
        by_cases c : gi x (k + 1) ≤ m
        · exact ⟨k + 1, by omega, by omega⟩
        · exact ⟨i, hi, by omega⟩
    · rintro ⟨m, j⟩ ⟨h1, h2, h3⟩
      dsimp only at h1 h2 h3 ⊢
      subst h3
      simp only [p_slices_Min_int.s0]
      rw [ifd_neg (by omega)]
      exact ⟨_, rfl, fun i hi => h1 i (by omega), h2⟩
  obtain ⟨r, e, h1, h2⟩ := this
  refine ⟨r, ?_, h1, h2⟩
  unfold p_slices_Min_int
  rw [ifd_neg (by omega), Option.bind_some, ck_pos (by omega)]
  show (loopF (p_slices_Min_int.s0 x) big (gi x 0, 1)).bind _ = _
  rw [e, Option.bind_some]
theorem mSpan {x : List Int} (h : x ≠ []) (hx : x.length ≤ 1000000) (hb : ∀ i, i < x.length → 0 ≤ gi x i ∧ gi x i ≤ 1000000) : ∃ M m, p_layer_Span x = some (M - m) ∧ (∀ i, i < x.length → m ≤ gi x i ∧ gi x i ≤ M) ∧ (∃ i, i < x.length ∧ gi x i = M) ∧ ∃ i, i < x.length ∧ gi x i = m := by
  have h0 : 0 < x.length := List.length_pos_iff.2 h
  obtain ⟨M, e1, a1, b1⟩ := mMax h hx
  obtain ⟨m, e2, a2, b2⟩ := mMin h hx
  refine ⟨M, m, ?_, fun i hi => ⟨a2 i hi, a1 i hi⟩, b1, b2⟩
  obtain ⟨i, hi, b1⟩ := b1
  obtain ⟨j, hj, b2⟩ := b2
  have := hb i hi
  have := hb j hj
  unfold p_layer_Span
  rw [ifd_neg (by omega), e1, Option.bind_some, e2, Option.bind_some, ckI64 (by omega)]
def sat (l : List Int) (a : T_api_Arc) : Prop := gi l a.From.toNat + 1 ≤ gi l a.To.toNat
/-- Raised so far. -/
structure RS (n : Nat) (arcs : List T_api_Arc) (r : Nat) (l : List Int) : Prop where
  len : l.length = n
  pos : ∀ v : Nat, v < n → 0 ≤ gi l v ∧ gi l v ≤ 39 + v
  fit : ∀ a ∈ arcs, a.To < r → sat l a
theorem RS.step {n : Nat} {arcs : List T_api_Arc} {r k : Nat} {l : List Int} (hg : Gr n arcs) (h : RS n arcs r l) (hk : k < arcs.length) (h2 : ∀ i, i < k → (gi arcs i).To = r → sat l (gi arcs i)) {l' : List Int} (hl' : l' = l.set (gi arcs k).To.toNat (max (gi l (gi arcs k).To.toNat) (gi l (gi arcs k).From.toNat + 1))) : RS n arcs r l' ∧ ∀ i, i < k + 1 → (gi arcs i).To = r → sat l' (gi arcs i) := by
  have ha := hg.ra _ (gi_mem hk)
  have hu := hg.up _ (gi_mem hk)
  have hlen := h.len
  have g : ∀ v : Nat, gi l' v = if v = (gi arcs k).To.toNat then max (gi l (gi arcs k).To.toNat) (gi l (gi arcs k).From.toNat + 1) else gi l v := fun v => by rw [hl', gi_set (by omega)]
  have A : ∀ v : Nat, v < r → gi l' v = gi l v := by
    intro v hv
    rw [g]
    by_cases c : v = (gi arcs k).To.toNat
    · have := h.fit _ (gi_mem hk) (by omega)
      unfold sat at this
      rw [if_pos c, c]; omega
    · rw [if_neg c]
  have B : ∀ v : Nat, gi l v ≤ gi l' v := by
    intro v
    rw [g]
    by_cases c : v = (gi arcs k).To.toNat
    · rw [if_pos c, c]; omega
    · rw [if_neg c]; exact Int.le_refl _
  have keep : ∀ a ∈ arcs, a.To ≤ r → sat l a → sat l' a := by
    intro a h1 h2 h3
    have := hg.up a h1
    have := hg.ra a h1
    unfold sat at *
    rw [A _ (by omega)]
    have := B a.To.toNat
    omega
  refine ⟨⟨by rw [hl', List.length_set, hlen], fun v hv => ?_, fun a h1 h2 => keep a h1 (by omega) (h.fit a h1 h2)⟩, fun i hi he => ?_⟩
  · have p1 := h.pos v hv
    have p2 := h.pos (gi arcs k).From.toNat (by omega)
    rw [g]
    by_cases c : v = (gi arcs k).To.toNat
    · rw [if_pos c]; rw [← c]; omega
    · rw [if_neg c]; exact p1
  · by_cases c : i = k
    · subst c
      unfold sat
      rw [A (gi arcs i).From.toNat (by omega), g, if_pos rfl]; omega
    · exact keep _ (gi_mem (by omega)) (by omega) (h2 i (by omega) he)
end Mu
