/- Layer 4: LayerLeast. -/
import Derived.Test.YteedifiifkghkaaMuM04e
set_option linter.unusedVariables false
set_option linter.unusedSimpArgs false
set_option maxRecDepth 10000
namespace Mu
theorem mMax {x : List Int} (h : x ≠ []) (hx : x.length ≤ 1000000) : ∃ M, p_slices_Max_int x = some M ∧ (∀ i, i < x.length → gi x i ≤ M) ∧ ∃ i, i < x.length ∧ gi x i = M := by
  have h0 : 0 < x.length := List.length_pos_iff.2 h
  have : ∃ r, loopF (p_slices_Max_int.s0 x) big (gi x 0, 1) = some r ∧ ((∀ i, i < x.length → gi x i ≤ r) ∧ ∃ i, i < x.length ∧ gi x i = r) := by
    refine loop_inv (fun (k : Nat) (s : Int × Int) => (∀ i, i < k + 1 → gi x i ≤ s.1) ∧ (∃ i, i < x.length ∧ gi x i = s.1) ∧ s.2 = k + 1) (n := x.length - 1) (big_lt (by omega)) ⟨fun i hi => ?_, ⟨0, h0, rfl⟩, rfl⟩ ?_ ?_
    · rw [show i = 0 by omega]; exact Int.le_refl _
    · rintro k ⟨m, j⟩ hk ⟨h1, ⟨i, hi, h2⟩, h3⟩
      dsimp only at h1 h2 h3 ⊢
      subst h3
      simp only [p_slices_Max_int.s0]
      rw [ifd_pos (by omega), ck_pos (by omega), ckI64 (by omega), show ((k : Int) + 1).toNat = k + 1 by omega]
      refine ⟨_, rfl, fun a ha => ?_, ?_, by dsimp only; omega⟩
      · dsimp only
        by_cases c : a = k + 1
        · subst c; omega
        · have := h1 a (by omega); omega
      · dsimp only
        by_cases c : m ≤ gi x (k + 1)
        · exact ⟨k + 1, by omega, by omega⟩
        · exact ⟨i, hi, by omega⟩
    · rintro ⟨m, j⟩ ⟨h1, h2, h3⟩
      dsimp only at h1 h2 h3 ⊢
      subst h3
      simp only [p_slices_Max_int.s0]
      rw [ifd_neg (by omega)]
      exact ⟨_, rfl, fun i hi => h1 i (by omega), h2⟩
  obtain ⟨r, e, h1, h2⟩ := this
  refine ⟨r, ?_, h1, h2⟩
  unfold p_slices_Max_int
  rw [ifd_neg (by omega), Option.bind_some, ck_pos (by omega)]
  show (loopF (p_slices_Max_int.s0 x) big (gi x 0, 1)).bind _ = _
  rw [e, Option.bind_some]
theorem mMin {x : List Int} (h : x ≠ []) (hx : x.length ≤ 1000000) : ∃ M, p_slices_Min_int x = some M ∧ (∀ i, i < x.length → M ≤ gi x i) ∧ ∃ i, i < x.length ∧ gi x i = M := by
  have h0 : 0 < x.length := List.length_pos_iff.2 h
  have : ∃ r, loopF (p_slices_Min_int.s0 x) big (gi x 0, 1) = some r ∧ ((∀ i, i < x.length → r ≤ gi x i) ∧ ∃ i, i < x.length ∧ gi x i = r) := by
    refine loop_inv (fun (k : Nat) (s : Int × Int) => (∀ i, i < k + 1 → s.1 ≤ gi x i) ∧ (∃ i, i < x.length ∧ gi x i = s.1) ∧ s.2 = k + 1) (n := x.length - 1) (big_lt (by omega)) ⟨fun i hi => ?_, ⟨0, h0, rfl⟩, rfl⟩ ?_ ?_
    · rw [show i = 0 by omega]; exact Int.le_refl _
    · rintro k ⟨m, j⟩ hk ⟨h1, ⟨i, hi, h2⟩, h3⟩
      dsimp only at h1 h2 h3 ⊢
      subst h3
      simp only [p_slices_Min_int.s0]
      rw [ifd_pos (by omega), ck_pos (by omega), ckI64 (by omega), show ((k : Int) + 1).toNat = k + 1 by omega]
      refine ⟨_, rfl, fun a ha => ?_, ?_, by dsimp only; omega⟩
      · dsimp only
        by_cases c : a = k + 1
        · subst c; omega
        · have := h1 a (by omega); omega
      · dsimp only
        by_cases c : gi x (k + 1) ≤ m
        · exact ⟨k + 1, by omega, by omega⟩
        · exact ⟨i, hi, by omega⟩
    · rintro ⟨m, j⟩ ⟨h1, h2, h3⟩
      dsimp only at h1 h2 h3 ⊢
      subst h3
      simp only [p_slices_Min_int.s0]
      rw [ifd_neg (by omega)]
      exact ⟨_, rfl, fun i hi => h1 i (by omega), h2⟩
  obtain ⟨r, e, h1, h2⟩ := this
  refine ⟨r, ?_, h1, h2⟩
  unfold p_slices_Min_int
  rw [ifd_neg (by omega), Option.bind_some, ck_pos (by omega)]
  show (loopF (p_slices_Min_int.s0 x) big (gi x 0, 1)).bind _ = _
  rw [e, Option.bind_some]
theorem mSpan {x : List Int} (h : x ≠ []) (hx : x.length ≤ 1000000) (hb : ∀ i, i < x.length → 0 ≤ gi x i ∧ gi x i ≤ 1000000) : ∃ M m, p_layer_Span x = some (M - m) ∧ (∀ i, i < x.length → m ≤ gi x i ∧ gi x i ≤ M) ∧ (∃ i, i < x.length ∧ gi x i = M) ∧ ∃ i, i < x.length ∧ gi x i = m := by
  have h0 : 0 < x.length := List.length_pos_iff.2 h
  obtain ⟨M, e1, a1, b1⟩ := mMax h hx
  obtain ⟨m, e2, a2, b2⟩ := mMin h hx
  refine ⟨M, m, ?_, fun i hi => ⟨a2 i hi, a1 i hi⟩, b1, b2⟩
  obtain ⟨i, hi, b1⟩ := b1
  obtain ⟨j, hj, b2⟩ := b2
  have := hb i hi
  have := hb j hj
  unfold p_layer_Span
  rw [ifd_neg (by omega), e1, Option.bind_some, e2, Option.bind_some, ckI64 (by omega)]
theorem mFit {n : Nat} {arcs : List T_api_Arc} {x : List Int} (hl : x.length = n) (hr : RA n arcs) (hn : arcs.length ≤ 1000000) (h : ∀ a ∈ arcs, gi x a.From.toNat + 1 ≤ gi x a.To.toNat) : p_muntinref03_Fit arcs x = some true := by
  have : loopF (p_muntinref03_Fit.s0 arcs x) big 0 = some (.inl ()) := by
    refine loop_to (fun v : Nat => (v : Int)) (n := arcs.length) (big_lt (by omega)) rfl (fun v hv => ?_) ?_
    · have ha := hr _ (gi_mem hv)
      have hf := h _ (gi_mem hv)
      simp only [p_muntinref03_Fit.s0]
      rw [ifd_pos (by omega), ck_pos (by omega), Int.toNat_natCast, ck_pos (by omega), ck_pos (by omega), ifd_neg (by omega), ckI64 (by omega)]
      rfl
    · simp only [p_muntinref03_Fit.s0]
      rw [ifd_neg (by omega)]
  unfold p_muntinref03_Fit
  rw [this, Option.bind_some]
def sat (l : List Int) (a : T_api_Arc) : Prop := gi l a.From.toNat + 1 ≤ gi l a.To.toNat
/-- Raised so far. -/
structure RS (n : Nat) (arcs : List T_api_Arc) (r : Nat) (l : List Int) : Prop where
  len : l.length = n
  pos : ∀ v : Nat, v < n → 0 ≤ gi l v ∧ gi l v ≤ 39 + v
  fit : ∀ a ∈ arcs, a.To < r → sat l a
theorem RS.step {n : Nat} {arcs : List T_api_Arc} {r k : Nat} {l : List Int} (hg : Gr n arcs) (h : RS n arcs r l) (hk : k < arcs.length) (h2 : ∀ i, i < k → (gi arcs i).To = r → sat l (gi arcs i)) {l' : List Int} (hl' : l' = l.set (gi arcs k).To.toNat (max (gi l (gi arcs k).To.toNat) (gi l (gi arcs k).From.toNat + 1))) : RS n arcs r l' ∧ ∀ i, i < k + 1 → (gi arcs i).To = r → sat l' (gi arcs i) := by
  have ha := hg.ra _ (gi_mem hk)
  have hu := hg.up _ (gi_mem hk)
  have hlen := h.len
  have g : ∀ v : Nat, gi l' v = if v = (gi arcs k).To.toNat then max (gi l (gi arcs k).To.toNat) (gi l (gi arcs k).From.toNat + 1) else gi l v := fun v => by rw [hl', gi_set (by omega)]
  have A : ∀ v : Nat, v < r → gi l' v = gi l v := by
    intro v hv
    rw [g]
    by_cases c : v = (gi arcs k).To.toNat
    · have := h.fit _ (gi_mem hk) (by omega)
      unfold sat at this
      rw [if_pos c, c]; omega
    · rw [if_neg c]
  have B : ∀ v : Nat, gi l v ≤ gi l' v := by
    intro v
    rw [g]
    by_cases c : v = (gi arcs k).To.toNat
    · rw [if_pos c, c]; omega
    · rw [if_neg c]; exact Int.le_refl _
  have keep : ∀ a ∈ arcs, a.To ≤ r → sat l a → sat l' a := by
    intro a h1 h2 h3
    have := hg.up a h1
    have := hg.ra a h1
    unfold sat at *
    rw [A _ (by omega)]
    have := B a.To.toNat
    omega
  refine ⟨⟨by rw [hl', List.length_set, hlen], fun v hv => ?_, fun a h1 h2 => keep a h1 (by omega) (h.fit a h1 h2)⟩, fun i hi he => ?_⟩
  · have p1 := h.pos v hv
    have p2 := h.pos (gi arcs k).From.toNat (by omega)
    rw [g]
    by_cases c : v = (gi arcs k).To.toNat
    · rw [if_pos c]; rw [← c]; omega
    · rw [if_neg c]; exact p1
  · by_cases c : i = k
    · subst c
      unfold sat
      rw [A (gi arcs i).From.toNat (by omega), g, if_pos rfl]; omega
    · exact keep _ (gi_mem (by omega)) (by omega) (h2 i (by omega) he)
theorem raInner {n : Nat} {arcs : List T_api_Arc} (hg : Gr n arcs) (hn : n ≤ 1000) {r : Nat} {l : List Int} (h : RS n arcs r l) : ∃ l', loopF (p_muntinlaw04_LayerLeast.s2 arcs) big (l, 0) = some l' ∧ RS n arcs (r + 1) l' := by
  have hA := hg.len
  refine loop_inv (fun (k : Nat) (s : List Int × Int) => (RS n arcs r s.1 ∧ ∀ i, i < k → (gi arcs i).To = r → sat s.1 (gi arcs i)) ∧ s.2 = k) (n := arcs.length) (big_lt (by omega)) ⟨⟨h, fun i hi => by omega⟩, rfl⟩ ?_ ?_
  · rintro k ⟨l, j⟩ hk ⟨⟨h1, h2⟩, h3⟩
    dsimp only at h1 h2 h3 ⊢
    subst h3
    have ha := hg.ra _ (gi_mem hk)
    have hlen := h1.len
    have p2 := h1.pos (gi arcs k).From.toNat (by omega)
    simp only [p_muntinlaw04_LayerLeast.s2]
    rw [ifd_pos (by omega), ck_pos (by omega), Int.toNat_natCast, ck_pos (by omega), ck_pos (by omega), ckI64 (by omega), ckI64 (by omega)]
    exact ⟨_, rfl, h1.step hg hk h2 rfl, by dsimp only; omega⟩
  · rintro ⟨l, j⟩ ⟨⟨h1, h2⟩, h3⟩
    dsimp only at h1 h2 h3 ⊢
    subst h3
    simp only [p_muntinlaw04_LayerLeast.s2]
    rw [ifd_neg (by omega)]
    refine ⟨_, rfl, h1.len, h1.pos, fun a ha hr => ?_⟩
    by_cases c : a.To < r
    · exact h1.fit a ha c
    · obtain ⟨i, hi, rfl⟩ := List.mem_iff_getElem.1 ha
      have := h2 i hi (by rw [gi_eq hi]; omega)
      rwa [gi_eq hi] at this
theorem raOuter {n : Nat} {arcs : List T_api_Arc} (hg : Gr n arcs) (hn : n ≤ 1000) {l : List Int} (h : RS n arcs 0 l) : ∃ l', loopF (p_muntinlaw04_LayerLeast.s1 n arcs) big (l, 0) = some l' ∧ RS n arcs n l' := by
  refine loop_inv (fun (k : Nat) (s : List Int × Int) => RS n arcs k s.1 ∧ s.2 = k) (n := n) (big_lt (by omega)) ⟨h, rfl⟩ ?_ ?_
  · rintro k ⟨l, j⟩ hk ⟨h1, h3⟩
    dsimp only at h1 h3 ⊢
    subst h3
    obtain ⟨l', e, h'⟩ := raInner hg hn h1
    simp only [p_muntinlaw04_LayerLeast.s1]
    rw [ifd_pos (by omega), e, Option.bind_some, ckI64 (by omega)]
    exact ⟨_, rfl, h', by dsimp only; omega⟩
  · rintro ⟨l, j⟩ ⟨h1, h3⟩
    dsimp only at h1 h3 ⊢
    subst h3
    simp only [p_muntinlaw04_LayerLeast.s1]
    rw [ifd_neg (by omega)]
    exact ⟨_, rfl, h1⟩
theorem raStart {n : Nat} {arcs : List T_api_Arc} (hg : Gr n arcs) (hn : n ≤ 1000) {y : List Int} : ∃ l', loopF (p_muntinlaw04_LayerLeast.s0 y n) big (([] : List Int), 0) = some l' ∧ RS n arcs 0 l' := by
  refine loop_inv (fun (k : Nat) (s : List Int × Int) => (s.1.length = k ∧ ∀ v : Nat, v < k → 0 ≤ gi s.1 v ∧ gi s.1 v ≤ 39) ∧ s.2 = k) (n := n) (big_lt (by omega)) ⟨⟨rfl, fun i hi => by omega⟩, rfl⟩ ?_ ?_
  · rintro k ⟨l, j⟩ hk ⟨⟨h1, h2⟩, h3⟩
    dsimp only at h1 h2 h3 ⊢
    subst h3
    simp only [p_muntinlaw04_LayerLeast.s0]
    have add : ∀ u : Int, 0 ≤ u → u ≤ 39 → ((l ++ [u]).length = k + 1 ∧ ∀ v : Nat, v < k + 1 → 0 ≤ gi (l ++ [u]) v ∧ gi (l ++ [u]) v ≤ 39) := by
      intro u hu0 hu1
      refine ⟨by simp [h1], fun v hv => ?_⟩
      by_cases c : v < l.length
      · rw [gi_append_left c]; exact h2 v (by omega)
      · have : v = l.length + 0 := by omega
        rw [this, gi_append_right]
        exact ⟨hu0, hu1⟩
    rw [ifd_pos (by omega)]
    by_cases c : (k : Int) < (y.length : Int)
    · have e : (max 0 (gi y k)).tmod 40 = (max 0 (gi y k)) % 40 := Int.tmod_eq_emod_of_nonneg (by omega)
      rw [ifd_pos c, ck_pos (by omega), ck_pos (by simp; omega), ckI64 (by omega), Int.toNat_natCast, e]
      exact ⟨_, rfl, add _ (by omega) (by omega), by dsimp only; omega⟩
    · rw [ifd_neg c, ck_pos (by simp; omega), ckI64 (by omega)]
      exact ⟨_, rfl, add _ (by omega) (by omega), by dsimp only; omega⟩
  · rintro ⟨l, j⟩ ⟨⟨h1, h2⟩, h3⟩
    dsimp only at h1 h2 h3 ⊢
    subst h3
    simp only [p_muntinlaw04_LayerLeast.s0]
    rw [ifd_neg (by omega)]
    exact ⟨_, rfl, h1, fun v hv => by have := h2 v hv; omega, fun a ha ht => by have := hg.ra a ha; omega⟩
theorem LayerLeast_main (z : T_muntinref03_Raw) (y : List Int) (hN : Wf .u8 z.N) (mA : z.Arcs.length ≤ Go.maxLen) (bA : ∀ y ∈ z.Arcs, Ok_A3_u8 y) (my : y.length ≤ Go.maxLen) (by_ : ∀ x ∈ y, Wf .i64 x) : p_muntinlaw04_LayerLeast z y = some true := by
  obtain ⟨n, arcs, n0, n1, hg, e1⟩ := mGraph (z := z) (most := 12) ⟨hN.u8.1, hN.u8.2⟩ (fun y hy => by have := bA y hy; exact ⟨this.1.u8.1, this.1.u8.2, this.2.1.u8.1, this.2.1.u8.2, this.2.2.u8.1, this.2.2.u8.2⟩) (by omega) (by omega)
  obtain ⟨x, e2, hx⟩ := mLayers hg.ra (by omega) (by have := hg.len; omega) (fun v _ _ => peel_up hg.ra hg.up v)
  have hl := hx.len
  obtain ⟨l1, e3, h3⟩ := raStart hg (by omega) (y := y)
  obtain ⟨l, e4, h4⟩ := raOuter hg (by omega) h3
  have hll := h4.len
  have hfit : ∀ a ∈ arcs, gi l a.From.toNat + 1 ≤ gi l a.To.toNat := fun a ha => h4.fit a ha (hg.ra a ha).2.2.2.1
  unfold p_muntinlaw04_LayerLeast
  rw [show (12 : Int) = ((12 : Nat) : Int) from rfl, e1, Option.bind_some]
  dsimp only
  rw [e2, Option.bind_some]
  dsimp only
  rw [kLayerWakes, Option.bind_some, if_neg (by simp; omega), mFit hl hg.ra (by have := hg.len; omega) hx.fit, Option.bind_some, Option.bind_some, if_neg (by decide), e3, Option.bind_some, e4, Option.bind_some]
  have h : loopF (p_muntinlaw04_LayerLeast.s3 x l) big 0 = some (.inl ()) := by
    refine loop_to (fun v : Nat => (v : Int)) (n := n) (big_lt (by omega)) rfl (fun v hv => ?_) ?_
    · have := hx.least hg.ra hg.up hfit (m := 0) (fun v hv => (h4.pos v hv).1) v hv
      simp only [p_muntinlaw04_LayerLeast.s3]
      rw [ifd_pos (by omega), ck_pos (by omega), ck_pos (by omega), Int.toNat_natCast, ifd_neg (by omega), ckI64 (by omega)]
      rfl
    · simp only [p_muntinlaw04_LayerLeast.s3]
      rw [ifd_neg (by omega)]
  rw [h, Option.bind_some]
  dsimp only
  obtain ⟨M, m, s1, s2, ⟨i1, t1, s3⟩, ⟨i2, t2, s4⟩⟩ := mSpan (x := l) (by intro e; rw [e] at hll; simp at hll; omega) (by omega) (fun i hi => by have := h4.pos i (by omega); omega)
  obtain ⟨M', m', u1, u2, ⟨j1, v1, u3⟩, ⟨j2, v2, u4⟩⟩ := mSpan (x := x) (by intro e; rw [e] at hl; simp at hl; omega) (by omega) (fun i hi => by have := hx.pos i (by omega); omega)
  have q := hx.least hg.ra hg.up hfit (m := m) (fun v hv => (s2 v (by omega)).1) j1 (by omega)
  have q2 := s2 j1 (by omega)
  have q3 := hx.pos j2 (by omega)
  rw [s1, Option.bind_some, u1, Option.bind_some, dec_t (by omega)]
end Mu
