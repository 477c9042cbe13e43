/- Layer 4: LayerTight. -/
import Derived.Test.YteedifiifkghkaaMuM04d
set_option linter.unusedVariables false
set_option linter.unusedSimpArgs false
set_option maxRecDepth 10000
namespace Mu
theorem kLayerWakes : p_muntinlaw04_wakes = some true := by decide +kernel
theorem iEqual {s : List Int} (hs : s.length ≤ 1000000) : p_slices_Equal_int s s = some true := by
  have h : loopF (p_slices_Equal_int.s0 s s) big 0 = some (.inl ()) := by
    refine loop_to (fun n : Nat => (n : Int)) (n := s.length) (big_lt (by omega)) rfl (fun n hn => ?_) ?_
    · simp only [p_slices_Equal_int.s0]
      rw [ifd_pos (by omega), ck_pos (by omega), ck_pos (by omega), if_neg (by simp), ckI64 (by omega)]
      rfl
    · simp only [p_slices_Equal_int.s0]
      rw [ifd_neg (by omega)]
  unfold p_slices_Equal_int
  rw [ifn_neg rfl, h, Option.bind_some]
theorem Lay.below {n : Nat} {arcs : List T_api_Arc} {x : List Int} (h : Lay n arcs x) (hr : RA n arcs) {u : Int} (hu : 0 ≤ u) : ∀ (d : Nat) (i : Nat), i < n → gi x i = u + d → ∃ j, j < n ∧ gi x j = u
  | 0, i, hi, e => ⟨i, hi, by omega⟩
  | d + 1, i, hi, e => by
    obtain ⟨a, ha, h1, h2⟩ := h.tight i hi (by omega)
    have := hr a ha
    exact Lay.below h hr hu d a.From.toNat (by omega) (by omega)
theorem rk2 {x less : List Int} {k : Nat} (hl : less.length ≤ 1000000) (m0 : Bool) : ∃ r, loopF (p_muntinref03_Ranks.s2 x less k) big (m0, 0) = some r ∧ (r = true ↔ m0 = true ∨ gi x k ∈ less) := by
  refine loop_meas (fun s : Bool × Int => less.length - s.2.toNat) (fun s => 0 ≤ s.2 ∧ s.2 ≤ less.length ∧ if s.1 = true then m0 = true ∨ gi x k ∈ less else m0 = false ∧ gi x k ∉ less.take s.2.toNat) (big_lt (by dsimp only; omega)) ⟨by dsimp only; omega, by dsimp only; omega, ?_⟩ ?_
  · cases m0 with
    | true => dsimp only; rw [if_pos rfl]; exact .inl rfl
    | false => dsimp only; rw [if_neg (by decide)]; exact ⟨rfl, by simp⟩
  · rintro ⟨m, j⟩ ⟨h0, h1, h2⟩
    dsimp only at h0 h1 h2 ⊢
    obtain ⟨i, rfl⟩ : ∃ i : Nat, j = (i : Int) := ⟨j.toNat, by omega⟩
    simp only [p_muntinref03_Ranks.s2]
    rw [Int.toNat_natCast] at h2
    cases m with
    | true =>
      right
      rw [if_neg (by simp)]
      rw [if_pos rfl] at h2
      exact ⟨_, rfl, by simpa using h2⟩
    | false =>
      rw [if_neg (by decide)] at h2
      by_cases c : i < less.length
      · left
        rw [if_pos (by simp; omega), ck_pos (by omega), Int.toNat_natCast, ckI64 (by omega), Int.toNat_natCast]
        refine ⟨_, rfl, ⟨by dsimp only; omega, by dsimp only; omega, ?_⟩, by dsimp only; omega⟩
        dsimp only
        by_cases d : gi less i = gi x k
        · rw [dec_t d, if_pos rfl]; exact .inr (d ▸ gi_mem c)
        · rw [dec_f d, if_neg (by decide), show ((i : Int) + 1).toNat = i + 1 by omega, take_gi c]
          exact ⟨h2.1, by simp [h2.2, Ne.symm d]⟩
      · right
        rw [if_neg (by simp; omega)]
        rw [List.take_of_length_le (by omega)] at h2
        exact ⟨_, rfl, by simp [h2]⟩
theorem rk1 {x : List Int} {i : Nat} (hx : x.length ≤ 1000000) (hi : i < x.length) : ∃ r, loopF (p_muntinref03_Ranks.s1 x i) big (([] : List Int), 0) = some r ∧ (r.Nodup ∧ (∀ u, u ∈ r ↔ u < gi x i ∧ u ∈ x) ∧ r.length ≤ x.length) := by
  refine loop_inv (fun (k : Nat) (s : List Int × Int) => (s.1.Nodup ∧ (∀ u, u ∈ s.1 ↔ u < gi x i ∧ u ∈ x.take k) ∧ s.1.length ≤ k) ∧ s.2 = k) (n := x.length) (big_lt (by omega)) ⟨⟨by simp, fun u => by simp, by simp⟩, rfl⟩ ?_ ?_
  · rintro k ⟨less, j⟩ hk ⟨⟨h1, h2, h3⟩, h4⟩
    dsimp only at h1 h2 h3 h4 ⊢
    subst h4
    obtain ⟨r, e1, hr⟩ := rk2 (x := x) (less := less) (k := k) (by omega) (decide (gi x i ≤ gi x k))
    simp only [p_muntinref03_Ranks.s1]
    rw [ifd_pos (by omega), ck_pos (by omega), ck_pos (by omega), Int.toNat_natCast, Int.toNat_natCast, e1, Option.bind_some]
    cases r with
    | true =>
      have := hr.1 rfl
      rw [if_neg (by decide), ckI64 (by omega)]
      refine ⟨_, rfl, ⟨h1, fun u => ?_, by dsimp only; omega⟩, by dsimp only; omega⟩
      rw [h2, take_gi hk, List.mem_append, List.mem_singleton]
      constructor
      · rintro ⟨a, b⟩; exact ⟨a, .inl b⟩
      · rintro ⟨a, b | rfl⟩
        · exact ⟨a, b⟩
        · rcases this with this | this
          · rw [decide_eq_true_eq] at this; omega
          · exact (h2 _).1 this
    | false =>
      have hn : ¬ (decide (gi x i ≤ gi x k) = true ∨ gi x k ∈ less) := fun hh => by have := hr.2 hh; cases this
      have hlt : gi x k < gi x i := by
        by_cases c : gi x i ≤ gi x k
        · exact absurd (.inl (by simpa using c)) hn
        · omega
      have hout : gi x k ∉ less := fun hh => hn (.inr hh)
      rw [if_pos (by decide), ck_pos (by simp; omega), ckI64 (by omega)]
      refine ⟨_, rfl, ⟨?_, fun u => ?_, by dsimp only; rw [List.length_append]; simp; omega⟩, by dsimp only; omega⟩
      · rw [List.nodup_append]
        exact ⟨h1, by simp, fun a ha b hb => by
          rw [List.mem_singleton] at hb; subst hb; exact fun e => hout (e ▸ ha)⟩
      · rw [take_gi hk, List.mem_append, List.mem_append, List.mem_singleton, h2]
        constructor
        · rintro (⟨a, b⟩ | rfl)
          · exact ⟨a, .inl b⟩
          · exact ⟨hlt, .inr rfl⟩
        · rintro ⟨a, b | b⟩
          · exact .inl ⟨a, b⟩
          · exact .inr b
  · rintro ⟨less, j⟩ ⟨⟨h1, h2, h3⟩, h4⟩
    dsimp only at h1 h2 h3 h4 ⊢
    subst h4
    simp only [p_muntinref03_Ranks.s1]
    rw [ifd_neg (by omega)]
    rw [List.take_length] at h2
    exact ⟨_, rfl, h1, h2, h3⟩
theorem rkLay {n : Nat} {arcs : List T_api_Arc} {x : List Int} (h : Lay n arcs x) (hr : RA n arcs) (hn : n ≤ 1000000) : p_muntinref03_Ranks x = some x := by
  have hl := h.len
  have : ∃ r, loopF (p_muntinref03_Ranks.s0 x) big (([] : List Int), 0) = some r ∧ r = x := by
    refine loop_inv (fun (k : Nat) (s : List Int × Int) => s.1 = x.take k ∧ s.2 = k) (n := x.length) (big_lt (by omega)) ⟨by simp, rfl⟩ ?_ ?_
    · rintro k ⟨out, j⟩ hk ⟨h1, h2⟩
      dsimp only at h1 h2 ⊢
      subst h1; subst h2
      obtain ⟨less, e1, g1, g2, g3⟩ := rk1 (x := x) (i := k) (by omega) hk
      have hp := h.pos k (by omega)
      have hlen : less.length = (gi x k).toNat := by
        refine nodup_all g1 fun u => ?_
        rw [g2]
        constructor
        · rintro ⟨a, b⟩
          obtain ⟨i, hi, rfl⟩ := List.mem_iff_getElem.1 b
          have := h.pos i (by omega)
          rw [gi_eq hi] at this
          omega
        · rintro ⟨a, b⟩
          obtain ⟨j, hj, e⟩ := h.below hr a (gi x k - u).toNat k (by omega) (by omega)
          exact ⟨by omega, e ▸ gi_mem (by omega)⟩
      simp only [p_muntinref03_Ranks.s0]
      rw [ifd_pos (by omega), e1, Option.bind_some, ck_pos (by simp; omega), ckI64 (by omega)]
      exact ⟨_, rfl, by dsimp only; rw [take_gi hk, show ((less.length : Nat) : Int) = gi x k by omega], by dsimp only; omega⟩
    · rintro ⟨out, j⟩ ⟨h1, h2⟩
      dsimp only at h1 h2 ⊢
      subst h1; subst h2
      simp only [p_muntinref03_Ranks.s0]
      rw [ifd_neg (by omega)]
      exact ⟨_, rfl, List.take_length⟩
  obtain ⟨r, e, rfl⟩ := this
  unfold p_muntinref03_Ranks
  rw [e, Option.bind_some]
theorem LayerTight_main (z : T_muntinref03_Raw) (hN : Wf .u8 z.N) (mA : z.Arcs.length ≤ Go.maxLen) (bA : ∀ y ∈ z.Arcs, Ok_A3_u8 y) : p_muntinlaw04_LayerTight z = some true := by
  obtain ⟨n, arcs, n0, n1, hg, e1⟩ := mGraph (z := z) (most := 40) ⟨hN.u8.1, hN.u8.2⟩ (fun y hy => by have := bA y hy; exact ⟨this.1.u8.1, this.1.u8.2, this.2.1.u8.1, this.2.1.u8.2, this.2.2.u8.1, this.2.2.u8.2⟩) (by omega) (by omega)
  obtain ⟨x, e2, hx⟩ := mLayers hg.ra (by omega) (by have := hg.len; omega) (fun v _ _ => peel_up hg.ra hg.up v)
  have hl := hx.len
  unfold p_muntinlaw04_LayerTight
  rw [show (40 : Int) = ((40 : Nat) : Int) from rfl, e1, Option.bind_some]
  dsimp only
  rw [e2, Option.bind_some]
  dsimp only
  rw [kLayerWakes, Option.bind_some, if_neg (by simp; omega)]
  have h : loopF (p_muntinlaw04_LayerTight.s0 n arcs x) big 0 = some (.inl ()) := by
    refine loop_to (fun v : Nat => (v : Int)) (n := n) (big_lt (by omega)) rfl (fun v hv => ?_) ?_
    · have hp := hx.pos v hv
      have hc := mContains (arcs := arcs) (f := fun y0 => p_muntinlaw04_LayerTight_1 y0 v x) (g := fun a => decide (a.To = (v : Int)) && decide (gi x a.From.toNat = gi x v - 1)) (by have := hg.len; omega) (fun a ha => by
        have hra := hg.ra a ha
        simp only [p_muntinlaw04_LayerTight_1]
        by_cases c : a.To = (v : Int)
        · rw [ifd_pos c, ck_pos (by omega), ck_pos (by omega), Int.toNat_natCast, ckI64 (by omega), Option.bind_some, dec_t c, Bool.true_and]
        · rw [ifd_neg c, Option.bind_some, dec_f c, Bool.false_and])
      have ht : arcs.any (fun a => decide (a.To = (v : Int)) && decide (gi x a.From.toNat = gi x v - 1)) = decide (0 < gi x v) := by
        by_cases c : 0 < gi x v
        · rw [dec_t c, List.any_eq_true]
          obtain ⟨a, ha, h1, h2⟩ := hx.tight v hv c
          exact ⟨a, ha, by simp [h1]; omega⟩
        · rw [dec_f c, List.any_eq_false]
          intro a ha hh
          have hra := hg.ra a ha
          have := hx.pos a.From.toNat (by omega)
          simp at hh
          omega
      rw [ht] at hc
      simp only [p_muntinlaw04_LayerTight.s0]
      rw [ifd_pos (by omega), hc, Option.bind_some, ck_pos (by omega), Int.toNat_natCast, ifn_neg rfl, ckI64 (by omega)]
      rfl
    · simp only [p_muntinlaw04_LayerTight.s0]
      rw [ifd_neg (by omega)]
  rw [h, Option.bind_some]
  dsimp only
  rw [rkLay hx hg.ra (by omega), Option.bind_some, iEqual (by omega), Option.bind_some]
end Mu
