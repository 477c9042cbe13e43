/- Layer 15: the rotation there and back. -/
import Derived.Test.YteedifiifkghkaaMuK15
set_option linter.unusedVariables false
set_option linter.unusedSimpArgs false
namespace Mu

/-- Turns of small numbers. -/
def turnOf (odd : Bool) (n : Int) : Int := if odd = true then n else max (-2) (min 1 (n.tmod 3))
def turnsL (l : List Int) (odd : Bool) : List Int := (l.take 30).map (turnOf odd)
theorem turnsL_length {l : List Int} {odd : Bool} : (turnsL l odd).length ≤ 30 := by simp [turnsL]; omega
theorem turnsL_gi {l : List Int} {odd : Bool} {i : Nat} (hi : i < (turnsL l odd).length) : gi (turnsL l odd) i = turnOf odd (gi l i) := by
  rw [gi_eq hi]
  simp only [turnsL, List.length_map, List.length_take] at hi
  rw [gi_eq (by omega)]
  simp [turnsL]
theorem Wf_gi8 {l : List Int} (h : ∀ y ∈ l, Wf .i8 y) (i : Nat) : -128 ≤ gi l i ∧ gi l i ≤ 127 := by
  by_cases hi : i < l.length
  · exact (h _ (gi_mem hi)).i8
  · rw [gi_default (by omega)]; exact ⟨by decide, by decide⟩
theorem turnsL_Tn {l : List Int} (h : ∀ y ∈ l, Wf .i8 y) (odd : Bool) : Tn (turnsL l odd) := by
  refine ⟨Nat.le_trans turnsL_length (by omega), fun i => ?_⟩
  by_cases hi : i < (turnsL l odd).length
  · rw [turnsL_gi hi]
    have := Wf_gi8 h i
    unfold turnOf
    split <;> omega
  · rw [gi_default (by omega)]; exact ⟨by decide, by decide⟩
theorem turnsL_Gd {l : List Int} : Gd (turnsL l false) := by
  intro i
  by_cases hi : i < (turnsL l false).length
  · rw [turnsL_gi hi]
    simp only [turnOf, Bool.false_eq_true, if_false]
    omega
  · rw [gi_default (by omega)]; exact ⟨by decide, by decide⟩
theorem kTurns {l : List Int} (h : ∀ y ∈ l, Wf .i8 y) (odd : Bool) : p_muntinlaw15_turns l odd = some (turnsL l odd) := by
  unfold p_muntinlaw15_turns
  have e : (min (l.length : Int) 30).toNat = min l.length 30 := by omega
  have e2 : l.take (min l.length 30) = l.take 30 := by rw [List.take_eq_take_iff]; omega
  rw [ck_pos (by omega), bd_eq (x := turnsL l odd)]
  have hl : (l.take 30).length ≤ 30 := by simp; omega
  have hb : ∀ i, -128 ≤ gi (l.take 30) i ∧ gi (l.take 30) i ≤ 127 := Wf_gi8 (fun y hy => h y (List.mem_of_mem_take hy))
  unfold turnsL
  refine loop_to (fun n : Nat => (((l.take 30).take n).map (turnOf odd), (n : Int))) (n := (l.take 30).length) (big_lt (by omega)) (by simp) (fun n hn => ?_) ?_
  · have hbn := hb n
    have h3 : (((l.take 30).take n).map (turnOf odd)).length = n := by simp only [List.length_map, List.length_take] at hn ⊢; omega
    rw [take_gi hn]
    cases odd
    · simp (disch := omega) only [p_muntinlaw15_turns.s0, e, e2, h3, ck_pos, ckK64, ckK8, ifd_pos, ifd_neg, ifn_pos, ifn_neg, dec_t, dec_f, Option.bind_some, Int.toNat_natCast, List.length_append, List.length_cons, List.length_nil, Nat.zero_add, if_true, if_false, Bool.false_eq_true, Bool.not_true, Bool.not_false, Bool.true_and, Bool.false_and, Bool.and_true, Bool.and_false, Bool.true_or, Bool.false_or, Bool.or_true, Bool.or_false]
      try simp (disch := omega) only [ck_pos, ckK64, ckK8, ifd_pos, ifd_neg, ifn_pos, ifn_neg, dec_t, dec_f, Option.bind_some, Int.toNat_natCast, List.length_append, List.length_cons, List.length_nil, Nat.zero_add, if_true, if_false, Bool.false_eq_true, Bool.not_true, Bool.not_false, Bool.true_and, Bool.false_and, Bool.and_true, Bool.and_false, Bool.true_or, Bool.false_or, Bool.or_true, Bool.or_false]
      simp [turnOf]
    · simp (disch := omega) only [p_muntinlaw15_turns.s0, e, e2, h3, ck_pos, ckK64, ckK8, ifd_pos, ifd_neg, ifn_pos, ifn_neg, dec_t, dec_f, Option.bind_some, Int.toNat_natCast, List.length_append, List.length_cons, List.length_nil, Nat.zero_add, if_true, if_false, Bool.false_eq_true, Bool.not_true, Bool.not_false, Bool.true_and, Bool.false_and, Bool.and_true, Bool.and_false, Bool.true_or, Bool.false_or, Bool.or_true, Bool.or_false]
      try simp (disch := omega) only [ck_pos, ckK64, ckK8, ifd_pos, ifd_neg, ifn_pos, ifn_neg, dec_t, dec_f, Option.bind_some, Int.toNat_natCast, List.length_append, List.length_cons, List.length_nil, Nat.zero_add, if_true, if_false, Bool.false_eq_true, Bool.not_true, Bool.not_false, Bool.true_and, Bool.false_and, Bool.and_true, Bool.and_false, Bool.true_or, Bool.false_or, Bool.or_true, Bool.or_false]
      simp [turnOf]
  · rw [List.take_length]
    simp (disch := omega) only [p_muntinlaw15_turns.s0, e, e2, ck_pos, ckK64, ckK8, ifd_pos, ifd_neg, ifn_pos, ifn_neg, dec_t, dec_f, Option.bind_some, Int.toNat_natCast, List.length_append, List.length_cons, List.length_nil, Nat.zero_add, if_true, if_false, Bool.false_eq_true, Bool.not_true, Bool.not_false, Bool.true_and, Bool.false_and, Bool.and_true, Bool.and_false, Bool.true_or, Bool.false_or, Bool.or_true, Bool.or_false]
    try simp (disch := omega) only [ck_pos, ckK64, ckK8, ifd_pos, ifd_neg, ifn_pos, ifn_neg, dec_t, dec_f, Option.bind_some, Int.toNat_natCast, List.length_append, List.length_cons, List.length_nil, Nat.zero_add, if_true, if_false, Bool.false_eq_true, Bool.not_true, Bool.not_false, Bool.true_and, Bool.false_and, Bool.and_true, Bool.and_false, Bool.true_or, Bool.false_or, Bool.or_true, Bool.or_false]
theorem kWakes : p_muntinlaw15_wakes = some true := by decide +kernel

theorem kcos_gi {t : List Int} {i : Nat} (hi : i < (kcos t).length) : gi ((kcos t).map kC) i = kC (gi (kcos t) i) := by
  rw [gi_eq (by simpa using hi), gi_eq hi]; simp
/-- The corners stand in order. -/
def clt (a b : Nat × Nat) : Prop := a.1 < b.1 ∨ (a.1 = b.1 ∧ a.2 < b.2)
theorem kcosTo_sorted {t : List Int} : ∀ n, (kcosTo t n).Pairwise clt
  | 0 => .nil
  | n + 1 => by
    rw [kcosTo, List.pairwise_append]
    refine ⟨kcosTo_sorted n, ?_, fun a ha b hb => ?_⟩
    · rw [List.pairwise_map]
      exact List.Pairwise.imp (fun h => .inr ⟨rfl, h⟩) List.pairwise_lt_range
    · have := (kcosTo_mem.1 ha).1
      obtain ⟨p, _, rfl⟩ := List.mem_map.1 hb
      exact .inl this
theorem kcos_lt {t : List Int} {i j : Nat} (hij : i < j) (hj : j < (kcos t).length) : clt (gi (kcos t) i) (gi (kcos t) j) := by
  have := kcosTo_sorted (t := t) t.length
  rw [List.pairwise_iff_getElem] at this
  rw [gi_eq (Nat.lt_trans hij hj), gi_eq hj]
  exact this i j (Nat.lt_trans hij hj) hj hij
theorem rotP_self {t : List Int} {a : Nat × Nat} : rotP t a a = 0 := by
  unfold rotP
  rw [if_neg (by omega)]
  omega
theorem rotP_lt {t : List Int} {a b : Nat × Nat} (h : clt a b) : rotP t a b = psum t b.1 - b.2 - (psum t a.1 - a.2) := by
  unfold rotP clt at *
  rw [if_neg (by omega)]
  omega
theorem rotP_gt {t : List Int} {a b : Nat × Nat} (h : clt a b) : rotP t b a = psum t a.1 - a.2 - (psum t b.1 - b.2) + psum t t.length := by
  unfold rotP clt at *
  rw [if_pos (by omega)]
theorem rotP_add {t : List Int} {a b c : Nat × Nat} (h1 : a = b ∨ clt a b) (h2 : b = c ∨ clt b c) : rotP t a b + rotP t b c = rotP t a c := by
  rcases h1 with rfl | h1
  · rw [rotP_self]; omega
  rcases h2 with rfl | h2
  · rw [rotP_self]; omega
  have h3 : clt a c := by unfold clt at *; omega
  rw [rotP_lt h1, rotP_lt h2, rotP_lt h3]
  omega

end Mu
