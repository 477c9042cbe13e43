/- Layer 15: the rotation there and back. -/
import Derived.Test.YteedifiifkghkaaMuK15
set_option linter.unusedVariables false
set_option linter.unusedSimpArgs false
namespace Mu

/-- Turns of small numbers. -/
def turnOf (odd : Bool) (n : Int) : Int := if odd = true then n else max (-2) (min 1 (n.tmod 3))
def turnsL (l : List Int) (odd : Bool) : List Int := (l.take 30).map (turnOf odd)
theorem turnsL_length {l : List Int} {odd : Bool} : (turnsL l odd).length ≤ 30 := by simp [turnsL]; omega
theorem turnsL_gi {l : List Int} {odd : Bool} {i : Nat} (hi : i < (turnsL l odd).length) : gi (turnsL l odd) i = turnOf odd (gi l i) := by
  rw [gi_eq hi]
  simp only [turnsL, List.length_map, List.length_take] at hi
  rw [gi_eq (by omega)]
  simp [turnsL]
theorem Wf_gi8 {l : List Int} (h : ∀ y ∈ l, Wf .i8 y) (i : Nat) : -128 ≤ gi l i ∧ gi l i ≤ 127 := by
  by_cases hi : i < l.length
  · exact (h _ (gi_mem hi)).i8
  · rw [gi_default (by omega)]; exact ⟨by decide, by decide⟩
theorem turnsL_Tn {l : List Int} (h : ∀ y ∈ l, Wf .i8 y) (odd : Bool) : Tn (turnsL l odd) := by
  refine ⟨Nat.le_trans turnsL_length (by omega), fun i => ?_⟩
  by_cases hi : i < (turnsL l odd).length
  · rw [turnsL_gi hi]
    have := Wf_gi8 h i
    unfold turnOf
    split <;> omega
  · rw [gi_default (by omega)]; exact ⟨by decide, by decide⟩
theorem turnsL_Gd {l : List Int} : Gd (turnsL l false) := by
  intro i
  by_cases hi : i < (turnsL l false).length
  · rw [turnsL_gi hi]
    simp only [turnOf, Bool.false_eq_true, if_false]
    omega
  · rw [gi_default (by omega)]; exact ⟨by decide, by decide⟩
theorem kTurns {l : List Int} (h : ∀ y ∈ l, Wf .i8 y) (odd : Bool) : p_muntinlaw15_turns l odd = some (turnsL l odd) := by
  unfold p_muntinlaw15_turns
  have e : (min (l.length : Int) 30).toNat = min l.length 30 := by omega
  have e2 : l.take (min l.length 30) = l.take 30 := by rw [List.take_eq_take_iff]; omega
  rw [ck_pos (by omega), bd_eq (x := turnsL l odd)]
  have hl : (l.take 30).length ≤ 30 := by simp; omega
  have hb : ∀ i, -128 ≤ gi (l.take 30) i ∧ gi (l.take 30) i ≤ 127 := Wf_gi8 (fun y hy => h y (List.mem_of_mem_take hy))
  unfold turnsL
  refine loop_to (fun n : Nat => (((l.take 30).take n).map (turnOf odd), (n : Int))) (n := (l.take 30).length) (big_lt (by omega)) (by simp) (fun n hn => ?_) ?_
  · have hbn := hb n
    have h3 : (((l.take 30).take n).map (turnOf odd)).length = n := by simp only [List.length_map, List.length_take] at hn ⊢; omega
    rw [take_gi hn]
    cases odd
    · simp (disch := omega) only [p_muntinlaw15_turns.s0, e, e2, h3, ck_pos, ckK64, ckK8, ifd_pos, ifd_neg, ifn_pos, ifn_neg, dec_t, dec_f, Option.bind_some, Int.toNat_natCast, List.length_append, List.length_cons, List.length_nil, Nat.zero_add, if_true, if_false, Bool.false_eq_true, Bool.not_true, Bool.not_false, Bool.true_and, Bool.false_and, Bool.and_true, Bool.and_false, Bool.true_or, Bool.false_or, Bool.or_true, Bool.or_false]
      try simp (disch := omega) only [ck_pos, ckK64, ckK8, ifd_pos, ifd_neg, ifn_pos, ifn_neg, dec_t, dec_f, Option.bind_some, Int.toNat_natCast, List.length_append, List.length_cons, List.length_nil, Nat.zero_add, if_true, if_false, Bool.false_eq_true, Bool.not_true, Bool.not_false, Bool.true_and, Bool.false_and, Bool.and_true, Bool.and_false, Bool.true_or, Bool.false_or, Bool.or_true, Bool.or_false]
      simp [turnOf]
    · simp (disch := omega) only [p_muntinlaw15_turns.s0, e, e2, h3, ck_pos, ckK64, ckK8, ifd_pos, ifd_neg, ifn_pos, ifn_neg, dec_t, dec_f, Option.bind_some, Int.toNat_natCast, List.length_append, List.length_cons, List.length_nil, Nat.zero_add, if_true, if_false, Bool.false_eq_true, Bool.not_true, Bool.not_false, Bool.true_and, Bool.false_and, Bool.and_true, Bool.and_false, Bool.true_or, Bool.false_or, Bool.or_true, Bool.or_false]
      try simp (disch := omega) only [ck_pos, ckK64, ckK8, ifd_pos, ifd_neg, ifn_pos, ifn_neg, dec_t, dec_f, Option.bind_some, Int.toNat_natCast, List.length_append, List.length_cons, List.length_nil, Nat.zero_add, if_true, if_false, Bool.false_eq_true, Bool.not_true, Bool.not_false, Bool.true_and, Bool.false_and, Bool.and_true, Bool.and_false, Bool.true_or, Bool.false_or, Bool.or_true, Bool.or_false]
      simp [turnOf]
  · rw [List.take_length]
    simp (disch := omega) only [p_muntinlaw15_turns.s0, e, e2, ck_pos, ckK64, ckK8, ifd_pos, ifd_neg, ifn_pos, ifn_neg, dec_t, dec_f, Option.bind_some, Int.toNat_natCast, List.length_append, List.length_cons, List.length_nil, Nat.zero_add, if_true, if_false, Bool.false_eq_true, Bool.not_true, Bool.not_false, Bool.true_and, Bool.false_and, Bool.and_true, Bool.and_false, Bool.true_or, Bool.false_or, Bool.or_true, Bool.or_false]
    try simp (disch := omega) only [ck_pos, ckK64, ckK8, ifd_pos, ifd_neg, ifn_pos, ifn_neg, dec_t, dec_f, Option.bind_some, Int.toNat_natCast, List.length_append, List.length_cons, List.length_nil, Nat.zero_add, if_true, if_false, Bool.false_eq_true, Bool.not_true, Bool.not_false, Bool.true_and, Bool.false_and, Bool.and_true, Bool.and_false, Bool.true_or, Bool.false_or, Bool.or_true, Bool.or_false]
theorem kWakes : p_muntinlaw15_wakes = some true := by decide +kernel

theorem kcos_gi {t : List Int} {i : Nat} (hi : i < (kcos t).length) : gi ((kcos t).map kC) i = kC (gi (kcos t) i) := by
  rw [gi_eq (by simpa using hi), gi_eq hi]; simp
/-- The corners stand in order. -/
def clt (a b : Nat × Nat) : Prop := a.1 < b.1 ∨ (a.1 = b.1 ∧ a.2 < b.2)
theorem kcosTo_sorted {t : List Int} : ∀ n, (kcosTo t n).Pairwise clt
  | 0 => .nil
  | n + 1 => by
    rw [kcosTo, List.pairwise_append]
    refine ⟨kcosTo_sorted n, ?_, fun a ha b hb => ?_⟩
    · rw [List.pairwise_map]
      exact List.Pairwise.imp (fun h => .inr ⟨rfl, h⟩) List.pairwise_lt_range
    · have := (kcosTo_mem.1 ha).1
      obtain ⟨p, _, rfl⟩ := List.mem_map.1 hb
      exact .inl this
theorem kcos_lt {t : List Int} {i j : Nat} (hij : i < j) (hj : j < (kcos t).length) : clt (gi (kcos t) i) (gi (kcos t) j) := by
  have := kcosTo_sorted (t := t) t.length
  rw [List.pairwise_iff_getElem] at this
  rw [gi_eq (Nat.lt_trans hij hj), gi_eq hj]
  exact this i j (Nat.lt_trans hij hj) hj hij
theorem rotP_self {t : List Int} {a : Nat × Nat} : rotP t a a = 0 := by
  unfold rotP
  rw [if_neg (by omega)]
  omega
theorem rotP_lt {t : List Int} {a b : Nat × Nat} (h : clt a b) : rotP t a b = psum t b.1 - b.2 - (psum t a.1 - a.2) := by
  unfold rotP clt at *
  rw [if_neg (by omega)]
  omega
theorem rotP_gt {t : List Int} {a b : Nat × Nat} (h : clt a b) : rotP t b a = psum t a.1 - a.2 - (psum t b.1 - b.2) + psum t t.length := by
  unfold rotP clt at *
  rw [if_pos (by omega)]
theorem rotP_add {t : List Int} {a b c : Nat × Nat} (h1 : a = b ∨ clt a b) (h2 : b = c ∨ clt b c) : rotP t a b + rotP t b c = rotP t a c := by
  rcases h1 with rfl | h1
  · rw [rotP_self]; omega
  rcases h2 with rfl | h2
  · rw [rotP_self]; omega
  have h3 : clt a c := by unfold clt at *; omega
  rw [rotP_lt h1, rotP_lt h2, rotP_lt h3]
  omega

theorem KittyRound_pure (l : List Int) (h0 : l.length ≤ Go.maxLen) (h : ∀ y ∈ l, Ok_i8 y) : p_muntinlaw15_KittyRound l = some true := by
  unfold p_muntinlaw15_KittyRound
  have h : ∀ y ∈ l, Wf .i8 y := h
  have ht := turnsL_Tn h false
  have hg := turnsL_Gd (l := l)
  rw [kTurns h, Option.bind_some]
  generalize turnsL l false = t at ht hg
  have hlen := ht.l
  have hcl : (kcos t).length ≤ 80 := by have := kcosTo_length t t.length; unfold kcos; omega
  have hall : loopF (p_muntinlaw15_KittyRound.s0 t) big (0, 0) = some (psum t t.length) := by
    refine loop_to (fun n : Nat => (psum t n, (n : Int))) (n := t.length) (big_lt (by omega)) rfl (fun n hn => ?_) ?_
    · have := psum_b hg n
      have := hg n
      simp (disch := omega) only [p_muntinlaw15_KittyRound.s0, ck_pos, ckK64, ckK8, ifd_pos, ifd_neg, ifn_pos, ifn_neg, dec_t, dec_f, Option.bind_some, Int.toNat_natCast, List.length_append, List.length_cons, List.length_nil, Nat.zero_add, if_true, if_false, Bool.false_eq_true, Bool.not_true, Bool.not_false, Bool.true_and, Bool.false_and, Bool.and_true, Bool.and_false, Bool.true_or, Bool.false_or, Bool.or_true, Bool.or_false]
      try simp (disch := omega) only [ck_pos, ckK64, ckK8, ifd_pos, ifd_neg, ifn_pos, ifn_neg, dec_t, dec_f, Option.bind_some, Int.toNat_natCast, List.length_append, List.length_cons, List.length_nil, Nat.zero_add, if_true, if_false, Bool.false_eq_true, Bool.not_true, Bool.not_false, Bool.true_and, Bool.false_and, Bool.and_true, Bool.and_false, Bool.true_or, Bool.false_or, Bool.or_true, Bool.or_false]
      rfl
    · simp (disch := omega) only [p_muntinlaw15_KittyRound.s0, ck_pos, ckK64, ckK8, ifd_pos, ifd_neg, ifn_pos, ifn_neg, dec_t, dec_f, Option.bind_some, Int.toNat_natCast, List.length_append, List.length_cons, List.length_nil, Nat.zero_add, if_true, if_false, Bool.false_eq_true, Bool.not_true, Bool.not_false, Bool.true_and, Bool.false_and, Bool.and_true, Bool.and_false, Bool.true_or, Bool.false_or, Bool.or_true, Bool.or_false]
      try simp (disch := omega) only [ck_pos, ckK64, ckK8, ifd_pos, ifd_neg, ifn_pos, ifn_neg, dec_t, dec_f, Option.bind_some, Int.toNat_natCast, List.length_append, List.length_cons, List.length_nil, Nat.zero_add, if_true, if_false, Bool.false_eq_true, Bool.not_true, Bool.not_false, Bool.true_and, Bool.false_and, Bool.and_true, Bool.and_false, Bool.true_or, Bool.false_or, Bool.or_true, Bool.or_false]
  have hpb : ∀ n, n ≤ t.length → -80 ≤ psum t n ∧ psum t n ≤ 40 := fun n hn => by have := psum_b hg n; omega
  have hrb : ∀ {a b}, a ∈ kcos t → b ∈ kcos t → -1000 ≤ rotP t a b ∧ rotP t a b ≤ 1000 := by
    intro a b ha hb
    have a1 := kcos_mem.1 ha
    have b1 := kcos_mem.1 hb
    have := knp_le (gi t a.1)
    have := knp_le (gi t b.1)
    have := hpb a.1 (by omega)
    have := hpb b.1 (by omega)
    have := hpb t.length (Nat.le_refl _)
    unfold rotP
    split <;> omega
  rw [hall, Option.bind_some, kCorners ht, Option.bind_some]
  have hm : ∀ {i}, i < (kcos t).length → gi (kcos t) i ∈ kcos t := fun h => gi_mem h
  have hml : ((kcos t).map kC).length = (kcos t).length := by simp
  have inner : ∀ i k : Nat, i < (kcos t).length → k < (kcos t).length → loopF (p_muntinlaw15_KittyRound.s3 t ((kcos t).map kC) i k (rotP t (gi (kcos t) i) (gi (kcos t) k))) big (i : Int) = some (.inl ()) := by
    intro i k hi hk
    refine loop_to (fun n : Nat => ((i + n : Nat) : Int)) (n := k + 1 - i) (big_lt (by omega)) (by simp) (fun n hn => ?_) ?_
    · have hj : i + n < (kcos t).length := by omega
      have e1 := kRot ht hg (hm hi) (hm hj)
      have e2 := kRot ht hg (hm hj) (hm hk)
      have b1 := hrb (hm hi) (hm hj)
      have b2 := hrb (hm hj) (hm hk)
      have hsum : rotP t (gi (kcos t) i) (gi (kcos t) (i + n)) + rotP t (gi (kcos t) (i + n)) (gi (kcos t) k) = rotP t (gi (kcos t) i) (gi (kcos t) k) := by
        have c1 : i = i + n ∨ clt (gi (kcos t) i) (gi (kcos t) (i + n)) := by
          rcases Nat.eq_zero_or_pos n with h | h
          · exact .inl (by omega)
          · exact .inr (kcos_lt (by omega) hj)
        have c2 : i + n = k ∨ clt (gi (kcos t) (i + n)) (gi (kcos t) k) := by
          rcases Nat.lt_or_ge (i + n) k with h | h
          · exact .inr (kcos_lt h hk)
          · exact .inl (by omega)
        refine rotP_add (c1.imp (fun h => by rw [← h]) id) (c2.imp (fun h => by rw [h]) id)
      simp (disch := omega) only [p_muntinlaw15_KittyRound.s3, hml, kcos_gi hi, kcos_gi hj, kcos_gi hk, e1, e2, hsum, ck_pos, ckK64, ckK8, ifd_pos, ifd_neg, ifn_pos, ifn_neg, dec_t, dec_f, Option.bind_some, Int.toNat_natCast, List.length_append, List.length_cons, List.length_nil, Nat.zero_add, if_true, if_false, Bool.false_eq_true, Bool.not_true, Bool.not_false, Bool.true_and, Bool.false_and, Bool.and_true, Bool.and_false, Bool.true_or, Bool.false_or, Bool.or_true, Bool.or_false]
      try simp (disch := omega) only [ck_pos, ckK64, ckK8, ifd_pos, ifd_neg, ifn_pos, ifn_neg, dec_t, dec_f, Option.bind_some, Int.toNat_natCast, List.length_append, List.length_cons, List.length_nil, Nat.zero_add, if_true, if_false, Bool.false_eq_true, Bool.not_true, Bool.not_false, Bool.true_and, Bool.false_and, Bool.and_true, Bool.and_false, Bool.true_or, Bool.false_or, Bool.or_true, Bool.or_false]
      rfl
    · simp (disch := omega) only [p_muntinlaw15_KittyRound.s3, ck_pos, ckK64, ckK8, ifd_pos, ifd_neg, ifn_pos, ifn_neg, dec_t, dec_f, Option.bind_some, Int.toNat_natCast, List.length_append, List.length_cons, List.length_nil, Nat.zero_add, if_true, if_false, Bool.false_eq_true, Bool.not_true, Bool.not_false, Bool.true_and, Bool.false_and, Bool.and_true, Bool.and_false, Bool.true_or, Bool.false_or, Bool.or_true, Bool.or_false]
      try simp (disch := omega) only [ck_pos, ckK64, ckK8, ifd_pos, ifd_neg, ifn_pos, ifn_neg, dec_t, dec_f, Option.bind_some, Int.toNat_natCast, List.length_append, List.length_cons, List.length_nil, Nat.zero_add, if_true, if_false, Bool.false_eq_true, Bool.not_true, Bool.not_false, Bool.true_and, Bool.false_and, Bool.and_true, Bool.and_false, Bool.true_or, Bool.false_or, Bool.or_true, Bool.or_false]
  have mid : ∀ i : Nat, i < (kcos t).length → loopF (p_muntinlaw15_KittyRound.s2 t (psum t t.length) ((kcos t).map kC) i) big 0 = some (.inl ()) := by
    intro i hi
    refine loop_to (fun n : Nat => (n : Int)) (n := (kcos t).length) (big_lt (by omega)) rfl (fun k hk => ?_) ?_
    · have e1 := kRot ht hg (hm hi) (hm hk)
      have e2 := kRot ht hg (hm hk) (hm hi)
      have b1 := hrb (hm hi) (hm hk)
      have b2 := hrb (hm hk) (hm hi)
      have e3 := inner i k hi hk
      by_cases hik : i = k
      · subst hik
        rw [rotP_self] at e1 e2 e3 b1 b2
        simp (disch := omega) only [p_muntinlaw15_KittyRound.s2, hml, kcos_gi hi, e1, e3, ck_pos, ckK64, ckK8, ifd_pos, ifd_neg, ifn_pos, ifn_neg, dec_t, dec_f, Option.bind_some, Int.toNat_natCast, List.length_append, List.length_cons, List.length_nil, Nat.zero_add, if_true, if_false, Bool.false_eq_true, Bool.not_true, Bool.not_false, Bool.true_and, Bool.false_and, Bool.and_true, Bool.and_false, Bool.true_or, Bool.false_or, Bool.or_true, Bool.or_false]
        try simp (disch := omega) only [ck_pos, ckK64, ckK8, ifd_pos, ifd_neg, ifn_pos, ifn_neg, dec_t, dec_f, Option.bind_some, Int.toNat_natCast, List.length_append, List.length_cons, List.length_nil, Nat.zero_add, if_true, if_false, Bool.false_eq_true, Bool.not_true, Bool.not_false, Bool.true_and, Bool.false_and, Bool.and_true, Bool.and_false, Bool.true_or, Bool.false_or, Bool.or_true, Bool.or_false]
        rfl
      · have hs : rotP t (gi (kcos t) i) (gi (kcos t) k) + rotP t (gi (kcos t) k) (gi (kcos t) i) = psum t t.length := by
          rcases Nat.lt_or_gt_of_ne hik with h | h
          · have := kcos_lt h hk
            rw [rotP_lt this, rotP_gt this]; omega
          · have := kcos_lt h hi
            rw [rotP_lt this, rotP_gt this]; omega
        have hik' : ¬((i : Int) = k) := by omega
        simp (disch := omega) only [p_muntinlaw15_KittyRound.s2, hml, kcos_gi hi, kcos_gi hk, e1, e2, e3, hs, ck_pos, ckK64, ckK8, ifd_pos, ifd_neg, ifn_pos, ifn_neg, dec_t, dec_f, Option.bind_some, Int.toNat_natCast, List.length_append, List.length_cons, List.length_nil, Nat.zero_add, if_true, if_false, Bool.false_eq_true, Bool.not_true, Bool.not_false, Bool.true_and, Bool.false_and, Bool.and_true, Bool.and_false, Bool.true_or, Bool.false_or, Bool.or_true, Bool.or_false]
        try simp (disch := omega) only [ck_pos, ckK64, ckK8, ifd_pos, ifd_neg, ifn_pos, ifn_neg, dec_t, dec_f, Option.bind_some, Int.toNat_natCast, List.length_append, List.length_cons, List.length_nil, Nat.zero_add, if_true, if_false, Bool.false_eq_true, Bool.not_true, Bool.not_false, Bool.true_and, Bool.false_and, Bool.and_true, Bool.and_false, Bool.true_or, Bool.false_or, Bool.or_true, Bool.or_false]
        rfl
    · simp (disch := omega) only [p_muntinlaw15_KittyRound.s2, hml, ck_pos, ckK64, ckK8, ifd_pos, ifd_neg, ifn_pos, ifn_neg, dec_t, dec_f, Option.bind_some, Int.toNat_natCast, List.length_append, List.length_cons, List.length_nil, Nat.zero_add, if_true, if_false, Bool.false_eq_true, Bool.not_true, Bool.not_false, Bool.true_and, Bool.false_and, Bool.and_true, Bool.and_false, Bool.true_or, Bool.false_or, Bool.or_true, Bool.or_false]
      try simp (disch := omega) only [ck_pos, ckK64, ckK8, ifd_pos, ifd_neg, ifn_pos, ifn_neg, dec_t, dec_f, Option.bind_some, Int.toNat_natCast, List.length_append, List.length_cons, List.length_nil, Nat.zero_add, if_true, if_false, Bool.false_eq_true, Bool.not_true, Bool.not_false, Bool.true_and, Bool.false_and, Bool.and_true, Bool.and_false, Bool.true_or, Bool.false_or, Bool.or_true, Bool.or_false]
  have outer : loopF (p_muntinlaw15_KittyRound.s1 t (psum t t.length) ((kcos t).map kC)) big 0 = some (.inl ()) := by
    refine loop_to (fun n : Nat => (n : Int)) (n := (kcos t).length) (big_lt (by omega)) rfl (fun i hi => ?_) ?_
    · have e := mid i hi
      simp (disch := omega) only [p_muntinlaw15_KittyRound.s1, hml, e, ck_pos, ckK64, ckK8, ifd_pos, ifd_neg, ifn_pos, ifn_neg, dec_t, dec_f, Option.bind_some, Int.toNat_natCast, List.length_append, List.length_cons, List.length_nil, Nat.zero_add, if_true, if_false, Bool.false_eq_true, Bool.not_true, Bool.not_false, Bool.true_and, Bool.false_and, Bool.and_true, Bool.and_false, Bool.true_or, Bool.false_or, Bool.or_true, Bool.or_false]
      try simp (disch := omega) only [ck_pos, ckK64, ckK8, ifd_pos, ifd_neg, ifn_pos, ifn_neg, dec_t, dec_f, Option.bind_some, Int.toNat_natCast, List.length_append, List.length_cons, List.length_nil, Nat.zero_add, if_true, if_false, Bool.false_eq_true, Bool.not_true, Bool.not_false, Bool.true_and, Bool.false_and, Bool.and_true, Bool.and_false, Bool.true_or, Bool.false_or, Bool.or_true, Bool.or_false]
      rfl
    · simp (disch := omega) only [p_muntinlaw15_KittyRound.s1, hml, ck_pos, ckK64, ckK8, ifd_pos, ifd_neg, ifn_pos, ifn_neg, dec_t, dec_f, Option.bind_some, Int.toNat_natCast, List.length_append, List.length_cons, List.length_nil, Nat.zero_add, if_true, if_false, Bool.false_eq_true, Bool.not_true, Bool.not_false, Bool.true_and, Bool.false_and, Bool.and_true, Bool.and_false, Bool.true_or, Bool.false_or, Bool.or_true, Bool.or_false]
      try simp (disch := omega) only [ck_pos, ckK64, ckK8, ifd_pos, ifd_neg, ifn_pos, ifn_neg, dec_t, dec_f, Option.bind_some, Int.toNat_natCast, List.length_append, List.length_cons, List.length_nil, Nat.zero_add, if_true, if_false, Bool.false_eq_true, Bool.not_true, Bool.not_false, Bool.true_and, Bool.false_and, Bool.and_true, Bool.and_false, Bool.true_or, Bool.false_or, Bool.or_true, Bool.or_false]
  rw [outer, kWakes]
  rfl
end Mu
