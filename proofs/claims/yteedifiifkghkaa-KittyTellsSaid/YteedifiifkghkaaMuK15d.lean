/- Layer 15: the document's answer. -/
import Derived.Test.YteedifiifkghkaaMuK15c
set_option linter.unusedVariables false
set_option linter.unusedSimpArgs false
namespace Mu

theorem ckI64 {α : Type} {x : Int} {o : Option α} (h : -9223372036854775808 ≤ x ∧ x ≤ 9223372036854775807) : ck (in64 x) o = o := ck_pos h
def rC (c : Nat × Nat) : T_muntinref15_Corner := ⟨c.1, c.2⟩
theorem rC_inj {a b : Nat × Nat} (h : rC a = rC b) : a = b := by
  simp only [rC, T_muntinref15_Corner.mk.injEq] at h
  exact Prod.ext (by omega) (by omega)
theorem kR_good {t : List Int} (ht : t.length ≤ 1000) : p_muntinref15_Good t = some (gdB t) := by
  unfold p_muntinref15_Good
  rw [bd_eq (loop_find (n := t.length) (P := fun i => (decide (gi t i < -2) || decide (1 < gi t i))) (f := fun _ => ()) (big_lt (by omega)) (fun i hi => ?_) ?_)]
  · unfold gdB
    cases h : (List.range t.length).find? fun i => (decide (gi t i < -2) || decide (1 < gi t i)) with
    | none =>
      rw [List.find?_range_eq_none] at h
      have : ((List.range t.length).all fun i => !(decide (gi t i < -2) || decide (1 < gi t i))) = true := by
        rw [List.all_eq_true]
        intro i hi
        exact h i (by simpa using hi)
      rw [this]
    | some j =>
      rw [List.find?_range_eq_some] at h
      have : ((List.range t.length).all fun i => !(decide (gi t i < -2) || decide (1 < gi t i))) = false := by
        rw [List.all_eq_false]
        exact ⟨j, h.2.1, by rw [h.1]; simp⟩
      rw [this]
  · simp (disch := omega) only [p_muntinref15_Good.s0, ck_pos, ckK64, ckK8, ifd_pos, ifd_neg, ifn_pos, ifn_neg, dec_t, dec_f, Option.bind_some, Int.toNat_natCast, List.length_append, List.length_cons, List.length_nil, Nat.zero_add, if_true, if_false, Bool.false_eq_true, Bool.not_true, Bool.not_false, Bool.true_and, Bool.false_and, Bool.and_true, Bool.and_false, Bool.true_or, Bool.false_or, Bool.or_true, Bool.or_false]
    try simp (disch := omega) only [ck_pos, ckK64, ckK8, ifd_pos, ifd_neg, ifn_pos, ifn_neg, dec_t, dec_f, Option.bind_some, Int.toNat_natCast, List.length_append, List.length_cons, List.length_nil, Nat.zero_add, if_true, if_false, Bool.false_eq_true, Bool.not_true, Bool.not_false, Bool.true_and, Bool.false_and, Bool.and_true, Bool.and_false, Bool.true_or, Bool.false_or, Bool.or_true, Bool.or_false]
  · by_cases c : (decide (gi t i < -2) || decide (1 < gi t i)) = true
    · rw [if_pos c]
      simp (disch := omega) only [p_muntinref15_Good.s0, c, ck_pos, ckK64, ckK8, ifd_pos, ifd_neg, ifn_pos, ifn_neg, dec_t, dec_f, Option.bind_some, Int.toNat_natCast, List.length_append, List.length_cons, List.length_nil, Nat.zero_add, if_true, if_false, Bool.false_eq_true, Bool.not_true, Bool.not_false, Bool.true_and, Bool.false_and, Bool.and_true, Bool.and_false, Bool.true_or, Bool.false_or, Bool.or_true, Bool.or_false]
      try simp (disch := omega) only [ck_pos, ckK64, ckK8, ifd_pos, ifd_neg, ifn_pos, ifn_neg, dec_t, dec_f, Option.bind_some, Int.toNat_natCast, List.length_append, List.length_cons, List.length_nil, Nat.zero_add, if_true, if_false, Bool.false_eq_true, Bool.not_true, Bool.not_false, Bool.true_and, Bool.false_and, Bool.and_true, Bool.and_false, Bool.true_or, Bool.false_or, Bool.or_true, Bool.or_false]
    · rw [if_neg c]
      simp (disch := omega) only [p_muntinref15_Good.s0, c, ck_pos, ckK64, ckK8, ifd_pos, ifd_neg, ifn_pos, ifn_neg, dec_t, dec_f, Option.bind_some, Int.toNat_natCast, List.length_append, List.length_cons, List.length_nil, Nat.zero_add, if_true, if_false, Bool.false_eq_true, Bool.not_true, Bool.not_false, Bool.true_and, Bool.false_and, Bool.and_true, Bool.and_false, Bool.true_or, Bool.false_or, Bool.or_true, Bool.or_false]
      try simp (disch := omega) only [ck_pos, ckK64, ckK8, ifd_pos, ifd_neg, ifn_pos, ifn_neg, dec_t, dec_f, Option.bind_some, Int.toNat_natCast, List.length_append, List.length_cons, List.length_nil, Nat.zero_add, if_true, if_false, Bool.false_eq_true, Bool.not_true, Bool.not_false, Bool.true_and, Bool.false_and, Bool.and_true, Bool.and_false, Bool.true_or, Bool.false_or, Bool.or_true, Bool.or_false]
theorem kR_Corners {t : List Int} (ht : Tn t) : p_muntinref15_Corners t = some ((kcos t).map rC) := by
  have hl := ht.l
  unfold p_muntinref15_Corners
  rw [bd_eq (x := (kcos t).map rC)]
  refine loop_to (fun n : Nat => ((kcosTo t n).map rC, (n : Int))) (n := t.length) (big_lt (by omega)) rfl (fun n hn => ?_) ?_
  · have hk := kcosTo_length t n
    have hm : ((kcosTo t n).map rC).length = (kcosTo t n).length := by simp
    have e2 : kcosTo t (n + 1) = kcosTo t n ++ (List.range (knp (gi t n))).map fun p => (n, p) := rfl
    by_cases c1 : gi t n = -1
    · have k1 : knp (gi t n) = 1 := by rw [c1]; rfl
      rw [e2, k1]
      simp (disch := omega) only [p_muntinref15_Corners.s0, c1, hm, ck_pos, ckK64, ckK8, ifd_pos, ifd_neg, ifn_pos, ifn_neg, dec_t, dec_f, Option.bind_some, Int.toNat_natCast, List.length_append, List.length_cons, List.length_nil, Nat.zero_add, if_true, if_false, Bool.false_eq_true, Bool.not_true, Bool.not_false, Bool.true_and, Bool.false_and, Bool.and_true, Bool.and_false, Bool.true_or, Bool.false_or, Bool.or_true, Bool.or_false]
      try simp (disch := omega) only [ck_pos, ckK64, ckK8, ifd_pos, ifd_neg, ifn_pos, ifn_neg, dec_t, dec_f, Option.bind_some, Int.toNat_natCast, List.length_append, List.length_cons, List.length_nil, Nat.zero_add, if_true, if_false, Bool.false_eq_true, Bool.not_true, Bool.not_false, Bool.true_and, Bool.false_and, Bool.and_true, Bool.and_false, Bool.true_or, Bool.false_or, Bool.or_true, Bool.or_false]
      simp [rC, List.range_succ]
    · by_cases c2 : gi t n = -2
      · have k1 : knp (gi t n) = 2 := by rw [c2]; rfl
        rw [e2, k1]
        simp (disch := omega) only [p_muntinref15_Corners.s0, c2, hm, ck_pos, ckK64, ckK8, ifd_pos, ifd_neg, ifn_pos, ifn_neg, dec_t, dec_f, Option.bind_some, Int.toNat_natCast, List.length_append, List.length_cons, List.length_nil, Nat.zero_add, if_true, if_false, Bool.false_eq_true, Bool.not_true, Bool.not_false, Bool.true_and, Bool.false_and, Bool.and_true, Bool.and_false, Bool.true_or, Bool.false_or, Bool.or_true, Bool.or_false]
        try simp (disch := omega) only [ck_pos, ckK64, ckK8, ifd_pos, ifd_neg, ifn_pos, ifn_neg, dec_t, dec_f, Option.bind_some, Int.toNat_natCast, List.length_append, List.length_cons, List.length_nil, Nat.zero_add, if_true, if_false, Bool.false_eq_true, Bool.not_true, Bool.not_false, Bool.true_and, Bool.false_and, Bool.and_true, Bool.and_false, Bool.true_or, Bool.false_or, Bool.or_true, Bool.or_false]
        simp [rC, List.range_succ]
      · have k1 : knp (gi t n) = 0 := by unfold knp; rw [if_neg c1, if_neg c2]
        rw [e2, k1]
        simp (disch := omega) only [p_muntinref15_Corners.s0, c1, c2, hm, ck_pos, ckK64, ckK8, ifd_pos, ifd_neg, ifn_pos, ifn_neg, dec_t, dec_f, Option.bind_some, Int.toNat_natCast, List.length_append, List.length_cons, List.length_nil, Nat.zero_add, if_true, if_false, Bool.false_eq_true, Bool.not_true, Bool.not_false, Bool.true_and, Bool.false_and, Bool.and_true, Bool.and_false, Bool.true_or, Bool.false_or, Bool.or_true, Bool.or_false]
        try simp (disch := omega) only [ck_pos, ckK64, ckK8, ifd_pos, ifd_neg, ifn_pos, ifn_neg, dec_t, dec_f, Option.bind_some, Int.toNat_natCast, List.length_append, List.length_cons, List.length_nil, Nat.zero_add, if_true, if_false, Bool.false_eq_true, Bool.not_true, Bool.not_false, Bool.true_and, Bool.false_and, Bool.and_true, Bool.and_false, Bool.true_or, Bool.false_or, Bool.or_true, Bool.or_false]
        simp [rC, List.range_succ]
  · simp (disch := omega) only [p_muntinref15_Corners.s0, ck_pos, ckK64, ckK8, ifd_pos, ifd_neg, ifn_pos, ifn_neg, dec_t, dec_f, Option.bind_some, Int.toNat_natCast, List.length_append, List.length_cons, List.length_nil, Nat.zero_add, if_true, if_false, Bool.false_eq_true, Bool.not_true, Bool.not_false, Bool.true_and, Bool.false_and, Bool.and_true, Bool.and_false, Bool.true_or, Bool.false_or, Bool.or_true, Bool.or_false]
    try simp (disch := omega) only [ck_pos, ckK64, ckK8, ifd_pos, ifd_neg, ifn_pos, ifn_neg, dec_t, dec_f, Option.bind_some, Int.toNat_natCast, List.length_append, List.length_cons, List.length_nil, Nat.zero_add, if_true, if_false, Bool.false_eq_true, Bool.not_true, Bool.not_false, Bool.true_and, Bool.false_and, Bool.and_true, Bool.and_false, Bool.true_or, Bool.false_or, Bool.or_true, Bool.or_false]
    rfl
theorem kR_In {t : List Int} (ht : Tn t) {c : T_muntinref15_Corner} : p_muntinref15_In t c = some (decide (c ∈ (kcos t).map rC)) := by
  have hl := ht.l
  have hcl : ((kcos t).map rC).length ≤ 80 := by have := kcosTo_length t t.length; simp; unfold kcos; omega
  unfold p_muntinref15_In
  rw [kR_Corners ht, Option.bind_some]
  generalize (kcos t).map rC = l at hcl
  rw [bd_eq (loop_find (n := l.length) (P := fun i => decide (gi l i = c)) (f := fun _ => ()) (big_lt (by omega)) (fun i hi => ?_) ?_)]
  · cases h : (List.range l.length).find? fun i => decide (gi l i = c) with
    | none =>
      rw [List.find?_range_eq_none] at h
      have : c ∉ l := by
        intro hc
        obtain ⟨i, hi, e⟩ := List.getElem_of_mem hc
        have := h i hi
        rw [gi_eq hi, e] at this
        simp at this
      simp [this]
    | some j =>
      rw [List.find?_range_eq_some] at h
      have h1 : j < l.length := by simpa using h.2.1
      have : c ∈ l := by
        have := gi_mem h1
        rw [of_decide_eq_true h.1] at this
        exact this
      simp [this]
  · simp (disch := omega) only [p_muntinref15_In.s0, ck_pos, ckK64, ckK8, ifd_pos, ifd_neg, ifn_pos, ifn_neg, dec_t, dec_f, Option.bind_some, Int.toNat_natCast, List.length_append, List.length_cons, List.length_nil, Nat.zero_add, if_true, if_false, Bool.false_eq_true, Bool.not_true, Bool.not_false, Bool.true_and, Bool.false_and, Bool.and_true, Bool.and_false, Bool.true_or, Bool.false_or, Bool.or_true, Bool.or_false]
    try simp (disch := omega) only [ck_pos, ckK64, ckK8, ifd_pos, ifd_neg, ifn_pos, ifn_neg, dec_t, dec_f, Option.bind_some, Int.toNat_natCast, List.length_append, List.length_cons, List.length_nil, Nat.zero_add, if_true, if_false, Bool.false_eq_true, Bool.not_true, Bool.not_false, Bool.true_and, Bool.false_and, Bool.and_true, Bool.and_false, Bool.true_or, Bool.false_or, Bool.or_true, Bool.or_false]
  · by_cases e : gi l i = c
    · rw [if_pos (by simpa using e)]
      simp (disch := omega) only [p_muntinref15_In.s0, e, ck_pos, ckK64, ckK8, ifd_pos, ifd_neg, ifn_pos, ifn_neg, dec_t, dec_f, Option.bind_some, Int.toNat_natCast, List.length_append, List.length_cons, List.length_nil, Nat.zero_add, if_true, if_false, Bool.false_eq_true, Bool.not_true, Bool.not_false, Bool.true_and, Bool.false_and, Bool.and_true, Bool.and_false, Bool.true_or, Bool.false_or, Bool.or_true, Bool.or_false]
      try simp (disch := omega) only [ck_pos, ckK64, ckK8, ifd_pos, ifd_neg, ifn_pos, ifn_neg, dec_t, dec_f, Option.bind_some, Int.toNat_natCast, List.length_append, List.length_cons, List.length_nil, Nat.zero_add, if_true, if_false, Bool.false_eq_true, Bool.not_true, Bool.not_false, Bool.true_and, Bool.false_and, Bool.and_true, Bool.and_false, Bool.true_or, Bool.false_or, Bool.or_true, Bool.or_false]
    · rw [if_neg (by simpa using e)]
      simp (disch := omega) only [p_muntinref15_In.s0, e, decide_false, ck_pos, ckK64, ckK8, ifd_pos, ifd_neg, ifn_pos, ifn_neg, dec_t, dec_f, Option.bind_some, Int.toNat_natCast, List.length_append, List.length_cons, List.length_nil, Nat.zero_add, if_true, if_false, Bool.false_eq_true, Bool.not_true, Bool.not_false, Bool.true_and, Bool.false_and, Bool.and_true, Bool.and_false, Bool.true_or, Bool.false_or, Bool.or_true, Bool.or_false]
      try simp (disch := omega) only [ck_pos, ckK64, ckK8, ifd_pos, ifd_neg, ifn_pos, ifn_neg, dec_t, dec_f, Option.bind_some, Int.toNat_natCast, List.length_append, List.length_cons, List.length_nil, Nat.zero_add, if_true, if_false, Bool.false_eq_true, Bool.not_true, Bool.not_false, Bool.true_and, Bool.false_and, Bool.and_true, Bool.and_false, Bool.true_or, Bool.false_or, Bool.or_true, Bool.or_false]

/-! Single turns. -/
def sPart (x : Int) : List Int := if x = -2 then [-1, -1] else [x]
def sngTo (t : List Int) : Nat → List Int
  | 0 => []
  | n + 1 => sngTo t n ++ sPart (gi t n)
theorem sPart_len (x : Int) : 1 ≤ (sPart x).length ∧ (sPart x).length ≤ 2 := by unfold sPart; split <;> simp
theorem sngTo_len (t : List Int) : ∀ n, (sngTo t n).length ≤ 2 * n
  | 0 => by simp [sngTo]
  | n + 1 => by
    have := sngTo_len t n
    have := sPart_len (gi t n)
    simp only [sngTo, List.length_append]; omega
theorem sngTo_pre {t : List Int} {n : Nat} : ∀ k, ∃ r, sngTo t (n + k) = sngTo t n ++ r
  | 0 => ⟨[], by simp⟩
  | k + 1 => by
    obtain ⟨r, h⟩ := sngTo_pre (t := t) (n := n) k
    exact ⟨r ++ sPart (gi t (n + k)), by rw [← Nat.add_assoc, sngTo, h, List.append_assoc]⟩
theorem sPart_sum (x : Int) : psum (sPart x) (sPart x).length = x := by
  unfold sPart
  split
  · rename_i h; rw [h]; rfl
  · simp [psum, gi]
theorem sngTo_sum (t : List Int) : ∀ n, psum (sngTo t n) (sngTo t n).length = psum t n
  | 0 => rfl
  | n + 1 => by
    simp only [sngTo, List.length_append]
    rw [psum_append, sngTo_sum t n, sPart_sum]
    rfl
def pos (t : List Int) (c : Nat × Nat) : Nat := (sngTo t c.1).length + c.2
theorem sngTo_le {t : List Int} {n m : Nat} (h : n ≤ m) : (sngTo t n).length ≤ (sngTo t m).length := by
  obtain ⟨r, e⟩ := sngTo_pre (t := t) (n := n) (m - n)
  rw [show n + (m - n) = m by omega] at e
  rw [e, List.length_append]; omega
theorem pos_lt {t : List Int} {c : Nat × Nat} (hc : c ∈ kcos t) : pos t c < (sngTo t (c.1 + 1)).length := by
  have h := (kcos_mem.1 hc).2
  simp only [pos, sngTo, List.length_append]
  unfold knp at h
  unfold sPart
  split at h
  · rename_i e; rw [e]; simp; omega
  · split at h
    · rename_i e; rw [if_pos e]; simp; omega
    · omega
theorem pos_all {t : List Int} {c : Nat × Nat} (hc : c ∈ kcos t) : pos t c < (sngTo t t.length).length :=
  Nat.lt_of_lt_of_le (pos_lt hc) (sngTo_le (by have := (kcos_mem.1 hc).1; omega))
theorem pos_mono {t : List Int} {a b : Nat × Nat} (ha : a ∈ kcos t) (h : clt a b) : pos t a < pos t b := by
  rcases h with h | ⟨h1, h2⟩
  · have := pos_lt ha
    have := sngTo_le (t := t) (n := a.1 + 1) (m := b.1) (by omega)
    unfold pos at *; omega
  · unfold pos; rw [h1]; omega
theorem pos_sum {t : List Int} {c : Nat × Nat} (hc : c ∈ kcos t) : psum (sngTo t t.length) (pos t c) = psum t c.1 - c.2 := by
  obtain ⟨h1, h2⟩ := kcos_mem.1 hc
  obtain ⟨r, e⟩ := sngTo_pre (t := t) (n := c.1 + 1) (t.length - (c.1 + 1))
  rw [show c.1 + 1 + (t.length - (c.1 + 1)) = t.length by omega, sngTo, List.append_assoc] at e
  rw [e, pos, psum_append, sngTo_sum]
  have : c.2 = 0 ∨ (c.2 = 1 ∧ gi t c.1 = -2) := by
    unfold knp at h2
    split at h2
    · omega
    · split at h2
      · rename_i e; omega
      · omega
  rcases this with h | ⟨h, h3⟩
  · rw [h]; simp [psum]
  · rw [h, h3]; simp [sPart, psum, gi]; omega
theorem sng_b {t : List Int} (ht : Tn t) : ∀ n i, -128 ≤ gi (sngTo t n) i ∧ gi (sngTo t n) i ≤ 127
  | 0, i => by rw [gi_default (by simp [sngTo])]; exact ⟨by decide, by decide⟩
  | n + 1, i => by
    simp only [sngTo]
    rw [gi_append]
    split
    · exact sng_b ht n i
    · have := ht.b n
      unfold sPart
      generalize i - (sngTo t n).length = j
      split
      · match j with
        | 0 => simp [gi]
        | 1 => simp [gi]
        | j + 2 => rw [gi_default (by simp)]; exact ⟨by decide, by decide⟩
      · match j with
        | 0 => simpa [gi] using this
        | j + 1 => rw [gi_default (by simp)]; exact ⟨by decide, by decide⟩
theorem psum_b8 {s : List Int} (h : ∀ i, -128 ≤ gi s i ∧ gi s i ≤ 127) : ∀ n : Nat, -128 * (n : Int) ≤ psum s n ∧ psum s n ≤ 127 * n
  | 0 => by simp [psum]
  | n + 1 => by
    have := psum_b8 h n
    have := h n
    simp only [psum]
    omega
theorem kR_Rot {t : List Int} (ht : Tn t) {a b : Nat × Nat} (ha : a ∈ kcos t) (hb : b ∈ kcos t) : p_muntinref15_Rot t (rC a) (rC b) = some (rotP t a b) := by
  have hl := ht.l
  have a1 := kcos_mem.1 ha
  have b1 := kcos_mem.1 hb
  have a2 := knp_le (gi t a.1)
  have b2 := knp_le (gi t b.1)
  have first : loopF (p_muntinref15_Rot.s0 t (rC a) (rC b)) big (([] : List Int), 0, 0, 0) = some (sngTo t t.length, (pos t a : Int), (pos t b : Int)) := by
    refine loop_to (fun n : Nat => (sngTo t n, (if a.1 < n then (pos t a : Int) else 0), (if b.1 < n then (pos t b : Int) else 0), (n : Int))) (n := t.length) (big_lt (by omega)) rfl (fun n hn => ?_) ?_
    · have hs := sngTo_len t n
      have e : sngTo t (n + 1) = sngTo t n ++ sPart (gi t n) := rfl
      have key : ∀ c : Nat × Nat, c.2 ≤ 2 → (if decide ((n : Int) = (rC c).At) = true then ck (in64 (((sngTo t n).length : Int) + (rC c).Part)) (some (((sngTo t n).length : Int) + (rC c).Part)) else some (if c.1 < n then (pos t c : Int) else 0)) = some (if c.1 < n + 1 then (pos t c : Int) else 0) := by
        intro c hc
        by_cases h : n = c.1
        · subst h
          rw [ifd_pos (show ((c.1 : Nat) : Int) = (rC c).At from rfl), ckI64 (by simp only [rC]; omega), if_pos (by omega)]
          simp [rC, pos]
        · rw [ifd_neg (by simp only [rC]; omega)]
          by_cases h2 : c.1 < n
          · rw [if_pos h2, if_pos (by omega)]
          · rw [if_neg h2, if_neg (by omega)]
      simp only [p_muntinref15_Rot.s0]
      rw [key a (by omega), key b (by omega), e]
      by_cases c : gi t n = -2
      · simp (disch := omega) only [c, sPart, ck_pos, ckK64, ckK8, ifd_pos, ifd_neg, ifn_pos, ifn_neg, dec_t, dec_f, Option.bind_some, Int.toNat_natCast, List.length_append, List.length_cons, List.length_nil, Nat.zero_add, if_true, if_false, Bool.false_eq_true, Bool.not_true, Bool.not_false, Bool.true_and, Bool.false_and, Bool.and_true, Bool.and_false, Bool.true_or, Bool.false_or, Bool.or_true, Bool.or_false]
        try simp (disch := omega) only [ck_pos, ckK64, ckK8, ifd_pos, ifd_neg, ifn_pos, ifn_neg, dec_t, dec_f, Option.bind_some, Int.toNat_natCast, List.length_append, List.length_cons, List.length_nil, Nat.zero_add, if_true, if_false, Bool.false_eq_true, Bool.not_true, Bool.not_false, Bool.true_and, Bool.false_and, Bool.and_true, Bool.and_false, Bool.true_or, Bool.false_or, Bool.or_true, Bool.or_false]
        rfl
      · simp (disch := omega) only [c, sPart, ck_pos, ckK64, ckK8, ifd_pos, ifd_neg, ifn_pos, ifn_neg, dec_t, dec_f, Option.bind_some, Int.toNat_natCast, List.length_append, List.length_cons, List.length_nil, Nat.zero_add, if_true, if_false, Bool.false_eq_true, Bool.not_true, Bool.not_false, Bool.true_and, Bool.false_and, Bool.and_true, Bool.and_false, Bool.true_or, Bool.false_or, Bool.or_true, Bool.or_false]
        try simp (disch := omega) only [ck_pos, ckK64, ckK8, ifd_pos, ifd_neg, ifn_pos, ifn_neg, dec_t, dec_f, Option.bind_some, Int.toNat_natCast, List.length_append, List.length_cons, List.length_nil, Nat.zero_add, if_true, if_false, Bool.false_eq_true, Bool.not_true, Bool.not_false, Bool.true_and, Bool.false_and, Bool.and_true, Bool.and_false, Bool.true_or, Bool.false_or, Bool.or_true, Bool.or_false]
        rfl
    · simp (disch := omega) only [p_muntinref15_Rot.s0, ck_pos, ckK64, ckK8, ifd_pos, ifd_neg, ifn_pos, ifn_neg, dec_t, dec_f, Option.bind_some, Int.toNat_natCast, List.length_append, List.length_cons, List.length_nil, Nat.zero_add, if_true, if_false, Bool.false_eq_true, Bool.not_true, Bool.not_false, Bool.true_and, Bool.false_and, Bool.and_true, Bool.and_false, Bool.true_or, Bool.false_or, Bool.or_true, Bool.or_false]
      try simp (disch := omega) only [ck_pos, ckK64, ckK8, ifd_pos, ifd_neg, ifn_pos, ifn_neg, dec_t, dec_f, Option.bind_some, Int.toNat_natCast, List.length_append, List.length_cons, List.length_nil, Nat.zero_add, if_true, if_false, Bool.false_eq_true, Bool.not_true, Bool.not_false, Bool.true_and, Bool.false_and, Bool.and_true, Bool.and_false, Bool.true_or, Bool.false_or, Bool.or_true, Bool.or_false]
      rw [if_pos a1.1, if_pos b1.1]
  have pa := pos_all ha
  have pb := pos_all hb
  have hL := sngTo_len t t.length
  unfold p_muntinref15_Rot
  rw [first, Option.bind_some]
  dsimp only
  rw [bd_eq (x := rotP t a b)]
  have sa := pos_sum ha
  have sb := pos_sum hb
  have sl := sngTo_sum t t.length
  have bnd := sng_b ht t.length
  have pab : pos t b < pos t a ↔ (b.1 < a.1 ∨ (b.1 = a.1 ∧ b.2 < a.2)) := by
    constructor
    · intro h
      by_cases c : clt b a
      · exact c
      · by_cases c2 : a = b
        · subst c2; omega
        · have : clt a b := by
            unfold clt at *
            rcases Nat.lt_trichotomy a.1 b.1 with h | h | h
            · exact .inl h
            · refine .inr ⟨h, ?_⟩
              rcases Nat.lt_trichotomy a.2 b.2 with h2 | h2 | h2
              · exact h2
              · exact absurd (Prod.ext h h2) c2
              · omega
            · omega
          have := pos_mono ha this
          omega
    · exact fun h => pos_mono hb h
  have hr : rotP t a b = psum (sngTo t t.length) (pos t b) - psum (sngTo t t.length) (pos t a) + if pos t b < pos t a then psum (sngTo t t.length) (sngTo t t.length).length else 0 := by
    unfold rotP
    rw [sa, sb, sl]
    simp only [pab]
  rw [hr]
  generalize pos t a = p at *
  generalize pos t b = q at *
  generalize sngTo t t.length = s at *
  have ps := psum_b8 bnd
  have L0 : s.length ≤ 80 := by omega
  refine loop_to (fun i : Nat => if p + i < s.length then (psum s (p + i) - psum s p, ((p + i : Nat) : Int)) else (psum s s.length - psum s p + psum s (p + i - s.length), ((p + i - s.length : Nat) : Int))) (n := if q < p then s.length - p + q else q - p) (big_lt (by split <;> omega)) (by simp [pa]) (fun i hi => ?_) ?_
  · have b0 := ps p
    have b1 := ps s.length
    by_cases c : p + i < s.length
    · have b2 := ps (p + i)
      have b3 := bnd (p + i)
      have hne : ¬ ((p + i : Nat) : Int) = (q : Int) := by split at hi <;> omega
      rw [if_pos c]
      by_cases c2 : p + (i + 1) < s.length
      · have e : ((p + i : Nat) : Int).toNat = p + i := by omega
        have e2 : (((p + i : Nat) : Int) + 1).tmod (s.length : Int) = ((p + (i + 1) : Nat) : Int) := by
          rw [Int.tmod_eq_of_lt (by omega) (by omega)]; omega
        rw [if_pos c2]
        simp only [p_muntinref15_Rot.s1]
        rw [if_pos (by simpa using hne), ck_pos (by omega), ckI64 (by rw [e]; omega), ckI64 (by omega), ck_pos (by omega), e, e2]
        have : psum s (p + (i + 1)) = psum s (p + i) + gi s (p + i) := rfl
        rw [show psum s (p + i) - psum s p + gi s (p + i) = psum s (p + (i + 1)) - psum s p by omega]
      · have e : ((p + i : Nat) : Int).toNat = p + i := by omega
        have hL1 : p + i + 1 = s.length := by omega
        have e2 : (((p + i : Nat) : Int) + 1).tmod (s.length : Int) = ((p + (i + 1) - s.length : Nat) : Int) := by
          rw [show ((p + i : Nat) : Int) + 1 = (s.length : Int) by omega, Int.tmod_self]; omega
        rw [if_neg c2]
        simp only [p_muntinref15_Rot.s1]
        rw [if_pos (by simpa using hne), ck_pos (by omega), ckI64 (by rw [e]; omega), ckI64 (by omega), ck_pos (by omega), e, e2]
        have : psum s s.length = psum s (p + i) + gi s (p + i) := by rw [← hL1]; rfl
        have z : p + (i + 1) - s.length = 0 := by omega
        have z2 : psum s 0 = 0 := rfl
        rw [z, z2, show psum s (p + i) - psum s p + gi s (p + i) = psum s s.length - psum s p + 0 by omega]
    · have hq : q < p := by split at hi <;> omega
      rw [if_pos hq] at hi
      have b2 := ps (p + i - s.length)
      have b3 := bnd (p + i - s.length)
      have hne : ¬ ((p + i - s.length : Nat) : Int) = (q : Int) := by omega
      have e : ((p + i - s.length : Nat) : Int).toNat = p + i - s.length := by omega
      have e2 : (((p + i - s.length : Nat) : Int) + 1).tmod (s.length : Int) = ((p + (i + 1) - s.length : Nat) : Int) := by
        rw [Int.tmod_eq_of_lt (by omega) (by omega)]; omega
      rw [if_neg c, if_neg (show ¬ p + (i + 1) < s.length by omega)]
      simp only [p_muntinref15_Rot.s1]
      rw [if_pos (by simpa using hne), ck_pos (by omega), ckI64 (by rw [e]; omega), ckI64 (by omega), ck_pos (by omega), e, e2]
      have : psum s (p + (i + 1) - s.length) = psum s (p + i - s.length) + gi s (p + i - s.length) := by
        rw [show p + (i + 1) - s.length = p + i - s.length + 1 by omega]; rfl
      rw [show psum s s.length - psum s p + psum s (p + i - s.length) + gi s (p + i - s.length) = psum s s.length - psum s p + psum s (p + (i + 1) - s.length) by omega]
  · by_cases c : q < p
    · rw [if_pos c, if_neg (by omega)]
      have : p + (s.length - p + q) - s.length = q := by omega
      rw [this, if_pos c, show psum s q - psum s p + psum s s.length = psum s s.length - psum s p + psum s q by omega]
      simp (disch := omega) only [p_muntinref15_Rot.s1, ck_pos, ckK64, ckK8, ifd_pos, ifd_neg, ifn_pos, ifn_neg, dec_t, dec_f, Option.bind_some, Int.toNat_natCast, List.length_append, List.length_cons, List.length_nil, Nat.zero_add, if_true, if_false, Bool.false_eq_true, Bool.not_true, Bool.not_false, Bool.true_and, Bool.false_and, Bool.and_true, Bool.and_false, Bool.true_or, Bool.false_or, Bool.or_true, Bool.or_false]
      try simp (disch := omega) only [ck_pos, ckK64, ckK8, ifd_pos, ifd_neg, ifn_pos, ifn_neg, dec_t, dec_f, Option.bind_some, Int.toNat_natCast, List.length_append, List.length_cons, List.length_nil, Nat.zero_add, if_true, if_false, Bool.false_eq_true, Bool.not_true, Bool.not_false, Bool.true_and, Bool.false_and, Bool.and_true, Bool.and_false, Bool.true_or, Bool.false_or, Bool.or_true, Bool.or_false]
      simp
    · rw [if_neg c, if_pos (by omega)]
      have : p + (q - p) = q := by omega
      rw [this, if_neg c, Int.add_zero]
      simp (disch := omega) only [p_muntinref15_Rot.s1, ck_pos, ckK64, ckK8, ifd_pos, ifd_neg, ifn_pos, ifn_neg, dec_t, dec_f, Option.bind_some, Int.toNat_natCast, List.length_append, List.length_cons, List.length_nil, Nat.zero_add, if_true, if_false, Bool.false_eq_true, Bool.not_true, Bool.not_false, Bool.true_and, Bool.false_and, Bool.and_true, Bool.and_false, Bool.true_or, Bool.false_or, Bool.or_true, Bool.or_false]
      try simp (disch := omega) only [ck_pos, ckK64, ckK8, ifd_pos, ifd_neg, ifn_pos, ifn_neg, dec_t, dec_f, Option.bind_some, Int.toNat_natCast, List.length_append, List.length_cons, List.length_nil, Nat.zero_add, if_true, if_false, Bool.false_eq_true, Bool.not_true, Bool.not_false, Bool.true_and, Bool.false_and, Bool.and_true, Bool.and_false, Bool.true_or, Bool.false_or, Bool.or_true, Bool.or_false]
      simp
theorem kPairR {t : List Int} (ht : Tn t) : p_muntinref15_Pair t = some (match pairP t with | some (i, k) => (rC (gi (kcos t) i), rC (gi (kcos t) k), true) | none => (⟨0, 0⟩, ⟨0, 0⟩, false)) := by
  have hl := ht.l
  have hcl : (kcos t).length ≤ 80 := by have := kcosTo_length t t.length; unfold kcos; omega
  unfold p_muntinref15_Pair
  rw [kR_Corners ht, Option.bind_some]
  have hml : ((kcos t).map rC).length = (kcos t).length := by simp
  have gr : ∀ {i}, i < (kcos t).length → gi ((kcos t).map rC) i = rC (gi (kcos t) i) := by
    intro i hi
    rw [gi_eq (by simpa using hi), gi_eq hi]; simp
  have inner : ∀ i : Nat, i < (kcos t).length → loopF (p_muntinref15_Pair.s1 t ((kcos t).map rC) i) big 0 = some (match inP t i with | some k => .inr (rC (gi (kcos t) k)) | none => .inl ()) := by
    intro i hi
    unfold inP
    refine loop_find (n := (kcos t).length) (P := fun k => decide (rotP t (gi (kcos t) i) (gi (kcos t) k) = 2)) (f := fun k => rC (gi (kcos t) k)) (big_lt (by omega)) (fun k hk => ?_) ?_
    · have e := kR_Rot ht (gi_mem hi) (gi_mem hk)
      by_cases c : rotP t (gi (kcos t) i) (gi (kcos t) k) = 2
      · have c' : decide (rotP t (gi (kcos t) i) (gi (kcos t) k) = 2) = true := by simpa using c
        rw [c', if_pos rfl]
        simp (disch := omega) only [p_muntinref15_Pair.s1, hml, gr hi, gr hk, e, c, ck_pos, ckK64, ckK8, ifd_pos, ifd_neg, ifn_pos, ifn_neg, dec_t, dec_f, Option.bind_some, Int.toNat_natCast, List.length_append, List.length_cons, List.length_nil, Nat.zero_add, if_true, if_false, Bool.false_eq_true, Bool.not_true, Bool.not_false, Bool.true_and, Bool.false_and, Bool.and_true, Bool.and_false, Bool.true_or, Bool.false_or, Bool.or_true, Bool.or_false]
        try simp (disch := omega) only [ck_pos, ckK64, ckK8, ifd_pos, ifd_neg, ifn_pos, ifn_neg, dec_t, dec_f, Option.bind_some, Int.toNat_natCast, List.length_append, List.length_cons, List.length_nil, Nat.zero_add, if_true, if_false, Bool.false_eq_true, Bool.not_true, Bool.not_false, Bool.true_and, Bool.false_and, Bool.and_true, Bool.and_false, Bool.true_or, Bool.false_or, Bool.or_true, Bool.or_false]
      · have c' : decide (rotP t (gi (kcos t) i) (gi (kcos t) k) = 2) = false := by simpa using c
        rw [c', if_neg (by decide)]
        simp (disch := omega) only [p_muntinref15_Pair.s1, hml, gr hi, gr hk, e, ck_pos, ckK64, ckK8, ifd_pos, ifd_neg, ifn_pos, ifn_neg, dec_t, dec_f, Option.bind_some, Int.toNat_natCast, List.length_append, List.length_cons, List.length_nil, Nat.zero_add, if_true, if_false, Bool.false_eq_true, Bool.not_true, Bool.not_false, Bool.true_and, Bool.false_and, Bool.and_true, Bool.and_false, Bool.true_or, Bool.false_or, Bool.or_true, Bool.or_false]
        try simp (disch := omega) only [ck_pos, ckK64, ckK8, ifd_pos, ifd_neg, ifn_pos, ifn_neg, dec_t, dec_f, Option.bind_some, Int.toNat_natCast, List.length_append, List.length_cons, List.length_nil, Nat.zero_add, if_true, if_false, Bool.false_eq_true, Bool.not_true, Bool.not_false, Bool.true_and, Bool.false_and, Bool.and_true, Bool.and_false, Bool.true_or, Bool.false_or, Bool.or_true, Bool.or_false]
    · simp (disch := omega) only [p_muntinref15_Pair.s1, hml, ck_pos, ckK64, ckK8, ifd_pos, ifd_neg, ifn_pos, ifn_neg, dec_t, dec_f, Option.bind_some, Int.toNat_natCast, List.length_append, List.length_cons, List.length_nil, Nat.zero_add, if_true, if_false, Bool.false_eq_true, Bool.not_true, Bool.not_false, Bool.true_and, Bool.false_and, Bool.and_true, Bool.and_false, Bool.true_or, Bool.false_or, Bool.or_true, Bool.or_false]
      try simp (disch := omega) only [ck_pos, ckK64, ckK8, ifd_pos, ifd_neg, ifn_pos, ifn_neg, dec_t, dec_f, Option.bind_some, Int.toNat_natCast, List.length_append, List.length_cons, List.length_nil, Nat.zero_add, if_true, if_false, Bool.false_eq_true, Bool.not_true, Bool.not_false, Bool.true_and, Bool.false_and, Bool.and_true, Bool.and_false, Bool.true_or, Bool.false_or, Bool.or_true, Bool.or_false]
  have outer : loopF (p_muntinref15_Pair.s0 t ((kcos t).map rC)) big 0 = some (match outP t with | some i => .inr (rC (gi (kcos t) i), match inP t i with | some k => rC (gi (kcos t) k) | none => ⟨0, 0⟩) | none => .inl ()) := by
    unfold outP
    refine loop_find (n := (kcos t).length) (P := fun i => (inP t i).isSome) (f := fun i => (rC (gi (kcos t) i), match inP t i with | some k => rC (gi (kcos t) k) | none => ⟨0, 0⟩)) (big_lt (by omega)) (fun i hi => ?_) ?_
    · have e := inner i hi
      cases h : inP t i with
      | none =>
        rw [h] at e
        simp (disch := omega) only [p_muntinref15_Pair.s0, hml, e, ck_pos, ckK64, ckK8, ifd_pos, ifd_neg, ifn_pos, ifn_neg, dec_t, dec_f, Option.bind_some, Int.toNat_natCast, List.length_append, List.length_cons, List.length_nil, Nat.zero_add, if_true, if_false, Bool.false_eq_true, Bool.not_true, Bool.not_false, Bool.true_and, Bool.false_and, Bool.and_true, Bool.and_false, Bool.true_or, Bool.false_or, Bool.or_true, Bool.or_false]
        try simp (disch := omega) only [ck_pos, ckK64, ckK8, ifd_pos, ifd_neg, ifn_pos, ifn_neg, dec_t, dec_f, Option.bind_some, Int.toNat_natCast, List.length_append, List.length_cons, List.length_nil, Nat.zero_add, if_true, if_false, Bool.false_eq_true, Bool.not_true, Bool.not_false, Bool.true_and, Bool.false_and, Bool.and_true, Bool.and_false, Bool.true_or, Bool.false_or, Bool.or_true, Bool.or_false]
        rfl
      | some k =>
        rw [h] at e
        simp (disch := omega) only [p_muntinref15_Pair.s0, hml, e, gr hi, ck_pos, ckK64, ckK8, ifd_pos, ifd_neg, ifn_pos, ifn_neg, dec_t, dec_f, Option.bind_some, Int.toNat_natCast, List.length_append, List.length_cons, List.length_nil, Nat.zero_add, if_true, if_false, Bool.false_eq_true, Bool.not_true, Bool.not_false, Bool.true_and, Bool.false_and, Bool.and_true, Bool.and_false, Bool.true_or, Bool.false_or, Bool.or_true, Bool.or_false]
        try simp (disch := omega) only [ck_pos, ckK64, ckK8, ifd_pos, ifd_neg, ifn_pos, ifn_neg, dec_t, dec_f, Option.bind_some, Int.toNat_natCast, List.length_append, List.length_cons, List.length_nil, Nat.zero_add, if_true, if_false, Bool.false_eq_true, Bool.not_true, Bool.not_false, Bool.true_and, Bool.false_and, Bool.and_true, Bool.and_false, Bool.true_or, Bool.false_or, Bool.or_true, Bool.or_false]
        rfl
    · simp (disch := omega) only [p_muntinref15_Pair.s0, hml, ck_pos, ckK64, ckK8, ifd_pos, ifd_neg, ifn_pos, ifn_neg, dec_t, dec_f, Option.bind_some, Int.toNat_natCast, List.length_append, List.length_cons, List.length_nil, Nat.zero_add, if_true, if_false, Bool.false_eq_true, Bool.not_true, Bool.not_false, Bool.true_and, Bool.false_and, Bool.and_true, Bool.and_false, Bool.true_or, Bool.false_or, Bool.or_true, Bool.or_false]
      try simp (disch := omega) only [ck_pos, ckK64, ckK8, ifd_pos, ifd_neg, ifn_pos, ifn_neg, dec_t, dec_f, Option.bind_some, Int.toNat_natCast, List.length_append, List.length_cons, List.length_nil, Nat.zero_add, if_true, if_false, Bool.false_eq_true, Bool.not_true, Bool.not_false, Bool.true_and, Bool.false_and, Bool.and_true, Bool.and_false, Bool.true_or, Bool.false_or, Bool.or_true, Bool.or_false]
  rw [outer]
  simp only [Option.bind_some]
  unfold pairP
  cases ho : outP t with
  | none => rfl
  | some i =>
    have := ho
    unfold outP at this
    rw [List.find?_range_eq_some] at this
    cases hi : inP t i with
    | none => rw [hi] at this; exact absurd this.1 (by simp)
    | some k => simp [hi]
theorem kRotBad {t : List Int} (ht : Tn t) (hg : ¬ Gd t) (a b : T_kitty_Corner) : p_kitty_Rot t a b = some (0, 2) := by
  have hb : gdB t = false := by
    cases h : gdB t with
    | false => rfl
    | true => exact absurd (gdB_iff.1 h) hg
  unfold p_kitty_Rot
  rw [kCorners ht, Option.bind_some, kRight (by have := ht.l; omega), hb]
  rfl
theorem kRotOut {t : List Int} (ht : Tn t) (hg : Gd t) {a b : T_kitty_Corner} (h : ¬ (a ∈ (kcos t).map kC ∧ b ∈ (kcos t).map kC)) : p_kitty_Rot t a b = some (0, 2) := by
  have hcl : ((kcos t).map kC).length ≤ 80 := by have := kcosTo_length t t.length; have := ht.l; simp; unfold kcos; omega
  unfold p_kitty_Rot
  rw [kCorners ht, Option.bind_some, kRight (by have := ht.l; omega), gdB_iff.2 hg, Option.bind_some, kContains (by omega), kContains (by omega)]
  by_cases ca : a ∈ (kcos t).map kC
  · have cb : b ∉ (kcos t).map kC := fun cb => h ⟨ca, cb⟩
    simp [ca, cb]
  · simp [ca]
theorem kPairBad {t : List Int} (ht : Tn t) (hg : ¬ Gd t) : p_kitty_Pair t = some (⟨0, 0⟩, ⟨0, 0⟩, false) := by
  have hb : gdB t = false := by
    cases h : gdB t with
    | false => rfl
    | true => exact absurd (gdB_iff.1 h) hg
  unfold p_kitty_Pair
  rw [kRight (by have := ht.l; omega), hb]
  rfl
theorem mem_kr {t : List Int} {a : T_kitty_Corner} : ((⟨a.At, a.Part⟩ : T_muntinref15_Corner) ∈ (kcos t).map rC) ↔ a ∈ (kcos t).map kC := by
  obtain ⟨x, y⟩ := a
  simp [rC, kC]
end Mu
