/- Layer 15, plainly: corners, sums, rotations. -/
import Derived.Test.YteedifiifkghkaaMuV
import Derived.Test.YteedifiifkghkaaMuDf
set_option linter.unusedVariables false
set_option linter.unusedSimpArgs false
namespace Mu

def knp (x : Int) : Nat := if x = -1 then 1 else if x = -2 then 2 else 0
def kcosTo (t : List Int) : Nat → List (Nat × Nat)
  | 0 => []
  | n + 1 => kcosTo t n ++ (List.range (knp (gi t n))).map fun p => (n, p)
def kcos (t : List Int) : List (Nat × Nat) := kcosTo t t.length
def kC (c : Nat × Nat) : T_kitty_Corner := ⟨c.1, c.2⟩
structure Tn (t : List Int) : Prop where
  l : t.length ≤ 40
  b : ∀ i, -128 ≤ gi t i ∧ gi t i ≤ 127
def Gd (t : List Int) : Prop := ∀ i, -2 ≤ gi t i ∧ gi t i ≤ 1

theorem knp_le (x : Int) : knp x ≤ 2 := by unfold knp; split <;> (try split) <;> omega
theorem kcosTo_length (t : List Int) : ∀ n, (kcosTo t n).length ≤ 2 * n
  | 0 => by simp [kcosTo]
  | n + 1 => by
    have := kcosTo_length t n
    have := knp_le (gi t n)
    simp only [kcosTo, List.length_append, List.length_map, List.length_range]
    omega
theorem kcosTo_mem {t : List Int} {c : Nat × Nat} : ∀ {n}, c ∈ kcosTo t n ↔ c.1 < n ∧ c.2 < knp (gi t c.1)
  | 0 => by simp [kcosTo]
  | n + 1 => by
    simp only [kcosTo, List.mem_append, kcosTo_mem, List.mem_map, List.mem_range]
    constructor
    · rintro (⟨h1, h2⟩ | ⟨p, hp, rfl⟩)
      · exact ⟨by omega, h2⟩
      · exact ⟨by simp, hp⟩
    · rintro ⟨h1, h2⟩
      by_cases h : c.1 < n
      · exact .inl ⟨h, h2⟩
      · have : c.1 = n := by omega
        refine .inr ⟨c.2, by rw [← this]; exact h2, by rw [← this]⟩
theorem kcos_mem {t : List Int} {c : Nat × Nat} : c ∈ kcos t ↔ c.1 < t.length ∧ c.2 < knp (gi t c.1) := kcosTo_mem
theorem kC_inj {a b : Nat × Nat} (h : kC a = kC b) : a = b := by
  simp only [kC, T_kitty_Corner.mk.injEq] at h
  exact Prod.ext (by omega) (by omega)

theorem kCorners_in {t : List Int} {n : Nat} {l : List T_kitty_Corner} (hl : l.length ≤ 1000) (hx : -2 ≤ gi t n) (hb : gi t n ≤ 127) :
    loopF (p_kitty_Corners.s1 t n) big (l, 0) = some (l ++ (List.range (knp (gi t n))).map fun p => kC (n, p)) := by
  have hp : ∀ p : Nat, p < knp (gi t n) ↔ (p : Int) < -gi t n := by
    intro p; unfold knp
    split
    · omega
    · split <;> omega
  have h2 := knp_le (gi t n)
  refine loop_to (fun p : Nat => (l ++ (List.range p).map fun q => kC (n, q), (p : Int))) (n := knp (gi t n)) (big_lt (by omega)) (by simp) (fun p h => ?_) ?_
  · have := (hp p).1 h
    have h3 : (List.map (fun q => kC (n, q)) (List.range p)).length = p := by simp
    simp (disch := omega) only [p_kitty_Corners.s1, h3, ck_pos, ckK64, ckK8, ifd_pos, ifd_neg, ifn_pos, ifn_neg, dec_t, dec_f, Option.bind_some, Int.toNat_natCast, List.length_append, List.length_cons, List.length_nil, Nat.zero_add, if_true, if_false, Bool.false_eq_true, Bool.not_true, Bool.not_false, Bool.true_and, Bool.false_and, Bool.and_true, Bool.and_false, Bool.true_or, Bool.false_or, Bool.or_true, Bool.or_false]
    try simp (disch := omega) only [ck_pos, ckK64, ckK8, ifd_pos, ifd_neg, ifn_pos, ifn_neg, dec_t, dec_f, Option.bind_some, Int.toNat_natCast, List.length_append, List.length_cons, List.length_nil, Nat.zero_add, if_true, if_false, Bool.false_eq_true, Bool.not_true, Bool.not_false, Bool.true_and, Bool.false_and, Bool.and_true, Bool.and_false, Bool.true_or, Bool.false_or, Bool.or_true, Bool.or_false]
    simp [List.range_succ, kC]
  · have : ¬((knp (gi t n) : Nat) : Int) < -gi t n := fun h => absurd ((hp _).2 h) (by omega)
    simp (disch := omega) only [p_kitty_Corners.s1, ck_pos, ckK64, ckK8, ifd_pos, ifd_neg, ifn_pos, ifn_neg, dec_t, dec_f, Option.bind_some, Int.toNat_natCast, List.length_append, List.length_cons, List.length_nil, Nat.zero_add, if_true, if_false, Bool.false_eq_true, Bool.not_true, Bool.not_false, Bool.true_and, Bool.false_and, Bool.and_true, Bool.and_false, Bool.true_or, Bool.false_or, Bool.or_true, Bool.or_false]
    try simp (disch := omega) only [ck_pos, ckK64, ckK8, ifd_pos, ifd_neg, ifn_pos, ifn_neg, dec_t, dec_f, Option.bind_some, Int.toNat_natCast, List.length_append, List.length_cons, List.length_nil, Nat.zero_add, if_true, if_false, Bool.false_eq_true, Bool.not_true, Bool.not_false, Bool.true_and, Bool.false_and, Bool.and_true, Bool.and_false, Bool.true_or, Bool.false_or, Bool.or_true, Bool.or_false]
theorem kCorners {t : List Int} (ht : Tn t) : p_kitty_Corners t = some ((kcos t).map kC) := by
  unfold p_kitty_Corners
  have hlen := ht.l
  rw [bd_eq (x := (kcos t).map kC)]
  refine loop_to (fun n : Nat => ((kcosTo t n).map kC, (n : Int))) (n := t.length) (big_lt (by omega)) (by simp [kcosTo]) (fun n h => ?_) ?_
  · have hb := ht.b n
    have hc := kcosTo_length t n
    by_cases hx : gi t n < -2
    · simp (disch := omega) only [p_kitty_Corners.s0, ck_pos, ckK64, ckK8, ifd_pos, ifd_neg, ifn_pos, ifn_neg, dec_t, dec_f, Option.bind_some, Int.toNat_natCast, List.length_append, List.length_cons, List.length_nil, Nat.zero_add, if_true, if_false, Bool.false_eq_true, Bool.not_true, Bool.not_false, Bool.true_and, Bool.false_and, Bool.and_true, Bool.and_false, Bool.true_or, Bool.false_or, Bool.or_true, Bool.or_false]
      try simp (disch := omega) only [ck_pos, ckK64, ckK8, ifd_pos, ifd_neg, ifn_pos, ifn_neg, dec_t, dec_f, Option.bind_some, Int.toNat_natCast, List.length_append, List.length_cons, List.length_nil, Nat.zero_add, if_true, if_false, Bool.false_eq_true, Bool.not_true, Bool.not_false, Bool.true_and, Bool.false_and, Bool.and_true, Bool.and_false, Bool.true_or, Bool.false_or, Bool.or_true, Bool.or_false]
      have : knp (gi t n) = 0 := by unfold knp; rw [if_neg (by omega), if_neg (by omega)]
      simp [kcosTo, this]
    · have := kCorners_in (t := t) (n := n) (l := (kcosTo t n).map kC) (by simp; omega) (by omega) hb.2
      simp (disch := omega) only [p_kitty_Corners.s0, this, ck_pos, ckK64, ckK8, ifd_pos, ifd_neg, ifn_pos, ifn_neg, dec_t, dec_f, Option.bind_some, Int.toNat_natCast, List.length_append, List.length_cons, List.length_nil, Nat.zero_add, if_true, if_false, Bool.false_eq_true, Bool.not_true, Bool.not_false, Bool.true_and, Bool.false_and, Bool.and_true, Bool.and_false, Bool.true_or, Bool.false_or, Bool.or_true, Bool.or_false]
      try simp (disch := omega) only [ck_pos, ckK64, ckK8, ifd_pos, ifd_neg, ifn_pos, ifn_neg, dec_t, dec_f, Option.bind_some, Int.toNat_natCast, List.length_append, List.length_cons, List.length_nil, Nat.zero_add, if_true, if_false, Bool.false_eq_true, Bool.not_true, Bool.not_false, Bool.true_and, Bool.false_and, Bool.and_true, Bool.and_false, Bool.true_or, Bool.false_or, Bool.or_true, Bool.or_false]
      simp [kcosTo, Function.comp_def]
  · simp (disch := omega) only [p_kitty_Corners.s0, ck_pos, ckK64, ckK8, ifd_pos, ifd_neg, ifn_pos, ifn_neg, dec_t, dec_f, Option.bind_some, Int.toNat_natCast, List.length_append, List.length_cons, List.length_nil, Nat.zero_add, if_true, if_false, Bool.false_eq_true, Bool.not_true, Bool.not_false, Bool.true_and, Bool.false_and, Bool.and_true, Bool.and_false, Bool.true_or, Bool.false_or, Bool.or_true, Bool.or_false]
    try simp (disch := omega) only [ck_pos, ckK64, ckK8, ifd_pos, ifd_neg, ifn_pos, ifn_neg, dec_t, dec_f, Option.bind_some, Int.toNat_natCast, List.length_append, List.length_cons, List.length_nil, Nat.zero_add, if_true, if_false, Bool.false_eq_true, Bool.not_true, Bool.not_false, Bool.true_and, Bool.false_and, Bool.and_true, Bool.and_false, Bool.true_or, Bool.false_or, Bool.or_true, Bool.or_false]
    rfl

/-! right -/
def gdB (t : List Int) : Bool := (List.range t.length).all fun i => !(decide (gi t i < -2) || decide (1 < gi t i))
theorem gdB_iff {t : List Int} : gdB t = true ↔ Gd t := by
  unfold gdB Gd
  rw [List.all_eq_true]
  constructor
  · intro h i
    by_cases hi : i < t.length
    · have := h i (by simpa using hi)
      simp at this
      omega
    · rw [gi_default (by omega)]; exact ⟨by decide, by decide⟩
  · intro h i hi
    have := h i
    simp
    omega
theorem kRight {t : List Int} (ht : t.length ≤ 1000) : p_kitty_right t = some (gdB t) := by
  unfold p_kitty_right p_slices_ContainsFunc_int p_slices_IndexFunc_int
  rw [loop_find (n := t.length) (P := fun i => decide (gi t i < -2) || decide (1 < gi t i)) (f := fun i => (i : Int)) (big_lt (by omega))]
  · cases h : (List.range t.length).find? (fun i => decide (gi t i < -2) || decide (1 < gi t i)) with
    | none =>
      rw [List.find?_range_eq_none] at h
      have : gdB t = true := by
        rw [gdB, List.all_eq_true]
        intro i hi
        exact h i (by simpa using hi)
      simp [this]
    | some j =>
      rw [List.find?_range_eq_some] at h
      have : gdB t = false := by
        rw [← Bool.not_eq_true, gdB_iff]
        intro hg
        have h1 := h.1
        have := hg j
        simp at h1
        omega
      simp [this]
  · intro i hi
    simp (disch := omega) only [p_slices_IndexFunc_int.s0, p_kitty_right_1, ck_pos, ckK64, ckK8, ifd_pos, ifd_neg, ifn_pos, ifn_neg, dec_t, dec_f, Option.bind_some, Int.toNat_natCast, List.length_append, List.length_cons, List.length_nil, Nat.zero_add, if_true, if_false, Bool.false_eq_true, Bool.not_true, Bool.not_false, Bool.true_and, Bool.false_and, Bool.and_true, Bool.and_false, Bool.true_or, Bool.false_or, Bool.or_true, Bool.or_false]
    try simp (disch := omega) only [ck_pos, ckK64, ckK8, ifd_pos, ifd_neg, ifn_pos, ifn_neg, dec_t, dec_f, Option.bind_some, Int.toNat_natCast, List.length_append, List.length_cons, List.length_nil, Nat.zero_add, if_true, if_false, Bool.false_eq_true, Bool.not_true, Bool.not_false, Bool.true_and, Bool.false_and, Bool.and_true, Bool.and_false, Bool.true_or, Bool.false_or, Bool.or_true, Bool.or_false]
    split <;> simp_all
  · simp (disch := omega) only [p_slices_IndexFunc_int.s0, ck_pos, ckK64, ckK8, ifd_pos, ifd_neg, ifn_pos, ifn_neg, dec_t, dec_f, Option.bind_some, Int.toNat_natCast, List.length_append, List.length_cons, List.length_nil, Nat.zero_add, if_true, if_false, Bool.false_eq_true, Bool.not_true, Bool.not_false, Bool.true_and, Bool.false_and, Bool.and_true, Bool.and_false, Bool.true_or, Bool.false_or, Bool.or_true, Bool.or_false]
    try simp (disch := omega) only [ck_pos, ckK64, ckK8, ifd_pos, ifd_neg, ifn_pos, ifn_neg, dec_t, dec_f, Option.bind_some, Int.toNat_natCast, List.length_append, List.length_cons, List.length_nil, Nat.zero_add, if_true, if_false, Bool.false_eq_true, Bool.not_true, Bool.not_false, Bool.true_and, Bool.false_and, Bool.and_true, Bool.and_false, Bool.true_or, Bool.false_or, Bool.or_true, Bool.or_false]

/-! contains -/
theorem kContains {l : List T_kitty_Corner} {c : T_kitty_Corner} (hl : l.length ≤ 1000) : p_slices_Contains_kitty_Corner l c = some (decide (c ∈ l)) := by
  unfold p_slices_Contains_kitty_Corner p_slices_Index_kitty_Corner
  rw [loop_find (n := l.length) (P := fun i => decide (c = gi l i)) (f := fun i => (i : Int)) (big_lt (by omega))]
  · cases h : (List.range l.length).find? (fun i => decide (c = gi l i)) with
    | none =>
      rw [List.find?_range_eq_none] at h
      have : c ∉ l := by
        intro hc
        obtain ⟨i, hi, rfl⟩ := List.getElem_of_mem hc
        have := h i hi
        simp [gi_eq hi] at this
      simp [this]
    | some j =>
      rw [List.find?_range_eq_some] at h
      have h1 : c = gi l j := by simpa using h.1
      have : c ∈ l := by rw [h1]; exact gi_mem (by simpa using h.2.1)
      simp [this]
  · intro i hi
    simp (disch := omega) only [p_slices_Index_kitty_Corner.s0, ck_pos, ckK64, ckK8, ifd_pos, ifd_neg, ifn_pos, ifn_neg, dec_t, dec_f, Option.bind_some, Int.toNat_natCast, List.length_append, List.length_cons, List.length_nil, Nat.zero_add, if_true, if_false, Bool.false_eq_true, Bool.not_true, Bool.not_false, Bool.true_and, Bool.false_and, Bool.and_true, Bool.and_false, Bool.true_or, Bool.false_or, Bool.or_true, Bool.or_false]
    try simp (disch := omega) only [ck_pos, ckK64, ckK8, ifd_pos, ifd_neg, ifn_pos, ifn_neg, dec_t, dec_f, Option.bind_some, Int.toNat_natCast, List.length_append, List.length_cons, List.length_nil, Nat.zero_add, if_true, if_false, Bool.false_eq_true, Bool.not_true, Bool.not_false, Bool.true_and, Bool.false_and, Bool.and_true, Bool.and_false, Bool.true_or, Bool.false_or, Bool.or_true, Bool.or_false]
    split <;> simp_all
  · simp (disch := omega) only [p_slices_Index_kitty_Corner.s0, ck_pos, ckK64, ckK8, ifd_pos, ifd_neg, ifn_pos, ifn_neg, dec_t, dec_f, Option.bind_some, Int.toNat_natCast, List.length_append, List.length_cons, List.length_nil, Nat.zero_add, if_true, if_false, Bool.false_eq_true, Bool.not_true, Bool.not_false, Bool.true_and, Bool.false_and, Bool.and_true, Bool.and_false, Bool.true_or, Bool.false_or, Bool.or_true, Bool.or_false]
    try simp (disch := omega) only [ck_pos, ckK64, ckK8, ifd_pos, ifd_neg, ifn_pos, ifn_neg, dec_t, dec_f, Option.bind_some, Int.toNat_natCast, List.length_append, List.length_cons, List.length_nil, Nat.zero_add, if_true, if_false, Bool.false_eq_true, Bool.not_true, Bool.not_false, Bool.true_and, Bool.false_and, Bool.and_true, Bool.and_false, Bool.true_or, Bool.false_or, Bool.or_true, Bool.or_false]

/-! sums -/
theorem psum_b {t : List Int} (hg : Gd t) : ∀ n : Nat, -2 * (n : Int) ≤ psum t n ∧ psum t n ≤ n
  | 0 => by simp [psum]
  | n + 1 => by
    have := psum_b hg n
    have := hg n
    simp only [psum]
    omega
def psL (t : List Int) (j : Nat) : List Int := (List.range (t.length + 1)).map fun q => if q ≤ j then psum t q else 0
theorem psL_length {t : List Int} {j : Nat} : (psL t j).length = t.length + 1 := by simp [psL]
theorem gi_psL {t : List Int} {j q : Nat} (hq : q < t.length + 1) : gi (psL t j) q = if q ≤ j then psum t q else 0 := by
  rw [gi_eq (by rw [psL_length]; exact hq)]
  simp [psL]
theorem psL_zero {t : List Int} : List.replicate (t.length + 1) 0 = psL t 0 := by
  refine List.ext_getElem (by rw [psL_length]; simp) fun q h1 h2 => ?_
  simp [psL]
  intro h3
  subst h3
  rfl
theorem psL_succ {t : List Int} {j : Nat} : (psL t j).set (j + 1) (psum t j + gi t j) = psL t (j + 1) := by
  refine List.ext_getElem (by simp [psL]) fun q h1 h2 => ?_
  rw [List.getElem_set]
  simp only [psL, List.getElem_map, List.getElem_range]
  by_cases hq : j + 1 = q
  · subst hq
    rw [if_pos rfl, if_pos (Nat.le_refl _)]
    rfl
  · rw [if_neg hq]
    by_cases hq2 : q ≤ j
    · rw [if_pos hq2, if_pos (by omega)]
    · rw [if_neg hq2, if_neg (by omega)]
theorem kSums {t : List Int} (ht : t.length ≤ 1000) (hg : Gd t) : p_kitty_sums t = some (psL t t.length) := by
  unfold p_kitty_sums
  have e : ((t.length : Int) + 1).toNat = t.length + 1 := by omega
  rw [e, psL_zero]
  simp (disch := omega) only [ck_pos, ckK64, ckK8, ifd_pos, ifd_neg, ifn_pos, ifn_neg, dec_t, dec_f, Option.bind_some, Int.toNat_natCast, List.length_append, List.length_cons, List.length_nil, Nat.zero_add, if_true, if_false, Bool.false_eq_true, Bool.not_true, Bool.not_false, Bool.true_and, Bool.false_and, Bool.and_true, Bool.and_false, Bool.true_or, Bool.false_or, Bool.or_true, Bool.or_false]
  rw [bd_eq (x := psL t t.length)]
  refine loop_to (fun n : Nat => (psL t n, (n : Int))) (n := t.length) (big_lt (by omega)) (by simp [kcosTo]) (fun n h => ?_) ?_
  · have h1 := psL_length (t := t) (j := n)
    have h2 := psum_b hg n
    have h3 := hg n
    have h4 : gi (psL t n) n = psum t n := by rw [gi_psL (by omega), if_pos (Nat.le_refl _)]
    have h5 : ((n : Int) + 1).toNat = n + 1 := by omega
    simp (disch := omega) only [p_kitty_sums.s0, h4, h5, psL_succ, ck_pos, ckK64, ckK8, ifd_pos, ifd_neg, ifn_pos, ifn_neg, dec_t, dec_f, Option.bind_some, Int.toNat_natCast, List.length_append, List.length_cons, List.length_nil, Nat.zero_add, if_true, if_false, Bool.false_eq_true, Bool.not_true, Bool.not_false, Bool.true_and, Bool.false_and, Bool.and_true, Bool.and_false, Bool.true_or, Bool.false_or, Bool.or_true, Bool.or_false]
    try simp (disch := omega) only [ck_pos, ckK64, ckK8, ifd_pos, ifd_neg, ifn_pos, ifn_neg, dec_t, dec_f, Option.bind_some, Int.toNat_natCast, List.length_append, List.length_cons, List.length_nil, Nat.zero_add, if_true, if_false, Bool.false_eq_true, Bool.not_true, Bool.not_false, Bool.true_and, Bool.false_and, Bool.and_true, Bool.and_false, Bool.true_or, Bool.false_or, Bool.or_true, Bool.or_false]
    rfl
  · simp (disch := omega) only [p_kitty_sums.s0, ck_pos, ckK64, ckK8, ifd_pos, ifd_neg, ifn_pos, ifn_neg, dec_t, dec_f, Option.bind_some, Int.toNat_natCast, List.length_append, List.length_cons, List.length_nil, Nat.zero_add, if_true, if_false, Bool.false_eq_true, Bool.not_true, Bool.not_false, Bool.true_and, Bool.false_and, Bool.and_true, Bool.and_false, Bool.true_or, Bool.false_or, Bool.or_true, Bool.or_false]
    try simp (disch := omega) only [ck_pos, ckK64, ckK8, ifd_pos, ifd_neg, ifn_pos, ifn_neg, dec_t, dec_f, Option.bind_some, Int.toNat_natCast, List.length_append, List.length_cons, List.length_nil, Nat.zero_add, if_true, if_false, Bool.false_eq_true, Bool.not_true, Bool.not_false, Bool.true_and, Bool.false_and, Bool.and_true, Bool.and_false, Bool.true_or, Bool.false_or, Bool.or_true, Bool.or_false]

/-- From a corner to another one. -/
def rotP (t : List Int) (a b : Nat × Nat) : Int := psum t b.1 - b.2 - (psum t a.1 - a.2) + if b.1 < a.1 ∨ (b.1 = a.1 ∧ b.2 < a.2) then psum t t.length else 0
theorem kRotS {t : List Int} (ht : t.length ≤ 1000) (hg : Gd t) {a b : Nat × Nat} (ha : a.1 ≤ t.length) (hb : b.1 ≤ t.length) (ha2 : a.2 ≤ 10) (hb2 : b.2 ≤ 10) : p_kitty_rot (psL t t.length) (kC a) (kC b) = some (rotP t a b) := by
  unfold p_kitty_rot rotP kC
  have h1 := psL_length (t := t) (j := t.length)
  have g1 : gi (psL t t.length) a.1 = psum t a.1 := by rw [gi_psL (by omega), if_pos ha]
  have g2 : gi (psL t t.length) b.1 = psum t b.1 := by rw [gi_psL (by omega), if_pos hb]
  have g3 : gi (psL t t.length) t.length = psum t t.length := by rw [gi_psL (by omega), if_pos (Nat.le_refl _)]
  have b1 := psum_b hg a.1
  have b2 := psum_b hg b.1
  have b3 := psum_b hg t.length
  have e : (((psL t t.length).length : Int) - 1).toNat = t.length := by rw [h1]; omega
  by_cases c : b.1 < a.1 ∨ (b.1 = a.1 ∧ b.2 < a.2)
  · have hc : (decide ((b.1 : Int) < a.1) || (decide ((b.1 : Int) = a.1) && decide ((b.2 : Int) < a.2))) = true := by
      simp
      omega
    simp (disch := omega) only [g1, g2, g3, hc, e, ck_pos, ckK64, ckK8, ifd_pos, ifd_neg, ifn_pos, ifn_neg, dec_t, dec_f, Option.bind_some, Int.toNat_natCast, List.length_append, List.length_cons, List.length_nil, Nat.zero_add, if_true, if_false, Bool.false_eq_true, Bool.not_true, Bool.not_false, Bool.true_and, Bool.false_and, Bool.and_true, Bool.and_false, Bool.true_or, Bool.false_or, Bool.or_true, Bool.or_false]
    try simp (disch := omega) only [ck_pos, ckK64, ckK8, ifd_pos, ifd_neg, ifn_pos, ifn_neg, dec_t, dec_f, Option.bind_some, Int.toNat_natCast, List.length_append, List.length_cons, List.length_nil, Nat.zero_add, if_true, if_false, Bool.false_eq_true, Bool.not_true, Bool.not_false, Bool.true_and, Bool.false_and, Bool.and_true, Bool.and_false, Bool.true_or, Bool.false_or, Bool.or_true, Bool.or_false]
    rw [if_pos c]
  · have hc : (decide ((b.1 : Int) < a.1) || (decide ((b.1 : Int) = a.1) && decide ((b.2 : Int) < a.2))) = false := by
      simp
      omega
    simp (disch := omega) only [g1, g2, g3, e, ck_pos, ckK64, ckK8, ifd_pos, ifd_neg, ifn_pos, ifn_neg, dec_t, dec_f, Option.bind_some, Int.toNat_natCast, List.length_append, List.length_cons, List.length_nil, Nat.zero_add, if_true, if_false, Bool.false_eq_true, Bool.not_true, Bool.not_false, Bool.true_and, Bool.false_and, Bool.and_true, Bool.and_false, Bool.true_or, Bool.false_or, Bool.or_true, Bool.or_false]
    try simp (disch := omega) only [ck_pos, ckK64, ckK8, ifd_pos, ifd_neg, ifn_pos, ifn_neg, dec_t, dec_f, Option.bind_some, Int.toNat_natCast, List.length_append, List.length_cons, List.length_nil, Nat.zero_add, if_true, if_false, Bool.false_eq_true, Bool.not_true, Bool.not_false, Bool.true_and, Bool.false_and, Bool.and_true, Bool.and_false, Bool.true_or, Bool.false_or, Bool.or_true, Bool.or_false]
    rw [if_neg (by simp; omega), if_neg c, Int.add_zero]
theorem kRot {t : List Int} (ht : Tn t) (hg : Gd t) {a b : Nat × Nat} (ha : a ∈ kcos t) (hb : b ∈ kcos t) : p_kitty_Rot t (kC a) (kC b) = some (rotP t a b, 0) := by
  unfold p_kitty_Rot
  have hl := ht.l
  have hlen := kcosTo_length t t.length
  have hcl : ((kcos t).map kC).length ≤ 1000 := by unfold kcos; simp; omega
  have m : ∀ {c}, c ∈ kcos t → kC c ∈ (kcos t).map kC := fun h => List.mem_map.2 ⟨_, h, rfl⟩
  have a1 := kcos_mem.1 ha
  have b1 := kcos_mem.1 hb
  have n1 := knp_le (gi t a.1)
  have n2 := knp_le (gi t b.1)
  rw [kCorners ht]
  simp (disch := omega) only [kRight (t := t) (by omega), kContains hcl, m ha, m hb, gdB_iff.2 hg, kSums (t := t) (by omega) hg, kRotS (t := t) (by omega) hg (a := a) (b := b) (by omega) (by omega) (by omega) (by omega), decide_true, ck_pos, ckK64, ckK8, ifd_pos, ifd_neg, ifn_pos, ifn_neg, dec_t, dec_f, Option.bind_some, Int.toNat_natCast, List.length_append, List.length_cons, List.length_nil, Nat.zero_add, if_true, if_false, Bool.false_eq_true, Bool.not_true, Bool.not_false, Bool.true_and, Bool.false_and, Bool.and_true, Bool.and_false, Bool.true_or, Bool.false_or, Bool.or_true, Bool.or_false]
  try simp (disch := omega) only [ck_pos, ckK64, ckK8, ifd_pos, ifd_neg, ifn_pos, ifn_neg, dec_t, dec_f, Option.bind_some, Int.toNat_natCast, List.length_append, List.length_cons, List.length_nil, Nat.zero_add, if_true, if_false, Bool.false_eq_true, Bool.not_true, Bool.not_false, Bool.true_and, Bool.false_and, Bool.and_true, Bool.and_false, Bool.true_or, Bool.false_or, Bool.or_true, Bool.or_false]
end Mu
