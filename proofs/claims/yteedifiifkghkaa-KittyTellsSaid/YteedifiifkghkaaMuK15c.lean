/- Layer 15: turns of 0, and where one begins. -/
import Derived.Test.YteedifiifkghkaaMuK15b
set_option linter.unusedVariables false
set_option linter.unusedSimpArgs false
namespace Mu

/-- Do corners look at one another? -/
def looks (t : List Int) : Prop := ∃ a ∈ kcos t, ∃ b ∈ kcos t, rotP t a b = 2

theorem rotP_b {t : List Int} (ht : Tn t) (hg : Gd t) {a b : Nat × Nat} (ha : a ∈ kcos t) (hb : b ∈ kcos t) : -1000 ≤ rotP t a b ∧ rotP t a b ≤ 1000 := by
  have := ht.l
  have a1 := kcos_mem.1 ha
  have b1 := kcos_mem.1 hb
  have := knp_le (gi t a.1)
  have := knp_le (gi t b.1)
  have := psum_b hg a.1
  have := psum_b hg b.1
  have := psum_b hg t.length
  unfold rotP
  split <;> omega
/-- The first pair. -/
def inP (t : List Int) (i : Nat) : Option Nat := (List.range (kcos t).length).find? fun k => decide (rotP t (gi (kcos t) i) (gi (kcos t) k) = 2)
def outP (t : List Int) : Option Nat := (List.range (kcos t).length).find? fun i => (inP t i).isSome
def pairP (t : List Int) : Option (Nat × Nat) := match outP t with | some i => (match inP t i with | some k => some (i, k) | none => none) | none => none
theorem pairP_looks {t : List Int} : (pairP t).isSome = true ↔ looks t := by
  unfold pairP looks
  constructor
  · intro h
    cases ho : outP t with
    | none => rw [ho] at h; cases h
    | some i =>
      rw [ho] at h
      cases hi : inP t i with
      | none => simp [hi] at h
      | some k =>
        unfold outP at ho
        unfold inP at hi
        rw [List.find?_range_eq_some] at ho hi
        have h1 : i < (kcos t).length := by simpa using ho.2.1
        have h2 : k < (kcos t).length := by simpa using hi.2.1
        exact ⟨_, gi_mem h1, _, gi_mem h2, by simpa using hi.1⟩
  · rintro ⟨a, ha, b, hb, h⟩
    obtain ⟨i, hi, rfl⟩ := List.getElem_of_mem ha
    obtain ⟨k, hk, rfl⟩ := List.getElem_of_mem hb
    have hin : (inP t i).isSome = true := by
      unfold inP
      rw [List.find?_isSome]
      exact ⟨k, by simpa using hk, by rw [gi_eq hi, gi_eq hk]; simpa using h⟩
    have hout : (outP t).isSome = true := by
      unfold outP
      rw [List.find?_isSome]
      exact ⟨i, by simpa using hi, hin⟩
    cases ho : outP t with
    | none => rw [ho] at hout; cases hout
    | some j =>
      have := ho
      unfold outP at this
      rw [List.find?_range_eq_some] at this
      have hj := this.1
      cases hj2 : inP t j with
      | none => rw [hj2] at hj; cases hj
      | some k => simp [hj2]
theorem kPair {t : List Int} (ht : Tn t) (hg : Gd t) : p_kitty_Pair t = some (match pairP t with | some (i, k) => (kC (gi (kcos t) i), kC (gi (kcos t) k), true) | none => (⟨0, 0⟩, ⟨0, 0⟩, false)) := by
  have hl := ht.l
  have hcl : (kcos t).length ≤ 80 := by have := kcosTo_length t t.length; unfold kcos; omega
  unfold p_kitty_Pair
  rw [kRight (by omega), gdB_iff.2 hg, Option.bind_some, kCorners ht, Option.bind_some, kSums (by omega) hg, Option.bind_some]
  have hml : ((kcos t).map kC).length = (kcos t).length := by simp
  have inner : ∀ i : Nat, i < (kcos t).length → loopF (p_kitty_Pair.s1 ((kcos t).map kC) (psL t t.length) i) big 0 = some (match inP t i with | some k => .inr (kC (gi (kcos t) k)) | none => .inl ()) := by
    intro i hi
    unfold inP
    refine loop_find (n := (kcos t).length) (P := fun k => decide (rotP t (gi (kcos t) i) (gi (kcos t) k) = 2)) (f := fun k => kC (gi (kcos t) k)) (big_lt (by omega)) (fun k hk => ?_) ?_
    · have a1 := kcos_mem.1 (gi_mem hi)
      have b1 := kcos_mem.1 (gi_mem hk)
      have n1 := knp_le (gi t (gi (kcos t) i).1)
      have n2 := knp_le (gi t (gi (kcos t) k).1)
      have e := kRotS (t := t) (by omega) hg (a := gi (kcos t) i) (b := gi (kcos t) k) (by omega) (by omega) (by omega) (by omega)
      by_cases c : rotP t (gi (kcos t) i) (gi (kcos t) k) = 2
      · have c' : decide (rotP t (gi (kcos t) i) (gi (kcos t) k) = 2) = true := by simpa using c
        rw [c', if_pos rfl]
        simp (disch := omega) only [p_kitty_Pair.s1, hml, kcos_gi hi, kcos_gi hk, e, c, ck_pos, ckK64, ckK8, ifd_pos, ifd_neg, ifn_pos, ifn_neg, dec_t, dec_f, Option.bind_some, Int.toNat_natCast, List.length_append, List.length_cons, List.length_nil, Nat.zero_add, if_true, if_false, Bool.false_eq_true, Bool.not_true, Bool.not_false, Bool.true_and, Bool.false_and, Bool.and_true, Bool.and_false, Bool.true_or, Bool.false_or, Bool.or_true, Bool.or_false]
        try simp (disch := omega) only [ck_pos, ckK64, ckK8, ifd_pos, ifd_neg, ifn_pos, ifn_neg, dec_t, dec_f, Option.bind_some, Int.toNat_natCast, List.length_append, List.length_cons, List.length_nil, Nat.zero_add, if_true, if_false, Bool.false_eq_true, Bool.not_true, Bool.not_false, Bool.true_and, Bool.false_and, Bool.and_true, Bool.and_false, Bool.true_or, Bool.false_or, Bool.or_true, Bool.or_false]
      · have c' : decide (rotP t (gi (kcos t) i) (gi (kcos t) k) = 2) = false := by simpa using c
        rw [c', if_neg (by decide)]
        simp (disch := omega) only [p_kitty_Pair.s1, hml, kcos_gi hi, kcos_gi hk, e, ck_pos, ckK64, ckK8, ifd_pos, ifd_neg, ifn_pos, ifn_neg, dec_t, dec_f, Option.bind_some, Int.toNat_natCast, List.length_append, List.length_cons, List.length_nil, Nat.zero_add, if_true, if_false, Bool.false_eq_true, Bool.not_true, Bool.not_false, Bool.true_and, Bool.false_and, Bool.and_true, Bool.and_false, Bool.true_or, Bool.false_or, Bool.or_true, Bool.or_false]
        try simp (disch := omega) only [ck_pos, ckK64, ckK8, ifd_pos, ifd_neg, ifn_pos, ifn_neg, dec_t, dec_f, Option.bind_some, Int.toNat_natCast, List.length_append, List.length_cons, List.length_nil, Nat.zero_add, if_true, if_false, Bool.false_eq_true, Bool.not_true, Bool.not_false, Bool.true_and, Bool.false_and, Bool.and_true, Bool.and_false, Bool.true_or, Bool.false_or, Bool.or_true, Bool.or_false]
    · simp (disch := omega) only [p_kitty_Pair.s1, hml, ck_pos, ckK64, ckK8, ifd_pos, ifd_neg, ifn_pos, ifn_neg, dec_t, dec_f, Option.bind_some, Int.toNat_natCast, List.length_append, List.length_cons, List.length_nil, Nat.zero_add, if_true, if_false, Bool.false_eq_true, Bool.not_true, Bool.not_false, Bool.true_and, Bool.false_and, Bool.and_true, Bool.and_false, Bool.true_or, Bool.false_or, Bool.or_true, Bool.or_false]
      try simp (disch := omega) only [ck_pos, ckK64, ckK8, ifd_pos, ifd_neg, ifn_pos, ifn_neg, dec_t, dec_f, Option.bind_some, Int.toNat_natCast, List.length_append, List.length_cons, List.length_nil, Nat.zero_add, if_true, if_false, Bool.false_eq_true, Bool.not_true, Bool.not_false, Bool.true_and, Bool.false_and, Bool.and_true, Bool.and_false, Bool.true_or, Bool.false_or, Bool.or_true, Bool.or_false]
  have outer : loopF (p_kitty_Pair.s0 ((kcos t).map kC) (psL t t.length)) big 0 = some (match outP t with | some i => .inr (kC (gi (kcos t) i), match inP t i with | some k => kC (gi (kcos t) k) | none => ⟨0, 0⟩) | none => .inl ()) := by
    unfold outP
    refine loop_find (n := (kcos t).length) (P := fun i => (inP t i).isSome) (f := fun i => (kC (gi (kcos t) i), match inP t i with | some k => kC (gi (kcos t) k) | none => ⟨0, 0⟩)) (big_lt (by omega)) (fun i hi => ?_) ?_
    · have e := inner i hi
      cases h : inP t i with
      | none =>
        rw [h] at e
        simp (disch := omega) only [p_kitty_Pair.s0, hml, e, ck_pos, ckK64, ckK8, ifd_pos, ifd_neg, ifn_pos, ifn_neg, dec_t, dec_f, Option.bind_some, Int.toNat_natCast, List.length_append, List.length_cons, List.length_nil, Nat.zero_add, if_true, if_false, Bool.false_eq_true, Bool.not_true, Bool.not_false, Bool.true_and, Bool.false_and, Bool.and_true, Bool.and_false, Bool.true_or, Bool.false_or, Bool.or_true, Bool.or_false]
        try simp (disch := omega) only [ck_pos, ckK64, ckK8, ifd_pos, ifd_neg, ifn_pos, ifn_neg, dec_t, dec_f, Option.bind_some, Int.toNat_natCast, List.length_append, List.length_cons, List.length_nil, Nat.zero_add, if_true, if_false, Bool.false_eq_true, Bool.not_true, Bool.not_false, Bool.true_and, Bool.false_and, Bool.and_true, Bool.and_false, Bool.true_or, Bool.false_or, Bool.or_true, Bool.or_false]
        rfl
      | some k =>
        rw [h] at e
        simp (disch := omega) only [p_kitty_Pair.s0, hml, e, kcos_gi hi, ck_pos, ckK64, ckK8, ifd_pos, ifd_neg, ifn_pos, ifn_neg, dec_t, dec_f, Option.bind_some, Int.toNat_natCast, List.length_append, List.length_cons, List.length_nil, Nat.zero_add, if_true, if_false, Bool.false_eq_true, Bool.not_true, Bool.not_false, Bool.true_and, Bool.false_and, Bool.and_true, Bool.and_false, Bool.true_or, Bool.false_or, Bool.or_true, Bool.or_false]
        try simp (disch := omega) only [ck_pos, ckK64, ckK8, ifd_pos, ifd_neg, ifn_pos, ifn_neg, dec_t, dec_f, Option.bind_some, Int.toNat_natCast, List.length_append, List.length_cons, List.length_nil, Nat.zero_add, if_true, if_false, Bool.false_eq_true, Bool.not_true, Bool.not_false, Bool.true_and, Bool.false_and, Bool.and_true, Bool.and_false, Bool.true_or, Bool.false_or, Bool.or_true, Bool.or_false]
        rfl
    · simp (disch := omega) only [p_kitty_Pair.s0, hml, ck_pos, ckK64, ckK8, ifd_pos, ifd_neg, ifn_pos, ifn_neg, dec_t, dec_f, Option.bind_some, Int.toNat_natCast, List.length_append, List.length_cons, List.length_nil, Nat.zero_add, if_true, if_false, Bool.false_eq_true, Bool.not_true, Bool.not_false, Bool.true_and, Bool.false_and, Bool.and_true, Bool.and_false, Bool.true_or, Bool.false_or, Bool.or_true, Bool.or_false]
      try simp (disch := omega) only [ck_pos, ckK64, ckK8, ifd_pos, ifd_neg, ifn_pos, ifn_neg, dec_t, dec_f, Option.bind_some, Int.toNat_natCast, List.length_append, List.length_cons, List.length_nil, Nat.zero_add, if_true, if_false, Bool.false_eq_true, Bool.not_true, Bool.not_false, Bool.true_and, Bool.false_and, Bool.and_true, Bool.and_false, Bool.true_or, Bool.false_or, Bool.or_true, Bool.or_false]
  have hnn : (!true) = false := rfl
  rw [outer]
  simp only [hnn, Bool.false_eq_true, if_false, Option.bind_some]
  unfold pairP
  cases ho : outP t with
  | none => rfl
  | some i =>
    have := ho
    unfold outP at this
    rw [List.find?_range_eq_some] at this
    cases hi : inP t i with
    | none => rw [hi] at this; exact absurd this.1 (by simp)
    | some k => simp [hi]

/-! A list and another one whose turns, but those of 0, stand elsewhere. -/
theorem psum_append {t u : List Int} : ∀ n, psum (t ++ u) (t.length + n) = psum t t.length + psum u n
  | 0 => by
    simp only [Nat.add_zero, psum, Int.add_zero]
    have : ∀ n, n ≤ t.length → psum (t ++ u) n = psum t n := by
      intro n
      induction n with
      | zero => intro _; rfl
      | succ n ih =>
        intro hn
        simp only [psum]
        rw [ih (by omega), gi_append_left (by omega)]
    exact this _ (Nat.le_refl _)
  | n + 1 => by
    show psum (t ++ u) (t.length + n) + gi (t ++ u) (t.length + n) = psum t t.length + (psum u n + gi u n)
    rw [psum_append n, gi_append_right]
    omega
theorem psum_left {t u : List Int} : ∀ n, n ≤ t.length → psum (t ++ u) n = psum t n
  | 0, _ => rfl
  | n + 1, h => by
    simp only [psum]
    rw [psum_left n (by omega), gi_append_left (by omega)]
theorem gi_append {α : Type} [Inhabited α] {l m : List α} {i : Nat} : gi (l ++ m) i = if i < l.length then gi l i else gi m (i - l.length) := by
  split
  · rw [gi_append_left (by assumption)]
  · rw [show i = l.length + (i - l.length) by omega, gi_append_right]
    congr 1
    omega
/-- The corners of one list go to those of the other, rotations stay. -/
theorem looks_of {t u : List Int} (f : Nat → Nat) (hf : ∀ a, a ∈ kcos t → (f a.1, a.2) ∈ kcos u) (hr : ∀ a b, a ∈ kcos t → b ∈ kcos t → rotP u (f a.1, a.2) (f b.1, b.2) = rotP t a b) (h : looks t) : looks u := by
  obtain ⟨a, ha, b, hb, h⟩ := h
  exact ⟨_, hf a ha, _, hf b hb, by rw [hr a b ha hb]; exact h⟩
theorem knp_zero : knp 0 = 0 := rfl

theorem looks_flat {t u : List Int} : looks (t ++ [0, 0] ++ u) ↔ looks (t ++ u) := by
  have g1 : ∀ i, gi (t ++ u) i = if i < t.length then gi t i else gi u (i - t.length) := fun i => gi_append
  have g2 : ∀ i, gi (t ++ [0, 0] ++ u) i = if i < t.length then gi t i else if i < t.length + 2 then 0 else gi u (i - t.length - 2) := by
    intro i
    rw [gi_append, gi_append]
    have e2 : (t ++ [0, 0]).length = t.length + 2 := by simp
    rw [e2]
    by_cases h1 : i < t.length
    · rw [if_pos (show i < t.length + 2 by omega), if_pos h1, if_pos h1]
    · by_cases h2 : i < t.length + 2
      · rw [if_pos h2, if_neg h1, if_neg h1, if_pos h2]
        have : i - t.length = 0 ∨ i - t.length = 1 := by omega
        rcases this with h | h <;> rw [h] <;> rfl
      · rw [if_neg h2, if_neg h1, if_neg h2]
        congr 1
  have p1 : ∀ n, n ≤ t.length → psum (t ++ [0, 0] ++ u) n = psum (t ++ u) n := by
    intro n hn
    rw [List.append_assoc, psum_left n hn, psum_left n hn]
  have p2 : ∀ n, psum (t ++ [0, 0] ++ u) (t.length + 2 + n) = psum (t ++ u) (t.length + n) := by
    intro n
    have := psum_append (t := t ++ [0, 0]) (u := u) n
    have e2 : (t ++ [0, 0]).length = t.length + 2 := by simp
    rw [e2] at this
    have h2 := psum_append (t := t) (u := [0, 0]) 2
    have h3 := psum_append (t := t) (u := u) n
    have h4 : psum [0, 0] 2 = 0 := by decide
    omega
  have hl : (t ++ [0, 0] ++ u).length = (t ++ u).length + 2 := by simp; omega
  have pl : psum (t ++ [0, 0] ++ u) (t ++ [0, 0] ++ u).length = psum (t ++ u) (t ++ u).length := by
    have h1 : (t ++ [0, 0] ++ u).length = t.length + 2 + u.length := by simp; omega
    have h2 : (t ++ u).length = t.length + u.length := by simp
    rw [h1, h2, p2]
  constructor
  · refine looks_of (fun i => if i < t.length then i else i - 2) (fun a ha => ?_) (fun a b ha hb => ?_)
    · rw [kcos_mem, g2] at ha
      rw [kcos_mem, g1]
      rw [hl] at ha
      dsimp only
      split at ha
      · rename_i h; rw [if_pos h, if_pos h]; exact ⟨by simp; omega, ha.2⟩
      · split at ha
        · simp [knp_zero] at ha
        · rename_i h1 h2
          rw [if_neg h1, if_neg (by omega), show a.1 - 2 - t.length = a.1 - t.length - 2 by omega]
          exact ⟨by omega, ha.2⟩
    · have key : ∀ a, a ∈ kcos (t ++ [0, 0] ++ u) → (a.1 < t.length ∨ t.length + 2 ≤ a.1) ∧ psum (t ++ u) (if a.1 < t.length then a.1 else a.1 - 2) = psum (t ++ [0, 0] ++ u) a.1 := by
        intro a ha
        rw [kcos_mem, g2] at ha
        by_cases h : a.1 < t.length
        · rw [if_pos h]; exact ⟨.inl h, (p1 _ (by omega)).symm⟩
        · rw [if_neg h] at ha
          by_cases h2 : a.1 < t.length + 2
          · rw [if_pos h2] at ha; simp [knp_zero] at ha
          · refine ⟨.inr (by omega), ?_⟩
            rw [if_neg h]
            have := p2 (a.1 - t.length - 2)
            rw [show t.length + 2 + (a.1 - t.length - 2) = a.1 by omega] at this
            rw [this]
            congr 1
            omega
      obtain ⟨ka, pa⟩ := key a ha
      obtain ⟨kb, pb⟩ := key b hb
      unfold rotP
      dsimp only
      rw [pa, pb, pl]
      congr 1
      have : ((if b.1 < t.length then b.1 else b.1 - 2) < (if a.1 < t.length then a.1 else a.1 - 2) ∨ ((if b.1 < t.length then b.1 else b.1 - 2) = (if a.1 < t.length then a.1 else a.1 - 2) ∧ b.2 < a.2)) ↔ (b.1 < a.1 ∨ (b.1 = a.1 ∧ b.2 < a.2)) := by
        split <;> split <;> omega
      simp only [this]
  · refine looks_of (fun i => if i < t.length then i else i + 2) (fun a ha => ?_) (fun a b ha hb => ?_)
    · rw [kcos_mem, g1] at ha
      rw [kcos_mem, g2, hl]
      dsimp only
      split at ha
      · rename_i h; rw [if_pos h, if_pos h]; exact ⟨by omega, ha.2⟩
      · rename_i h
        rw [if_neg h, if_neg (by omega), if_neg (by omega), show a.1 + 2 - t.length - 2 = a.1 - t.length by omega]
        exact ⟨by omega, ha.2⟩
    · have key : ∀ a : Nat × Nat, psum (t ++ [0, 0] ++ u) (if a.1 < t.length then a.1 else a.1 + 2) = psum (t ++ u) a.1 := by
        intro a
        by_cases h : a.1 < t.length
        · rw [if_pos h]; exact p1 _ (by omega)
        · rw [if_neg h]
          have := p2 (a.1 - t.length)
          rw [show t.length + 2 + (a.1 - t.length) = a.1 + 2 by omega, show t.length + (a.1 - t.length) = a.1 by omega] at this
          exact this
      unfold rotP
      dsimp only
      rw [key a, key b, pl]
      congr 1
      have : ((if b.1 < t.length then b.1 else b.1 + 2) < (if a.1 < t.length then a.1 else a.1 + 2) ∨ ((if b.1 < t.length then b.1 else b.1 + 2) = (if a.1 < t.length then a.1 else a.1 + 2) ∧ b.2 < a.2)) ↔ (b.1 < a.1 ∨ (b.1 = a.1 ∧ b.2 < a.2)) := by
        split <;> split <;> omega
      simp only [this]

theorem looks_round1 {t u : List Int} (h : looks (t ++ u)) : looks (u ++ t) := by
  have g1 : ∀ i, gi (t ++ u) i = if i < t.length then gi t i else gi u (i - t.length) := fun i => gi_append
  have g2 : ∀ i, gi (u ++ t) i = if i < u.length then gi u i else gi t (i - u.length) := fun i => gi_append
  have l1 : (t ++ u).length = t.length + u.length := by simp
  have l2 : (u ++ t).length = u.length + t.length := by simp
  have s1 : psum (t ++ u) (t ++ u).length = psum t t.length + psum u u.length := by rw [l1, psum_append]
  have s2 : psum (u ++ t) (u ++ t).length = psum u u.length + psum t t.length := by rw [l2, psum_append]
  refine looks_of (fun i => if i < t.length then u.length + i else i - t.length) (fun a ha => ?_) (fun a b ha hb => ?_) h
  · rw [kcos_mem, g1] at ha
    rw [kcos_mem, g2, l2]
    rw [l1] at ha
    dsimp only
    split at ha
    · rename_i h
      rw [if_pos h, if_neg (by omega), show u.length + a.1 - u.length = a.1 by omega]
      exact ⟨by omega, ha.2⟩
    · rename_i h
      rw [if_neg h, if_pos (by omega)]
      exact ⟨by omega, ha.2⟩
  · have key : ∀ a : Nat × Nat, a ∈ kcos (t ++ u) → a.1 < t.length + u.length ∧ psum (u ++ t) (if a.1 < t.length then u.length + a.1 else a.1 - t.length) = psum (t ++ u) a.1 + if a.1 < t.length then psum u u.length else - psum t t.length := by
      intro a ha
      have hlt := (kcos_mem.1 ha).1
      rw [l1] at hlt
      refine ⟨hlt, ?_⟩
      by_cases h : a.1 < t.length
      · rw [if_pos h, if_pos h, psum_append, psum_left _ (by omega)]; omega
      · rw [if_neg h, if_neg h, psum_left _ (by omega)]
        have := psum_append (t := t) (u := u) (a.1 - t.length)
        rw [show t.length + (a.1 - t.length) = a.1 by omega] at this
        rw [this]; omega
    obtain ⟨ka, pa⟩ := key a ha
    obtain ⟨kb, pb⟩ := key b hb
    unfold rotP
    dsimp only
    rw [pa, pb, s1, s2]
    by_cases ca : a.1 < t.length <;> by_cases cb : b.1 < t.length
    · simp only [ca, cb, if_true]
      by_cases c : b.1 < a.1 ∨ b.1 = a.1 ∧ b.2 < a.2
      · rw [if_pos c, if_pos (by omega)]; omega
      · rw [if_neg c, if_neg (by omega)]; omega
    · simp only [ca, cb, if_true, if_false]
      rw [if_pos (by omega), if_neg (by omega)]; omega
    · simp only [ca, cb, if_true, if_false]
      rw [if_neg (by omega), if_pos (by omega)]; omega
    · simp only [ca, cb, if_false]
      by_cases c : b.1 < a.1 ∨ b.1 = a.1 ∧ b.2 < a.2
      · rw [if_pos c, if_pos (by omega)]; omega
      · rw [if_neg c, if_neg (by omega)]; omega
theorem looks_round {t u : List Int} : looks (u ++ t) ↔ looks (t ++ u) := ⟨looks_round1, looks_round1⟩

/-! How many corners. -/
theorem kcosTo_left {t u : List Int} : ∀ n, n ≤ t.length → (kcosTo (t ++ u) n) = (kcosTo t n)
  | 0, _ => rfl
  | n + 1, h => by
    simp only [kcosTo]
    rw [kcosTo_left n (by omega), gi_append_left (by omega)]
theorem kcosTo_append {t u : List Int} : ∀ n, (kcosTo (t ++ u) (t.length + n)).length = (kcosTo t t.length).length + (kcosTo u n).length
  | 0 => by rw [Nat.add_zero, kcosTo_left _ (Nat.le_refl _)]; rfl
  | n + 1 => by
    have := kcosTo_append (t := t) (u := u) n
    have e : kcosTo (t ++ u) (t.length + n + 1) = kcosTo (t ++ u) (t.length + n) ++ (List.range (knp (gi (t ++ u) (t.length + n)))).map fun p => (t.length + n, p) := rfl
    have e2 : kcosTo u (n + 1) = kcosTo u n ++ (List.range (knp (gi u n))).map fun p => (n, p) := rfl
    rw [← Nat.add_assoc, e, e2, gi_append_right]
    simp only [List.length_append, List.length_map, List.length_range] at this ⊢
    omega
theorem kcos_len_append {t u : List Int} : (kcos (t ++ u)).length = (kcos t).length + (kcos u).length := by
  unfold kcos
  rw [List.length_append, kcosTo_append]
theorem gi_sub {t u : List Int} (h : ∀ x ∈ u, x ∈ t ∨ x = 0) (i : Nat) : (∃ j, gi u i = gi t j) ∨ gi u i = 0 := by
  by_cases hi : i < u.length
  · rcases h _ (gi_mem hi) with c | c
    · obtain ⟨j, hj, e⟩ := List.getElem_of_mem c
      exact .inl ⟨j, by rw [gi_eq hj, e]⟩
    · exact .inr c
  · exact .inr (gi_default (by omega))
theorem Tn_sub {t u : List Int} (ht : Tn t) (h : ∀ x ∈ u, x ∈ t ∨ x = 0) (hl : u.length ≤ 40) : Tn u := by
  refine ⟨hl, fun i => ?_⟩
  rcases gi_sub h i with ⟨j, e⟩ | e
  · rw [e]; exact ht.b j
  · rw [e]; omega
theorem Gd_sub {t u : List Int} (ht : Gd t) (h : ∀ x ∈ u, x ∈ t ∨ x = 0) : Gd u := by
  intro i
  rcases gi_sub h i with ⟨j, e⟩ | e
  · rw [e]; exact ht j
  · rw [e]; omega
theorem tmod_nat {a : Int} {n : Nat} (ha : 0 ≤ a) : ∃ k : Nat, a.tmod ((n : Int) + 1) = k ∧ k ≤ n := by
  refine ⟨(a.tmod ((n : Int) + 1)).toNat, ?_, ?_⟩
  · have := Int.tmod_nonneg ((n : Int) + 1) ha
    omega
  · have := Int.tmod_lt_of_pos a (show (0 : Int) < (n : Int) + 1 by omega)
    omega
theorem pair_ok {t : List Int} (ht : Tn t) (hg : Gd t) : ∃ a b, p_kitty_Pair t = some (a, b, (pairP t).isSome) := by
  rw [kPair ht hg]
  cases pairP t with
  | none => exact ⟨_, _, rfl⟩
  | some p => exact ⟨_, _, rfl⟩
theorem pair_eq {t u : List Int} (h : looks t ↔ looks u) : (pairP t).isSome = (pairP u).isSome := by
  rw [Bool.eq_iff_iff, pairP_looks, pairP_looks, h]
end Mu
