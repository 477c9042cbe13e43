/- Layer 15: kitty tells. -/
import Derived.Test.YteedifiifkghkaaMuK15d
set_option linter.unusedVariables false
set_option linter.unusedSimpArgs false
namespace Mu
theorem tellsOne {a b : T_kitty_Corner} {x x1 : List Int} {j : Nat} (hj : j < 2) (ht : Tn (gi [x, x1] j)) : p_muntinlaw15_KittyTells.s0 a b x x1 j = some (.inl ((j + 1 : Nat) : Int)) := by
  generalize e : gi [x, x1] j = t at ht
  have hl := ht.l
  have hcl : (kcos t).length ≤ 80 := by have := kcosTo_length t t.length; unfold kcos; omega
  have hml : ((kcos t).map kC).length = (kcos t).length := by simp
  have hmr : ((kcos t).map rC).length = (kcos t).length := by simp
  have gr : ∀ {i}, i < (kcos t).length → gi ((kcos t).map rC) i = rC (gi (kcos t) i) := by
    intro i hi
    rw [gi_eq (by simpa using hi), gi_eq hi]; simp
  have hg0 : gdB t = true ∨ gdB t = false := by cases gdB t <;> simp
  have in2 : ∀ i k : Nat, i < (kcos t).length → k < (kcos t).length → p_muntinlaw15_KittyTells.s2 x x1 j ((kcos t).map kC) ((kcos t).map rC) (gdB t) i k = some (.inl ((k : Int) + 1)) := by
    intro i k hi hk
    unfold p_muntinlaw15_KittyTells.s2
    rw [Int.toNat_natCast, e]
    rcases hg0 with hg | hg
    · have e1 := kRot ht (gdB_iff.1 hg) (gi_mem hi) (gi_mem hk)
      have e2 := kR_Rot ht (gi_mem hi) (gi_mem hk)
      rw [hg]
      simp (disch := omega) only [hml, hmr, kcos_gi hi, kcos_gi hk, gr hi, gr hk, e1, e2, ck_pos, ckK64, ckK8, ifd_pos, ifd_neg, ifn_pos, ifn_neg, dec_t, dec_f, Option.bind_some, Int.toNat_natCast, List.length_append, List.length_cons, List.length_nil, Nat.zero_add, if_true, if_false, Bool.false_eq_true, Bool.not_true, Bool.not_false, Bool.true_and, Bool.false_and, Bool.and_true, Bool.and_false, Bool.true_or, Bool.false_or, Bool.or_true, Bool.or_false, decide_true, decide_false, Bool.not_eq_true, Bool.decide_eq_true, Int.reduceToNat]
      try simp (disch := omega) only [ck_pos, ckK64, ckK8, ifd_pos, ifd_neg, ifn_pos, ifn_neg, dec_t, dec_f, Option.bind_some, Int.toNat_natCast, List.length_append, List.length_cons, List.length_nil, Nat.zero_add, if_true, if_false, Bool.false_eq_true, Bool.not_true, Bool.not_false, Bool.true_and, Bool.false_and, Bool.and_true, Bool.and_false, Bool.true_or, Bool.false_or, Bool.or_true, Bool.or_false, decide_true, decide_false, Bool.not_eq_true, Bool.decide_eq_true, Int.reduceToNat]
    · have e1 := kRotBad ht (fun h => by rw [gdB_iff.2 h] at hg; cases hg) (kC (gi (kcos t) i)) (kC (gi (kcos t) k))
      rw [hg]
      simp (disch := omega) only [hml, hmr, kcos_gi hi, kcos_gi hk, gr hi, gr hk, e1, ck_pos, ckK64, ckK8, ifd_pos, ifd_neg, ifn_pos, ifn_neg, dec_t, dec_f, Option.bind_some, Int.toNat_natCast, List.length_append, List.length_cons, List.length_nil, Nat.zero_add, if_true, if_false, Bool.false_eq_true, Bool.not_true, Bool.not_false, Bool.true_and, Bool.false_and, Bool.and_true, Bool.and_false, Bool.true_or, Bool.false_or, Bool.or_true, Bool.or_false, decide_true, decide_false, Bool.not_eq_true, Bool.decide_eq_true, Int.reduceToNat]
      try simp (disch := omega) only [ck_pos, ckK64, ckK8, ifd_pos, ifd_neg, ifn_pos, ifn_neg, dec_t, dec_f, Option.bind_some, Int.toNat_natCast, List.length_append, List.length_cons, List.length_nil, Nat.zero_add, if_true, if_false, Bool.false_eq_true, Bool.not_true, Bool.not_false, Bool.true_and, Bool.false_and, Bool.and_true, Bool.and_false, Bool.true_or, Bool.false_or, Bool.or_true, Bool.or_false, decide_true, decide_false, Bool.not_eq_true, Bool.decide_eq_true, Int.reduceToNat]
  have l2 : ∀ i : Nat, i < (kcos t).length → loopF (p_muntinlaw15_KittyTells.s2 x x1 j ((kcos t).map kC) ((kcos t).map rC) (gdB t) i) big 0 = some (.inl ()) := by
    intro i hi
    refine loop_to (fun n : Nat => (n : Int)) (n := (kcos t).length) (big_lt (by omega)) rfl (fun k hk => in2 i k hi hk) ?_
    simp (disch := omega) only [p_muntinlaw15_KittyTells.s2, hml, ck_pos, ckK64, ckK8, ifd_pos, ifd_neg, ifn_pos, ifn_neg, dec_t, dec_f, Option.bind_some, Int.toNat_natCast, List.length_append, List.length_cons, List.length_nil, Nat.zero_add, if_true, if_false, Bool.false_eq_true, Bool.not_true, Bool.not_false, Bool.true_and, Bool.false_and, Bool.and_true, Bool.and_false, Bool.true_or, Bool.false_or, Bool.or_true, Bool.or_false, decide_true, decide_false, Bool.not_eq_true, Bool.decide_eq_true, Int.reduceToNat]
    try simp (disch := omega) only [ck_pos, ckK64, ckK8, ifd_pos, ifd_neg, ifn_pos, ifn_neg, dec_t, dec_f, Option.bind_some, Int.toNat_natCast, List.length_append, List.length_cons, List.length_nil, Nat.zero_add, if_true, if_false, Bool.false_eq_true, Bool.not_true, Bool.not_false, Bool.true_and, Bool.false_and, Bool.and_true, Bool.and_false, Bool.true_or, Bool.false_or, Bool.or_true, Bool.or_false, decide_true, decide_false, Bool.not_eq_true, Bool.decide_eq_true, Int.reduceToNat]
  have l1 : loopF (p_muntinlaw15_KittyTells.s1 x x1 j ((kcos t).map kC) ((kcos t).map rC) (gdB t)) big 0 = some (.inl ()) := by
    refine loop_to (fun n : Nat => (n : Int)) (n := (kcos t).length) (big_lt (by omega)) rfl (fun i hi => ?_) ?_
    · have e2 := l2 i hi
      have q1 : (kC (gi (kcos t) i)).At = (rC (gi (kcos t) i)).At := rfl
      have q2 : (kC (gi (kcos t) i)).Part = (rC (gi (kcos t) i)).Part := rfl
      simp (disch := omega) only [p_muntinlaw15_KittyTells.s1, hml, hmr, kcos_gi hi, gr hi, q1, q2, e2, ck_pos, ckK64, ckK8, ifd_pos, ifd_neg, ifn_pos, ifn_neg, dec_t, dec_f, Option.bind_some, Int.toNat_natCast, List.length_append, List.length_cons, List.length_nil, Nat.zero_add, if_true, if_false, Bool.false_eq_true, Bool.not_true, Bool.not_false, Bool.true_and, Bool.false_and, Bool.and_true, Bool.and_false, Bool.true_or, Bool.false_or, Bool.or_true, Bool.or_false, decide_true, decide_false, Bool.not_eq_true, Bool.decide_eq_true, Int.reduceToNat]
      try simp (disch := omega) only [ck_pos, ckK64, ckK8, ifd_pos, ifd_neg, ifn_pos, ifn_neg, dec_t, dec_f, Option.bind_some, Int.toNat_natCast, List.length_append, List.length_cons, List.length_nil, Nat.zero_add, if_true, if_false, Bool.false_eq_true, Bool.not_true, Bool.not_false, Bool.true_and, Bool.false_and, Bool.and_true, Bool.and_false, Bool.true_or, Bool.false_or, Bool.or_true, Bool.or_false, decide_true, decide_false, Bool.not_eq_true, Bool.decide_eq_true, Int.reduceToNat]
      rfl
    · simp (disch := omega) only [p_muntinlaw15_KittyTells.s1, hml, ck_pos, ckK64, ckK8, ifd_pos, ifd_neg, ifn_pos, ifn_neg, dec_t, dec_f, Option.bind_some, Int.toNat_natCast, List.length_append, List.length_cons, List.length_nil, Nat.zero_add, if_true, if_false, Bool.false_eq_true, Bool.not_true, Bool.not_false, Bool.true_and, Bool.false_and, Bool.and_true, Bool.and_false, Bool.true_or, Bool.false_or, Bool.or_true, Bool.or_false, decide_true, decide_false, Bool.not_eq_true, Bool.decide_eq_true, Int.reduceToNat]
      try simp (disch := omega) only [ck_pos, ckK64, ckK8, ifd_pos, ifd_neg, ifn_pos, ifn_neg, dec_t, dec_f, Option.bind_some, Int.toNat_natCast, List.length_append, List.length_cons, List.length_nil, Nat.zero_add, if_true, if_false, Bool.false_eq_true, Bool.not_true, Bool.not_false, Bool.true_and, Bool.false_and, Bool.and_true, Bool.and_false, Bool.true_or, Bool.false_or, Bool.or_true, Bool.or_false, decide_true, decide_false, Bool.not_eq_true, Bool.decide_eq_true, Int.reduceToNat]
  unfold p_muntinlaw15_KittyTells.s0
  have h2 : (([x, x1] : List (List Int)).length : Int) = 2 := rfl
  rw [h2, ifd_pos (show (j : Int) < 2 by omega), ck_pos (by omega), Int.toNat_natCast, e, kCorners ht, Option.bind_some, kR_Corners ht, Option.bind_some, hml, hmr, kR_good (by omega), Option.bind_some, l1]
  rw [if_neg (by simp)]
  dsimp only [Option.bind_some]
  have ok1 : ∀ α : Type, ∀ o : Option α, ck (in64 ((j : Int) + 1)) o = o := fun _ o => ckI64 (by omega)
  rw [ok1]
  rcases hg0 with hg | hg
  · have hg' := gdB_iff.1 hg
    obtain ⟨P, Q, ok, e1, e2⟩ : ∃ P Q ok, p_kitty_Pair t = some (kC P, kC Q, ok) ∧ p_muntinref15_Pair t = some (rC P, rC Q, ok) := by
      rw [kPair ht hg', kPairR ht]
      cases pairP t with
      | none => exact ⟨(0, 0), (0, 0), false, rfl, rfl⟩
      | some p => exact ⟨_, _, _, rfl, rfl⟩
    have rr : ∃ z y, p_kitty_Rot t a b = some (z, y) ∧ (y = 0 ∨ y = 2) ∧ (y = 0 ↔ (a ∈ (kcos t).map kC ∧ b ∈ (kcos t).map kC)) := by
      by_cases c : a ∈ (kcos t).map kC ∧ b ∈ (kcos t).map kC
      · obtain ⟨a', ha, rfl⟩ := List.mem_map.1 c.1
        obtain ⟨b', hb, rfl⟩ := List.mem_map.1 c.2
        exact ⟨_, _, kRot ht hg' ha hb, .inl rfl, by simp only [c]; simp⟩
      · exact ⟨_, _, kRotOut ht hg' c, .inr rfl, by simp only [c]; simp⟩
    obtain ⟨z, y, e3, hy, hy2⟩ := rr
    have i1 : p_muntinref15_In t ⟨a.At, a.Part⟩ = some (decide (a ∈ (kcos t).map kC)) := by rw [kR_In ht]; exact congrArg some (decide_eq_decide.2 mem_kr)
    have i2 : p_muntinref15_In t ⟨b.At, b.Part⟩ = some (decide (b ∈ (kcos t).map kC)) := by rw [kR_In ht]; exact congrArg some (decide_eq_decide.2 mem_kr)
    rw [e1, e2, e3, i1, i2, hg]
    have q1 : (kC P).At = (rC P).At := rfl
    have q2 : (kC P).Part = (rC P).Part := rfl
    have q3 : (kC Q).At = (rC Q).At := rfl
    have q4 : (kC Q).Part = (rC Q).Part := rfl
    dsimp only [Option.bind_some]
    by_cases ca : a ∈ (kcos t).map kC
    · by_cases cb : b ∈ (kcos t).map kC
      · have y0 : y = 0 := hy2.2 ⟨ca, cb⟩
        simp only [ca, cb, y0, q1, q2, q3, q4, decide_true, Bool.not_true, Bool.false_or, Option.bind_some, if_true, Bool.false_eq_true, if_false, Bool.false_and]
        rfl
      · have y0 : y = 2 := by rcases hy with h | h; exact absurd (hy2.1 h).2 cb; exact h
        simp only [ca, cb, y0, q1, q2, q3, q4, decide_true, decide_false, Bool.not_true, Bool.false_or, Option.bind_some, if_true, Bool.false_eq_true, if_false, Bool.false_and]
        rfl
    · have y0 : y = 2 := by rcases hy with h | h; exact absurd (hy2.1 h).1 ca; exact h
      have d1 : decide (a ∈ (kcos t).map kC) = false := decide_eq_false ca
      subst y0
      simp [d1, q1, q2, q3, q4]
  · have hg' : ¬ Gd t := fun h => by rw [gdB_iff.2 h] at hg; cases hg
    rw [kPairBad ht hg', kPairR ht, hg, kRotBad ht hg']
    cases pairP t <;> rfl
theorem KittyTells_pure (l : List Int) (a b : T_kitty_Corner) (h0 : l.length ≤ Go.maxLen) (h : ∀ y ∈ l, Ok_i8 y) (ha : Ok_T_kitty_Corner a) (hb : Ok_T_kitty_Corner b) : p_muntinlaw15_KittyTells l a b = some true := by
  unfold p_muntinlaw15_KittyTells
  rw [kTurns h, Option.bind_some, kTurns h, Option.bind_some]
  have t1 := turnsL_Tn (l := l) h false
  have t2 := turnsL_Tn (l := l) h true
  generalize turnsL l false = x at *
  generalize turnsL l true = x1 at *
  have : loopF (p_muntinlaw15_KittyTells.s0 a b x x1) big 0 = some (.inl ()) := by
    refine loop_to (fun n : Nat => (n : Int)) (n := 2) (big_lt (by omega)) rfl (fun j hj => tellsOne hj ?_) ?_
    · match j, hj with
      | 0, _ => exact t1
      | 1, _ => exact t2
    · rfl
  rw [this, Option.bind_some, kWakes]
  rfl
end Mu
