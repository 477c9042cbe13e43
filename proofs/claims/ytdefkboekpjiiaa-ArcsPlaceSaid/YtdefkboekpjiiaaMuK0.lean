/- The law, plainly: what is worked out. -/
import Derived.Test.YtdefkboekpjiiaaMuV
import Derived.Test.YtdefkboekpjiiaaMuDf
/- Layer 10: cells, made of places. -/
set_option linter.unusedVariables false
set_option linter.unusedSimpArgs false
set_option maxRecDepth 10000
namespace Mu

def nx (l : List T_api_Cell) (v d : Nat) : Int := ((gi l v).Next).get (d : Int)
def ow (l : List T_api_Cell) (v d : Nat) : Int := ((gi l v).Owner).get (d : Int)
theorem A4_get_set {α : Type} {x : A4 α} {i j : Nat} {v : α} (hi : i < 4) (hj : j < 4) : (x.set (i : Int) v).get (j : Int) = if j = i then v else x.get (j : Int) := by
  match i, j, hi, hj with
  | 0, 0, _, _ | 0, 1, _, _ | 0, 2, _, _ | 0, 3, _, _ | 1, 0, _, _ | 1, 1, _, _ | 1, 2, _, _ | 1, 3, _, _ | 2, 0, _, _ | 2, 1, _, _ | 2, 2, _, _ | 2, 3, _, _ | 3, 0, _, _ | 3, 1, _, _ | 3, 2, _, _ | 3, 3, _, _ => rfl
/-- A cell with no edges. -/
def noC : T_api_Cell := ⟨⟨-1, -1, -1, -1⟩, ⟨0, 0, 0, 0⟩⟩
theorem gi_map_range {α : Type} [Inhabited α] {n i : Nat} {f : Nat → α} (h : i < n) : gi ((List.range n).map f) i = f i := by
  rw [gi_eq (by simpa using h)]; simp
theorem list_ext {α : Type} [Inhabited α] {l m : List α} (h : l.length = m.length) (hg : ∀ i, i < l.length → gi l i = gi m i) : l = m := by
  apply List.ext_getElem h
  intro i h1 h2
  have := hg i h1
  rw [gi_eq h1, gi_eq h2] at this
  exact this

/-! New -/
theorem mNew {n : Nat} (hn : n ≤ 1000000000) : p_muntinref10_New n = some (List.replicate n noC) := by
  unfold p_muntinref10_New
  rw [ck_pos (by omega), Int.toNat_natCast, bd_eq (x := List.replicate n noC)]
  refine loop_to (fun i : Nat => (List.replicate i noC ++ List.replicate (n - i) ⟨⟨0, 0, 0, 0⟩, ⟨0, 0, 0, 0⟩⟩, (i : Int))) (n := n) (big_lt (by omega)) (by simp) (fun i hi => ?_) ?_
  · have e1 : List.replicate (n - i) (⟨⟨0, 0, 0, 0⟩, ⟨0, 0, 0, 0⟩⟩ : T_api_Cell) = ⟨⟨0, 0, 0, 0⟩, ⟨0, 0, 0, 0⟩⟩ :: List.replicate (n - (i + 1)) ⟨⟨0, 0, 0, 0⟩, ⟨0, 0, 0, 0⟩⟩ := by
      rw [show n - i = n - (i + 1) + 1 by omega, List.replicate_succ]
    have e2 : List.replicate (i + 1) noC = List.replicate i noC ++ [noC] := by rw [List.replicate_succ']
    have inner : loopF (p_muntinref10_New.s1 i) big (List.replicate i noC ++ List.replicate (n - i) ⟨⟨0, 0, 0, 0⟩, ⟨0, 0, 0, 0⟩⟩, 0) = some (List.replicate (i + 1) noC ++ List.replicate (n - (i + 1)) ⟨⟨0, 0, 0, 0⟩, ⟨0, 0, 0, 0⟩⟩) := by
      rw [e1, e2]
      generalize List.replicate (n - (i + 1)) (⟨⟨0, 0, 0, 0⟩, ⟨0, 0, 0, 0⟩⟩ : T_api_Cell) = r
      refine loop_to (fun k : Nat => (List.replicate i noC ++ (⟨⟨if 0 < k then -1 else 0, if 1 < k then -1 else 0, if 2 < k then -1 else 0, if 3 < k then -1 else 0⟩, ⟨0, 0, 0, 0⟩⟩ : T_api_Cell) :: r, (k : Int))) (n := 4) (big_lt (by omega)) rfl (fun k hk => ?_) ?_
      · have hlen : (List.replicate i noC).length = i := by simp
        have g : ∀ c : T_api_Cell, gi (List.replicate i noC ++ c :: r) i = c := by
          intro c
          have := gi_append_right (l := List.replicate i noC) (m := c :: r) (i := 0)
          rw [hlen, Nat.add_zero] at this
          rw [this]; rfl
        have st : ∀ c d : T_api_Cell, (List.replicate i noC ++ c :: r).set i d = List.replicate i noC ++ d :: r := by
          intro c d
          rw [List.set_append_right _ _ (by simp)]
          simp
        simp only [p_muntinref10_New.s1]
        rw [ifd_pos (by omega), ck_pos (by simp; omega), ck_pos (by omega), ck_pos (by omega), Int.toNat_natCast, g, st]
        match k, hk with
        | 0, _ | 1, _ | 2, _ | 3, _ => rfl
      · simp only [p_muntinref10_New.s1]
        rw [ifd_neg (by omega)]
        simp [noC]
    simp only [p_muntinref10_New.s0]
    rw [ifd_pos (by omega), inner, Option.bind_some, ck_pos (by omega)]
    rfl
  · simp only [p_muntinref10_New.s0]
    rw [ifd_neg (by omega)]
    simp

/-! The nearest -/
def cand (at_ : List T_api_Point) (i d k : Nat) : Prop := k < at_.length ∧ if d = 0 then (gi at_ k).Y = (gi at_ i).Y ∧ (gi at_ i).X < (gi at_ k).X else (gi at_ k).X = (gi at_ i).X ∧ (gi at_ i).Y < (gi at_ k).Y
def closer (at_ : List T_api_Point) (d j k : Nat) : Prop := if d = 0 then (gi at_ j).X ≤ (gi at_ k).X else (gi at_ j).Y ≤ (gi at_ k).Y
/-- The nearest of the first n. -/
def NearTo (at_ : List T_api_Point) (i d n : Nat) (w : Int) : Prop := (w = -1 ∧ ∀ k, k < n → ¬ cand at_ i d k) ∨ ∃ j : Nat, w = j ∧ j < n ∧ cand at_ i d j ∧ ∀ k, k < n → cand at_ i d k → closer at_ d j k
instance {at_ i d k} : Decidable (cand at_ i d k) := by unfold cand; infer_instance
instance {at_ d j k} : Decidable (closer at_ d j k) := by unfold closer; infer_instance
theorem mNear_step {at_ : List T_api_Point} {i d n : Nat} (hl : at_.length ≤ 1000) (hi : i < at_.length) (hd : d < 2) (hn : n < at_.length) {w : Int} (hw : NearTo at_ i d n w) : ∃ w', NearTo at_ i d (n + 1) w' ∧ p_muntinref10_Nearest.s0 at_ i d (w, n) = some (.inl (w', (n : Int) + 1)) := by
  have hlow : ¬ cand at_ i d n → NearTo at_ i d (n + 1) w := by
    intro hc
    rcases hw with ⟨rfl, h⟩ | ⟨j, rfl, h1, h2, h3⟩
    · refine .inl ⟨rfl, fun k hk => ?_⟩
      rcases Nat.lt_succ_iff_lt_or_eq.1 hk with h' | rfl
      · exact h k h'
      · exact hc
    · refine .inr ⟨j, rfl, by omega, h2, fun k hk hk2 => ?_⟩
      rcases Nat.lt_succ_iff_lt_or_eq.1 hk with h' | rfl
      · exact h3 k h' hk2
      · exact absurd hk2 hc
  have hnew : w = -1 → cand at_ i d n → NearTo at_ i d (n + 1) n := by
    intro hw1 hc
    rcases hw with ⟨_, h⟩ | ⟨j, h0, _⟩
    · refine .inr ⟨n, rfl, by omega, hc, fun k hk hk2 => ?_⟩
      rcases Nat.lt_succ_iff_lt_or_eq.1 hk with h' | rfl
      · exact absurd hk2 (h k h')
      · unfold closer; split <;> omega
    · omega
  have hkeep : ∀ j : Nat, w = j → closer at_ d j n → NearTo at_ i d (n + 1) w := by
    intro j hj hc
    rcases hw with ⟨h0, _⟩ | ⟨j', h0, h1, h2, h3⟩
    · omega
    · have : j = j' := by omega
      subst this
      refine .inr ⟨j, h0, by omega, h2, fun k hk hk2 => ?_⟩
      rcases Nat.lt_succ_iff_lt_or_eq.1 hk with h' | rfl
      · exact h3 k h' hk2
      · exact hc
  have hturn : ∀ j : Nat, w = j → ¬ closer at_ d j n → cand at_ i d n → NearTo at_ i d (n + 1) n := by
    intro j hj hc hcand
    rcases hw with ⟨h0, _⟩ | ⟨j', h0, h1, h2, h3⟩
    · omega
    · have : j = j' := by omega
      subst this
      refine .inr ⟨n, rfl, by omega, hcand, fun k hk hk2 => ?_⟩
      rcases Nat.lt_succ_iff_lt_or_eq.1 hk with h' | rfl
      · have h4 := h3 k h' hk2
        unfold closer at h4 hc ⊢
        by_cases z : d = 0
        · rw [if_pos z] at *; omega
        · rw [if_neg z] at *; omega
      · unfold closer; split <;> omega
  have hwc : w = -1 ∨ ∃ j : Nat, w = j ∧ j < n := by
    rcases hw with ⟨h, _⟩ | ⟨j, h, h2, _⟩
    · exact .inl h
    · exact .inr ⟨j, h, h2⟩
  have hd' : d = 0 ∨ d = 1 := by omega
  rcases hd' with rfl | rfl
  · have z : ((0 : Nat) : Int) = 0 := rfl
    by_cases hY : (gi at_ n).Y = (gi at_ i).Y
    · by_cases hX : (gi at_ i).X < (gi at_ n).X
      · have hc : cand at_ i 0 n := ⟨hn, by rw [if_pos rfl]; exact ⟨hY, hX⟩⟩
        rcases hwc with rfl | ⟨j, rfl, hj⟩
        · refine ⟨n, hnew rfl hc, ?_⟩
          simp (disch := omega) only [p_muntinref10_Nearest.s0, z, hY, ck_pos, ckK64, ckK8, ifd_pos, ifd_neg, ifn_pos, ifn_neg, dec_t, dec_f, Option.bind_some, Int.toNat_natCast, List.length_append, List.length_cons, List.length_nil, Nat.zero_add, if_true, if_false, Bool.false_eq_true, Bool.not_true, Bool.not_false, Bool.true_and, Bool.false_and, Bool.and_true, Bool.and_false, Bool.true_or, Bool.false_or, Bool.or_true, Bool.or_false, decide_true, decide_false, Bool.not_eq_true, Bool.decide_eq_true, Int.reduceToNat]
          try simp (disch := omega) only [ck_pos, ckK64, ckK8, ifd_pos, ifd_neg, ifn_pos, ifn_neg, dec_t, dec_f, Option.bind_some, Int.toNat_natCast, List.length_append, List.length_cons, List.length_nil, Nat.zero_add, if_true, if_false, Bool.false_eq_true, Bool.not_true, Bool.not_false, Bool.true_and, Bool.false_and, Bool.and_true, Bool.and_false, Bool.true_or, Bool.false_or, Bool.or_true, Bool.or_false, decide_true, decide_false, Bool.not_eq_true, Bool.decide_eq_true, Int.reduceToNat]
        · by_cases hcl : closer at_ 0 j n
          · refine ⟨j, hkeep j rfl hcl, ?_⟩
            have hcl' : (gi at_ j).X ≤ (gi at_ n).X := by simpa [closer] using hcl
            simp (disch := omega) only [p_muntinref10_Nearest.s0, z, hY, ck_pos, ckK64, ckK8, ifd_pos, ifd_neg, ifn_pos, ifn_neg, dec_t, dec_f, Option.bind_some, Int.toNat_natCast, List.length_append, List.length_cons, List.length_nil, Nat.zero_add, if_true, if_false, Bool.false_eq_true, Bool.not_true, Bool.not_false, Bool.true_and, Bool.false_and, Bool.and_true, Bool.and_false, Bool.true_or, Bool.false_or, Bool.or_true, Bool.or_false, decide_true, decide_false, Bool.not_eq_true, Bool.decide_eq_true, Int.reduceToNat]
            try simp (disch := omega) only [ck_pos, ckK64, ckK8, ifd_pos, ifd_neg, ifn_pos, ifn_neg, dec_t, dec_f, Option.bind_some, Int.toNat_natCast, List.length_append, List.length_cons, List.length_nil, Nat.zero_add, if_true, if_false, Bool.false_eq_true, Bool.not_true, Bool.not_false, Bool.true_and, Bool.false_and, Bool.and_true, Bool.and_false, Bool.true_or, Bool.false_or, Bool.or_true, Bool.or_false, decide_true, decide_false, Bool.not_eq_true, Bool.decide_eq_true, Int.reduceToNat]
          · refine ⟨n, hturn j rfl hcl hc, ?_⟩
            have hcl' : ¬ (gi at_ j).X ≤ (gi at_ n).X := by simpa [closer] using hcl
            simp (disch := omega) only [p_muntinref10_Nearest.s0, z, hY, ck_pos, ckK64, ckK8, ifd_pos, ifd_neg, ifn_pos, ifn_neg, dec_t, dec_f, Option.bind_some, Int.toNat_natCast, List.length_append, List.length_cons, List.length_nil, Nat.zero_add, if_true, if_false, Bool.false_eq_true, Bool.not_true, Bool.not_false, Bool.true_and, Bool.false_and, Bool.and_true, Bool.and_false, Bool.true_or, Bool.false_or, Bool.or_true, Bool.or_false, decide_true, decide_false, Bool.not_eq_true, Bool.decide_eq_true, Int.reduceToNat]
            try simp (disch := omega) only [ck_pos, ckK64, ckK8, ifd_pos, ifd_neg, ifn_pos, ifn_neg, dec_t, dec_f, Option.bind_some, Int.toNat_natCast, List.length_append, List.length_cons, List.length_nil, Nat.zero_add, if_true, if_false, Bool.false_eq_true, Bool.not_true, Bool.not_false, Bool.true_and, Bool.false_and, Bool.and_true, Bool.and_false, Bool.true_or, Bool.false_or, Bool.or_true, Bool.or_false, decide_true, decide_false, Bool.not_eq_true, Bool.decide_eq_true, Int.reduceToNat]
      · refine ⟨w, hlow (fun hc => hX (by have := hc.2; rw [if_pos rfl] at this; exact this.2)), ?_⟩
        simp (disch := omega) only [p_muntinref10_Nearest.s0, z, hY, ck_pos, ckK64, ckK8, ifd_pos, ifd_neg, ifn_pos, ifn_neg, dec_t, dec_f, Option.bind_some, Int.toNat_natCast, List.length_append, List.length_cons, List.length_nil, Nat.zero_add, if_true, if_false, Bool.false_eq_true, Bool.not_true, Bool.not_false, Bool.true_and, Bool.false_and, Bool.and_true, Bool.and_false, Bool.true_or, Bool.false_or, Bool.or_true, Bool.or_false, decide_true, decide_false, Bool.not_eq_true, Bool.decide_eq_true, Int.reduceToNat]
        try simp (disch := omega) only [ck_pos, ckK64, ckK8, ifd_pos, ifd_neg, ifn_pos, ifn_neg, dec_t, dec_f, Option.bind_some, Int.toNat_natCast, List.length_append, List.length_cons, List.length_nil, Nat.zero_add, if_true, if_false, Bool.false_eq_true, Bool.not_true, Bool.not_false, Bool.true_and, Bool.false_and, Bool.and_true, Bool.and_false, Bool.true_or, Bool.false_or, Bool.or_true, Bool.or_false, decide_true, decide_false, Bool.not_eq_true, Bool.decide_eq_true, Int.reduceToNat]
    · refine ⟨w, hlow (fun hc => hY (by have := hc.2; rw [if_pos rfl] at this; exact this.1)), ?_⟩
      simp (disch := omega) only [p_muntinref10_Nearest.s0, z, hY, ck_pos, ckK64, ckK8, ifd_pos, ifd_neg, ifn_pos, ifn_neg, dec_t, dec_f, Option.bind_some, Int.toNat_natCast, List.length_append, List.length_cons, List.length_nil, Nat.zero_add, if_true, if_false, Bool.false_eq_true, Bool.not_true, Bool.not_false, Bool.true_and, Bool.false_and, Bool.and_true, Bool.and_false, Bool.true_or, Bool.false_or, Bool.or_true, Bool.or_false, decide_true, decide_false, Bool.not_eq_true, Bool.decide_eq_true, Int.reduceToNat]
      try simp (disch := omega) only [ck_pos, ckK64, ckK8, ifd_pos, ifd_neg, ifn_pos, ifn_neg, dec_t, dec_f, Option.bind_some, Int.toNat_natCast, List.length_append, List.length_cons, List.length_nil, Nat.zero_add, if_true, if_false, Bool.false_eq_true, Bool.not_true, Bool.not_false, Bool.true_and, Bool.false_and, Bool.and_true, Bool.and_false, Bool.true_or, Bool.false_or, Bool.or_true, Bool.or_false, decide_true, decide_false, Bool.not_eq_true, Bool.decide_eq_true, Int.reduceToNat]
  · have z : ((1 : Nat) : Int) = 1 := rfl
    by_cases hY : (gi at_ n).X = (gi at_ i).X
    · by_cases hX : (gi at_ i).Y < (gi at_ n).Y
      · have hc : cand at_ i 1 n := ⟨hn, by rw [if_neg (by decide)]; exact ⟨hY, hX⟩⟩
        rcases hwc with rfl | ⟨j, rfl, hj⟩
        · refine ⟨n, hnew rfl hc, ?_⟩
          simp (disch := omega) only [p_muntinref10_Nearest.s0, z, hY, ck_pos, ckK64, ckK8, ifd_pos, ifd_neg, ifn_pos, ifn_neg, dec_t, dec_f, Option.bind_some, Int.toNat_natCast, List.length_append, List.length_cons, List.length_nil, Nat.zero_add, if_true, if_false, Bool.false_eq_true, Bool.not_true, Bool.not_false, Bool.true_and, Bool.false_and, Bool.and_true, Bool.and_false, Bool.true_or, Bool.false_or, Bool.or_true, Bool.or_false, decide_true, decide_false, Bool.not_eq_true, Bool.decide_eq_true, Int.reduceToNat]
          try simp (disch := omega) only [ck_pos, ckK64, ckK8, ifd_pos, ifd_neg, ifn_pos, ifn_neg, dec_t, dec_f, Option.bind_some, Int.toNat_natCast, List.length_append, List.length_cons, List.length_nil, Nat.zero_add, if_true, if_false, Bool.false_eq_true, Bool.not_true, Bool.not_false, Bool.true_and, Bool.false_and, Bool.and_true, Bool.and_false, Bool.true_or, Bool.false_or, Bool.or_true, Bool.or_false, decide_true, decide_false, Bool.not_eq_true, Bool.decide_eq_true, Int.reduceToNat]
        · by_cases hcl : closer at_ 1 j n
          · refine ⟨j, hkeep j rfl hcl, ?_⟩
            have hcl' : (gi at_ j).Y ≤ (gi at_ n).Y := by simpa [closer] using hcl
            simp (disch := omega) only [p_muntinref10_Nearest.s0, z, hY, ck_pos, ckK64, ckK8, ifd_pos, ifd_neg, ifn_pos, ifn_neg, dec_t, dec_f, Option.bind_some, Int.toNat_natCast, List.length_append, List.length_cons, List.length_nil, Nat.zero_add, if_true, if_false, Bool.false_eq_true, Bool.not_true, Bool.not_false, Bool.true_and, Bool.false_and, Bool.and_true, Bool.and_false, Bool.true_or, Bool.false_or, Bool.or_true, Bool.or_false, decide_true, decide_false, Bool.not_eq_true, Bool.decide_eq_true, Int.reduceToNat]
            try simp (disch := omega) only [ck_pos, ckK64, ckK8, ifd_pos, ifd_neg, ifn_pos, ifn_neg, dec_t, dec_f, Option.bind_some, Int.toNat_natCast, List.length_append, List.length_cons, List.length_nil, Nat.zero_add, if_true, if_false, Bool.false_eq_true, Bool.not_true, Bool.not_false, Bool.true_and, Bool.false_and, Bool.and_true, Bool.and_false, Bool.true_or, Bool.false_or, Bool.or_true, Bool.or_false, decide_true, decide_false, Bool.not_eq_true, Bool.decide_eq_true, Int.reduceToNat]
          · refine ⟨n, hturn j rfl hcl hc, ?_⟩
            have hcl' : ¬ (gi at_ j).Y ≤ (gi at_ n).Y := by simpa [closer] using hcl
            simp (disch := omega) only [p_muntinref10_Nearest.s0, z, hY, ck_pos, ckK64, ckK8, ifd_pos, ifd_neg, ifn_pos, ifn_neg, dec_t, dec_f, Option.bind_some, Int.toNat_natCast, List.length_append, List.length_cons, List.length_nil, Nat.zero_add, if_true, if_false, Bool.false_eq_true, Bool.not_true, Bool.not_false, Bool.true_and, Bool.false_and, Bool.and_true, Bool.and_false, Bool.true_or, Bool.false_or, Bool.or_true, Bool.or_false, decide_true, decide_false, Bool.not_eq_true, Bool.decide_eq_true, Int.reduceToNat]
            try simp (disch := omega) only [ck_pos, ckK64, ckK8, ifd_pos, ifd_neg, ifn_pos, ifn_neg, dec_t, dec_f, Option.bind_some, Int.toNat_natCast, List.length_append, List.length_cons, List.length_nil, Nat.zero_add, if_true, if_false, Bool.false_eq_true, Bool.not_true, Bool.not_false, Bool.true_and, Bool.false_and, Bool.and_true, Bool.and_false, Bool.true_or, Bool.false_or, Bool.or_true, Bool.or_false, decide_true, decide_false, Bool.not_eq_true, Bool.decide_eq_true, Int.reduceToNat]
      · refine ⟨w, hlow (fun hc => hX (by have := hc.2; rw [if_neg (by decide)] at this; exact this.2)), ?_⟩
        simp (disch := omega) only [p_muntinref10_Nearest.s0, z, hY, ck_pos, ckK64, ckK8, ifd_pos, ifd_neg, ifn_pos, ifn_neg, dec_t, dec_f, Option.bind_some, Int.toNat_natCast, List.length_append, List.length_cons, List.length_nil, Nat.zero_add, if_true, if_false, Bool.false_eq_true, Bool.not_true, Bool.not_false, Bool.true_and, Bool.false_and, Bool.and_true, Bool.and_false, Bool.true_or, Bool.false_or, Bool.or_true, Bool.or_false, decide_true, decide_false, Bool.not_eq_true, Bool.decide_eq_true, Int.reduceToNat]
        try simp (disch := omega) only [ck_pos, ckK64, ckK8, ifd_pos, ifd_neg, ifn_pos, ifn_neg, dec_t, dec_f, Option.bind_some, Int.toNat_natCast, List.length_append, List.length_cons, List.length_nil, Nat.zero_add, if_true, if_false, Bool.false_eq_true, Bool.not_true, Bool.not_false, Bool.true_and, Bool.false_and, Bool.and_true, Bool.and_false, Bool.true_or, Bool.false_or, Bool.or_true, Bool.or_false, decide_true, decide_false, Bool.not_eq_true, Bool.decide_eq_true, Int.reduceToNat]
    · refine ⟨w, hlow (fun hc => hY (by have := hc.2; rw [if_neg (by decide)] at this; exact this.1)), ?_⟩
      simp (disch := omega) only [p_muntinref10_Nearest.s0, z, hY, ck_pos, ckK64, ckK8, ifd_pos, ifd_neg, ifn_pos, ifn_neg, dec_t, dec_f, Option.bind_some, Int.toNat_natCast, List.length_append, List.length_cons, List.length_nil, Nat.zero_add, if_true, if_false, Bool.false_eq_true, Bool.not_true, Bool.not_false, Bool.true_and, Bool.false_and, Bool.and_true, Bool.and_false, Bool.true_or, Bool.false_or, Bool.or_true, Bool.or_false, decide_true, decide_false, Bool.not_eq_true, Bool.decide_eq_true, Int.reduceToNat]
      try simp (disch := omega) only [ck_pos, ckK64, ckK8, ifd_pos, ifd_neg, ifn_pos, ifn_neg, dec_t, dec_f, Option.bind_some, Int.toNat_natCast, List.length_append, List.length_cons, List.length_nil, Nat.zero_add, if_true, if_false, Bool.false_eq_true, Bool.not_true, Bool.not_false, Bool.true_and, Bool.false_and, Bool.and_true, Bool.and_false, Bool.true_or, Bool.false_or, Bool.or_true, Bool.or_false, decide_true, decide_false, Bool.not_eq_true, Bool.decide_eq_true, Int.reduceToNat]
/-- A loop that keeps something. -/
theorem loop_inv {σ ρ : Type} {step : σ → Option (σ ⊕ ρ)} {n : Nat} (I : Nat → σ → Prop) {s0 : σ} {R : ρ → Prop} (hn : n < big) (h0 : I 0 s0) (hs : ∀ i s, i < n → I i s → ∃ s', step s = some (.inl s') ∧ I (i + 1) s') (he : ∀ s, I n s → ∃ r, step s = some (.inr r) ∧ R r) : ∃ r, loopF step big s0 = some r ∧ R r := by
  have key : ∀ k i s, i + k = n → I i s → ∃ r, loopF step (k + 1) s = some r ∧ R r := by
    intro k
    induction k with
    | zero =>
      intro i s hi hI
      obtain rfl : i = n := by omega
      obtain ⟨r, hr, hR⟩ := he s hI
      exact ⟨r, by simp only [loopF, hr], hR⟩
    | succ k ih =>
      intro i s hi hI
      obtain ⟨s', hs', hI'⟩ := hs i s (by omega) hI
      obtain ⟨r, hr, hR⟩ := ih (i + 1) s' (by omega) hI'
      exact ⟨r, by rw [loopF, hs']; exact hr, hR⟩
  obtain ⟨r, hr, hR⟩ := key n 0 s0 (by omega) h0
  exact ⟨r, loopF_le hr (by unfold big at *; omega), hR⟩
theorem mNear {at_ : List T_api_Point} {i d : Nat} (hl : at_.length ≤ 1000) (hi : i < at_.length) (hd : d < 2) : ∃ w, p_muntinref10_Nearest at_ i d = some w ∧ NearTo at_ i d at_.length w := by
  obtain ⟨r, hr, hR⟩ := loop_inv (step := p_muntinref10_Nearest.s0 at_ i d) (n := at_.length) (I := fun n (s : Int × Int) => s.2 = n ∧ NearTo at_ i d n s.1) (s0 := ((-1 : Int), (0 : Int))) (R := NearTo at_ i d at_.length) (big_lt (by omega)) ⟨rfl, .inl ⟨rfl, fun k hk => by omega⟩⟩ (fun n (s : Int × Int) hn hs => by
    obtain ⟨w, m⟩ := s
    obtain ⟨rfl, hw⟩ := hs
    obtain ⟨w', h1, h2⟩ := mNear_step hl hi hd hn hw
    exact ⟨_, h2, rfl, h1⟩) (fun (s : Int × Int) hs => by
    obtain ⟨w, m⟩ := s
    obtain ⟨rfl, hw⟩ := hs
    exact ⟨w, by simp only [p_muntinref10_Nearest.s0]; rw [ifd_neg (by omega)], hw⟩)
  exact ⟨r, by unfold p_muntinref10_Nearest; rw [hr]; rfl, hR⟩
end Mu
/- Layer 10: crossed, with, make. -/
set_option linter.unusedVariables false
set_option linter.unusedSimpArgs false
set_option maxRecDepth 10000
namespace Mu

theorem ckI64 {α : Type} {x : Int} {o : Option α} (h : -9223372036854775808 ≤ x ∧ x ≤ 9223372036854775807) : ck (in64 x) o = o := ck_pos h
/-- Does the edge from a in direction d cross the line from i to w? -/
def crossE (at_ : List T_api_Point) (l : List T_api_Cell) (i w a d : Nat) : Bool :=
  let p := gi at_ a
  let q := gi at_ (nx l a d).toNat
  let s := gi at_ i
  let t := gi at_ w
  decide (0 ≤ nx l a d) && ((decide (p.Y = q.Y) && decide (s.X = t.X) && decide (p.X < s.X) && decide (s.X < q.X) && decide (s.Y < p.Y) && decide (p.Y < t.Y)) || (decide (p.X = q.X) && decide (s.Y = t.Y) && decide (s.X < p.X) && decide (p.X < t.X) && decide (p.Y < s.Y) && decide (s.Y < q.Y)))
theorem and_if {a : Bool} {b : Bool} : (if a = true then some b else some false) = some (a && b) := by cases a <;> rfl
theorem mCross1 {at_ : List T_api_Point} {l : List T_api_Cell} {i w a d : Nat} (hl : at_.length = l.length) (hi : i < l.length) (hw : w < l.length) (ha : a < l.length) (hd : d < 2) (hn : nx l a d < l.length) : p_muntinref10_Crossed.s1 at_ l i w a d = some (if crossE at_ l i w a d = true then .inr (.inr ()) else .inl ((d : Int) + 1)) := by
  unfold p_muntinref10_Crossed.s1
  rw [ifd_pos (by omega), ck_pos (by omega), ck_pos (by omega), Int.toNat_natCast]
  have e : ((gi l a).Next).get (d : Int) = nx l a d := rfl
  rw [e]
  unfold crossE
  by_cases h0 : nx l a d < 0
  · rw [ifd_pos h0, ckI64 (by omega), dec_f (show ¬ 0 ≤ nx l a d by omega)]
    simp
  · rw [ifd_neg h0, ck_pos (by omega), ck_pos (by omega), dec_t (show 0 ≤ nx l a d by omega)]
    have k1 : ∀ (α : Type) (o : Option α), ck ((0 : Int) ≤ (i : Int) ∧ (i : Int) < (at_.length : Int)) o = o := fun _ _ => ck_pos (by omega)
    have k2 : ∀ (α : Type) (o : Option α), ck ((0 : Int) ≤ (w : Int) ∧ (w : Int) < (at_.length : Int)) o = o := fun _ _ => ck_pos (by omega)
    have k3 : ∀ (α : Type) (o : Option α), ck (in64 ((d : Int) + 1)) o = o := fun _ _ => ckI64 (by omega)
    simp only [k1, k2, k3, Int.toNat_natCast, Option.bind_some, and_if, Bool.true_and]
    generalize (decide ((gi at_ a).Y = (gi at_ (nx l a d).toNat).Y) && decide ((gi at_ i).X = (gi at_ w).X) && decide ((gi at_ a).X < (gi at_ i).X) && decide ((gi at_ i).X < (gi at_ (nx l a d).toNat).X) && decide ((gi at_ i).Y < (gi at_ a).Y) && decide ((gi at_ a).Y < (gi at_ w).Y)) = A
    generalize (decide ((gi at_ a).X = (gi at_ (nx l a d).toNat).X) && decide ((gi at_ i).Y = (gi at_ w).Y) && decide ((gi at_ i).X < (gi at_ a).X) && decide ((gi at_ a).X < (gi at_ w).X) && decide ((gi at_ a).Y < (gi at_ i).Y) && decide ((gi at_ i).Y < (gi at_ (nx l a d).toNat).Y)) = B
    cases A <;> cases B <;> rfl
def crossA (at_ : List T_api_Point) (l : List T_api_Cell) (i w a : Nat) : Bool := crossE at_ l i w a 0 || crossE at_ l i w a 1
def crossP (at_ : List T_api_Point) (l : List T_api_Cell) (i w : Nat) : Bool := (List.range l.length).any fun a => crossA at_ l i w a
theorem mCrossA {at_ : List T_api_Point} {l : List T_api_Cell} {i w a : Nat} (hl : at_.length = l.length) (hi : i < l.length) (hw : w < l.length) (hn : ∀ a d, a < l.length → d < 2 → nx l a d < l.length) (ha : a < l.length) : loopF (p_muntinref10_Crossed.s1 at_ l i w a) big 0 = some (if crossA at_ l i w a = true then .inr () else .inl ()) := by
  have h : loopF (p_muntinref10_Crossed.s1 at_ l i w a) big 0 = some (match (List.range 2).find? (fun d => crossE at_ l i w a d) with | some i => .inr ((fun _ => ()) i) | none => .inl ()) := by
    refine loop_find (big_lt (by omega)) (fun d hd => ?_) ?_
    · exact mCross1 hl hi hw ha hd (hn a d ha hd)
    · simp only [p_muntinref10_Crossed.s1]
      rw [ifd_neg (by omega)]
  rw [h]
  have e : (List.range 2).find? (fun d => crossE at_ l i w a d) = if crossE at_ l i w a 0 = true then some 0 else if crossE at_ l i w a 1 = true then some 1 else none := by
    have : List.range 2 = [0, 1] := by decide
    rw [this]
    cases c0 : crossE at_ l i w a 0 <;> cases c1 : crossE at_ l i w a 1 <;> simp [c0, c1]
  rw [e]
  unfold crossA
  cases c0 : crossE at_ l i w a 0 <;> cases c1 : crossE at_ l i w a 1 <;> simp
theorem mCross0 {at_ : List T_api_Point} {l : List T_api_Cell} {i w a : Nat} (hl : at_.length = l.length) (h1000 : l.length ≤ 1000) (hi : i < l.length) (hw : w < l.length) (hn : ∀ a d, a < l.length → d < 2 → nx l a d < l.length) (ha : a < l.length) : p_muntinref10_Crossed.s0 at_ l i w a = some (if crossA at_ l i w a = true then .inr (.inr ()) else .inl ((a : Int) + 1)) := by
  simp only [p_muntinref10_Crossed.s0]
  rw [ifd_pos (by omega), mCrossA hl hi hw hn ha, Option.bind_some]
  by_cases c : crossA at_ l i w a = true
  · rw [if_pos c, if_pos c]
  · rw [if_neg c, if_neg c]
    dsimp only
    rw [ckI64 (by omega)]
theorem mCrossN {at_ : List T_api_Point} {l : List T_api_Cell} {i w : Nat} : p_muntinref10_Crossed.s0 at_ l i w l.length = some (.inr (.inl ())) := by
  simp only [p_muntinref10_Crossed.s0]
  rw [ifd_neg (by omega)]
theorem any_find {n : Nat} {P : Nat → Bool} : ((List.range n).any P) = ((List.range n).find? P).isSome := by
  rw [Bool.eq_iff_iff, List.find?_isSome, List.any_eq_true]
theorem mCrossL {at_ : List T_api_Point} {l : List T_api_Cell} {i w : Nat} (hl : at_.length = l.length) (h1000 : l.length ≤ 1000) (hi : i < l.length) (hw : w < l.length) (hn : ∀ a d, a < l.length → d < 2 → nx l a d < l.length) : loopF (p_muntinref10_Crossed.s0 at_ l i w) big 0 = some (match (List.range l.length).find? (fun a => crossA at_ l i w a) with | some i => .inr ((fun _ => ()) i) | none => .inl ()) :=
  loop_find (big_lt (by omega)) (fun a ha => mCross0 hl h1000 hi hw hn ha) mCrossN
theorem mCrossed {at_ : List T_api_Point} {l : List T_api_Cell} {i w : Nat} (hl : at_.length = l.length) (h1000 : l.length ≤ 1000) (hi : i < l.length) (hw : w < l.length) (hn : ∀ a d, a < l.length → d < 2 → nx l a d < l.length) : p_muntinref10_Crossed at_ l i w = some (crossP at_ l i w) := by
  have h0 := mCrossL hl h1000 hi hw hn
  unfold p_muntinref10_Crossed
  rw [h0]
  unfold crossP
  rw [any_find]
  cases h : (List.range l.length).find? fun a => crossA at_ l i w a with
  | none => simp
  | some j => simp

/-! with -/
def wC1 (c : T_api_Cell) (d w o : Int) : T_api_Cell := ⟨c.Next.set d w, c.Owner.set d o⟩
def wC (l : List T_api_Cell) (v d w o : Int) (i : Nat) : T_api_Cell :=
  let c := if (i : Int) = v then wC1 (gi l i) d w o else gi l i
  if (i : Int) = w then wC1 c ((d + 2).tmod 4) v o else c
def wth (l : List T_api_Cell) (v d w o : Int) : List T_api_Cell := (List.range l.length).map (wC l v d w o)
theorem wth_length {l : List T_api_Cell} {v d w o : Int} : (wth l v d w o).length = l.length := by simp [wth]
theorem mWith {l : List T_api_Cell} {v d w o : Int} (hl : l.length ≤ 100000) (hd : 0 ≤ d ∧ d < 4) : p_muntinref10_with l v d w o = some (wth l v d w o) := by
  unfold p_muntinref10_with
  rw [bd_eq (x := wth l v d w o)]
  refine loop_to (fun n : Nat => ((List.range n).map (wC l v d w o), (n : Int))) (n := l.length) (big_lt (by omega)) rfl (fun n hn => ?_) ?_
  · have hm : ((List.range n).map (wC l v d w o)).length = n := by simp
    have t := Int.tmod_nonneg 4 (show (0 : Int) ≤ d + 2 by omega)
    have t2 := Int.tmod_lt_of_pos (d + 2) (show (0 : Int) < 4 by omega)
    rw [List.range_succ, List.map_append, List.map_cons, List.map_nil]
    simp only [p_muntinref10_with.s0]
    rw [ifd_pos (by omega), ck_pos (by omega), Int.toNat_natCast]
    unfold wC
    by_cases c1 : (n : Int) = v
    · rw [ifd_pos c1, ck_pos hd, Option.bind_some]
      by_cases c2 : (n : Int) = w
      · rw [ifd_pos c2, ckI64 (by omega), ck_pos (by omega), ck_pos (by simp; omega), ckI64 (by omega), if_pos c1, if_pos c2]
        rfl
      · rw [ifd_neg c2, ck_pos (by simp; omega), ckI64 (by omega), if_pos c1, if_neg c2]
        rfl
    · rw [ifd_neg c1, Option.bind_some]
      by_cases c2 : (n : Int) = w
      · rw [ifd_pos c2, ckI64 (by omega), ck_pos (by omega), ck_pos (by simp; omega), ckI64 (by omega), if_neg c1, if_pos c2]
        rfl
      · rw [ifd_neg c2, ck_pos (by simp; omega), ckI64 (by omega), if_neg c1, if_neg c2]
        rfl
  · simp only [p_muntinref10_with.s0]
    rw [ifd_neg (by omega)]
    rfl
/-- An edge from v to w in direction d, as it is read. -/
theorem nx_wth {l : List T_api_Cell} {v w d i e : Nat} {o : Int} (hv : v < l.length) (hw : w < l.length) (hvw : v ≠ w) (hd : d < 4) (hi : i < l.length) (he : e < 4) : nx (wth l v d w o) i e = (if i = v ∧ e = d then (w : Int) else if i = w ∧ e = (d + 2) % 4 then (v : Int) else nx l i e) ∧ ow (wth l v d w o) i e = (if i = v ∧ e = d then o else if i = w ∧ e = (d + 2) % 4 then o else ow l i e) := by
  have hb : (((d : Int) + 2).tmod 4) = (((d + 2) % 4 : Nat) : Int) := by
    match d, hd with
    | 0, _ | 1, _ | 2, _ | 3, _ => rfl
  have g : gi (wth l v d w o) i = wC l v d w o i := gi_map_range hi
  unfold nx ow
  rw [g]
  unfold wC
  rw [hb]
  by_cases c1 : i = v
  · subst c1
    rw [if_pos rfl, if_neg (show ¬ ((i : Nat) : Int) = (w : Int) by omega)]
    simp only [wC1]
    rw [A4_get_set hd he, A4_get_set hd he]
    have : ¬ (i = w) := hvw
    simp [this]
  · rw [if_neg (show ¬ ((i : Nat) : Int) = (v : Int) by omega)]
    by_cases c2 : i = w
    · subst c2
      rw [if_pos rfl]
      simp only [wC1]
      rw [A4_get_set (by omega) he, A4_get_set (by omega) he]
      simp [c1]
    · rw [if_neg (show ¬ ((i : Nat) : Int) = (w : Int) by omega)]
      simp [c1, c2]

/-! What may be. -/
structure Ck (l : List T_api_Cell) : Prop where
  s : ∀ v d, v < l.length → d < 4 → (nx l v d = -1 ∧ ow l v d = 0) ∨ ∃ w : Nat, nx l v d = w ∧ w < l.length ∧ w ≠ v ∧ nx l w ((d + 2) % 4) = v ∧ ow l w ((d + 2) % 4) = ow l v d ∧ -2 ≤ ow l v d
theorem Ck.new (n : Nat) : Ck (List.replicate n noC) := ⟨fun v d hv hd => .inl (by
  have : gi (List.replicate n noC) v = noC := by rw [gi_eq hv]; simp
  unfold nx ow; rw [this]
  match d, hd with
  | 0, _ | 1, _ | 2, _ | 3, _ => exact ⟨rfl, rfl⟩)⟩
theorem Ck.wth {l : List T_api_Cell} (h : Ck l) {v w d : Nat} {o : Int} (hv : v < l.length) (hw : w < l.length) (hvw : v ≠ w) (hd : d < 4) (h1 : nx l v d = -1) (h2 : nx l w ((d + 2) % 4) = -1) (ho : -2 ≤ o) : Ck (wth l v d w o) := by
  refine ⟨fun i e hi he => ?_⟩
  rw [wth_length] at hi ⊢
  have n1 := fun i e hi he => (nx_wth (o := o) hv hw hvw hd (i := i) (e := e) hi he).1
  have n2 := fun i e hi he => (nx_wth (o := o) hv hw hvw hd (i := i) (e := e) hi he).2
  rw [n1 i e hi he, n2 i e hi he]
  by_cases c1 : i = v ∧ e = d
  · rw [if_pos c1, if_pos c1]
    refine .inr ⟨w, rfl, hw, by omega, ?_, ?_, ho⟩
    · rw [n1 w _ hw (by omega), if_neg (by omega), if_pos ⟨rfl, by rw [c1.2]⟩, c1.1]
    · rw [n2 w _ hw (by omega), if_neg (by omega), if_pos ⟨rfl, by rw [c1.2]⟩]
  · rw [if_neg c1, if_neg c1]
    by_cases c2 : i = w ∧ e = (d + 2) % 4
    · rw [if_pos c2, if_pos c2]
      refine .inr ⟨v, rfl, hv, by omega, ?_, ?_, ho⟩
      · rw [n1 v _ hv (by omega), if_pos ⟨rfl, by omega⟩, c2.1]
      · rw [n2 v _ hv (by omega), if_pos ⟨rfl, by omega⟩]
    · rw [if_neg c2, if_neg c2]
      rcases h.s i e hi he with hh | ⟨x, x1, x2, x3, x4, x5, x6⟩
      · exact .inl hh
      · refine .inr ⟨x, x1, x2, x3, ?_, ?_, x6⟩
        · rw [n1 x _ x2 (by omega)]
          rw [if_neg (fun c => by
            have : nx l x ((e + 2) % 4) = -1 := by rw [c.1, c.2]; exact h1
            omega)]
          rw [if_neg (fun c => by
            have : nx l x ((e + 2) % 4) = -1 := by rw [c.1, c.2]; exact h2
            omega)]
          exact x4
        · rw [n2 x _ x2 (by omega)]
          rw [if_neg (fun c => by
            have : nx l x ((e + 2) % 4) = -1 := by rw [c.1, c.2]; exact h1
            omega)]
          rw [if_neg (fun c => by
            have : nx l x ((e + 2) % 4) = -1 := by rw [c.1, c.2]; exact h2
            omega)]
          exact x5
end Mu
/- Layer 10: make. -/
set_option linter.unusedVariables false
set_option linter.unusedSimpArgs false
set_option maxRecDepth 10000
namespace Mu

theorem loop_meas {σ ρ : Type} {step : σ → Option (σ ⊕ ρ)} (μ : σ → Nat) (I : σ → Prop) {s0 : σ} {R : ρ → Prop} (hn : μ s0 < big) (h0 : I s0) (hs : ∀ s, I s → (∃ s', step s = some (.inl s') ∧ I s' ∧ μ s' < μ s) ∨ ∃ r, step s = some (.inr r) ∧ R r) : ∃ r, loopF step big s0 = some r ∧ R r := by
  have key : ∀ k s, μ s ≤ k → I s → ∃ r, loopF step (k + 1) s = some r ∧ R r := by
    intro k
    induction k with
    | zero =>
      intro s hk hI
      rcases hs s hI with ⟨s', h1, h2, h3⟩ | ⟨r, h1, h2⟩
      · omega
      · exact ⟨r, by simp only [loopF, h1], h2⟩
    | succ k ih =>
      intro s hk hI
      rcases hs s hI with ⟨s', h1, h2, h3⟩ | ⟨r, h1, h2⟩
      · obtain ⟨r, hr, hR⟩ := ih s' (by omega) h2
        exact ⟨r, by rw [loopF, h1]; exact hr, hR⟩
      · exact ⟨r, by rw [loopF, h1], h2⟩
  obtain ⟨r, hr, hR⟩ := key (μ s0) s0 (Nat.le_refl _) h0
  exact ⟨r, loopF_le hr (by omega), hR⟩

/-- The points. -/
structure Pts (at_ : List T_api_Point) : Prop where
  b : ∀ i, i < at_.length → 0 ≤ (gi at_ i).X ∧ (gi at_ i).X < 8 ∧ 0 ≤ (gi at_ i).Y ∧ (gi at_ i).Y < 8
  d : ∀ i j, i < at_.length → j < at_.length → gi at_ i = gi at_ j → i = j
theorem Pts.nil : Pts [] := ⟨fun i h => by simp at h, fun i j h => by simp at h⟩
theorem Pts.app {at_ : List T_api_Point} (h : Pts at_) {p : T_api_Point} (hp : 0 ≤ p.X ∧ p.X < 8 ∧ 0 ≤ p.Y ∧ p.Y < 8) (hn : ∀ k, k < at_.length → gi at_ k ≠ p) : Pts (at_ ++ [p]) := by
  have g1 : ∀ i, i < at_.length → gi (at_ ++ [p]) i = gi at_ i := fun i hi => gi_append_left hi
  have g2 : gi (at_ ++ [p]) at_.length = p := by
    have := gi_append_right (l := at_) (m := [p]) (i := 0)
    rw [Nat.add_zero] at this
    rw [this]; rfl
  refine ⟨fun i hi => ?_, fun i j hi hj hij => ?_⟩
  · simp only [List.length_append, List.length_cons, List.length_nil] at hi
    by_cases c : i < at_.length
    · rw [g1 i c]; exact h.b i c
    · rw [show i = at_.length by omega, g2]; exact hp
  · simp only [List.length_append, List.length_cons, List.length_nil] at hi hj
    by_cases c : i < at_.length <;> by_cases c2 : j < at_.length
    · rw [g1 i c, g1 j c2] at hij; exact h.d i j c c2 hij
    · rw [g1 i c, show j = at_.length by omega, g2] at hij; exact absurd hij (hn i c)
    · rw [g1 j c2, show i = at_.length by omega, g2] at hij; exact absurd hij.symm (hn j c2)
    · omega
theorem near_inj {at_ : List T_api_Point} (hp : Pts at_) {i j d : Nat} {w : Nat} (hi : i < at_.length) (hj : j < at_.length) (hd : d < 2) (h1 : NearTo at_ i d at_.length w) (h2 : NearTo at_ j d at_.length w) : i = j := by
  rcases h1 with ⟨h, _⟩ | ⟨w1, e1, l1, c1, m1⟩
  · omega
  rcases h2 with ⟨h, _⟩ | ⟨w2, e2, l2, c2, m2⟩
  · omega
  obtain rfl : w = w1 := by omega
  obtain rfl : w = w2 := by omega
  apply hp.d i j hi hj
  have x1 := m1 j hj
  have x2 := m2 i hi
  have c1 := c1.2
  have c2 := c2.2
  unfold cand closer at x1 x2
  by_cases z : d = 0
  · simp only [if_pos z] at *
    have hX : (gi at_ i).X = (gi at_ j).X := by
      by_cases q1 : (gi at_ i).X < (gi at_ j).X
      · have := x1 ⟨hj, by omega, q1⟩; omega
      · by_cases q2 : (gi at_ j).X < (gi at_ i).X
        · have := x2 ⟨hi, by omega, q2⟩; omega
        · omega
    have hY : (gi at_ i).Y = (gi at_ j).Y := by omega
    generalize gi at_ i = p at *
    generalize gi at_ j = q at *
    obtain ⟨a, b⟩ := p
    obtain ⟨a', b'⟩ := q
    simp only at hX hY
    rw [hX, hY]
  · simp only [if_neg z] at *
    have hX : (gi at_ i).Y = (gi at_ j).Y := by
      by_cases q1 : (gi at_ i).Y < (gi at_ j).Y
      · have := x1 ⟨hj, by omega, q1⟩; omega
      · by_cases q2 : (gi at_ j).Y < (gi at_ i).Y
        · have := x2 ⟨hi, by omega, q2⟩; omega
        · omega
    have hY : (gi at_ i).X = (gi at_ j).X := by omega
    generalize gi at_ i = p at *
    generalize gi at_ j = q at *
    obtain ⟨a, b⟩ := p
    obtain ⟨a', b'⟩ := q
    simp only at hX hY
    rw [hX, hY]
/-- What is kept while edges are laid. -/
structure Mk (at_ : List T_api_Point) (l : List T_api_Cell) (i d : Nat) : Prop where
  len : l.length = at_.length
  ck : Ck l
  near : ∀ v e, v < l.length → e < 2 → nx l v e = -1 ∨ ((v < i ∨ v = i ∧ e < d) ∧ NearTo at_ v e at_.length (nx l v e))
  own : ∀ v e, v < l.length → e < 4 → -2 ≤ ow l v e ∧ ow l v e ≤ 1000
theorem Mk.step {at_ : List T_api_Point} {l : List T_api_Cell} {i d : Nat} (h : Mk at_ l i d) : Mk at_ l i (d + 1) :=
  ⟨h.len, h.ck, fun v e hv he => (h.near v e hv he).imp id (fun ⟨a, b⟩ => ⟨by omega, b⟩), h.own⟩
theorem Mk.next {at_ : List T_api_Point} {l : List T_api_Cell} {i : Nat} (h : Mk at_ l i 2) : Mk at_ l (i + 1) 0 :=
  ⟨h.len, h.ck, fun v e hv he => (h.near v e hv he).imp id (fun ⟨a, b⟩ => ⟨by omega, b⟩), h.own⟩
theorem Ck.lt {l : List T_api_Cell} (h : Ck l) {v d : Nat} (hv : v < l.length) (hd : d < 4) : -1 ≤ nx l v d ∧ nx l v d < l.length := by
  rcases h.s v d hv hd with ⟨a, _⟩ | ⟨w, a, b, _⟩ <;> omega
theorem Mk.lay {at_ : List T_api_Point} (hp : Pts at_) {l : List T_api_Cell} {i d w : Nat} {o : Int} (h : Mk at_ l i d) (hi : i < l.length) (hd : d < 2) (hw : NearTo at_ i d at_.length w) (ho : -2 ≤ o ∧ o ≤ 1000) : Mk at_ (wth l i d w o) i (d + 1) := by
  have hl := h.len
  have hwl : w < l.length ∧ cand at_ i d w := by
    rcases hw with ⟨e, _⟩ | ⟨j, e, h1, h2, _⟩
    · omega
    · have : w = j := by omega
      subst this; exact ⟨by omega, h2⟩
  have hne : i ≠ w := by
    rintro rfl
    have := hwl.2.2
    split at this <;> omega
  have n1 : nx l i d = -1 := by
    rcases h.near i d hi (by omega) with e | ⟨e, _⟩
    · exact e
    · omega
  have n2 : nx l w ((d + 2) % 4) = -1 := by
    rcases h.ck.s w ((d + 2) % 4) hwl.1 (by omega) with ⟨e, _⟩ | ⟨x, e1, e2, e3, e4, e5, e6⟩
    · exact e
    · rw [show ((d + 2) % 4 + 2) % 4 = d by omega] at e4
      rcases h.near x d e2 hd with e | ⟨e, e7⟩
      · omega
      · rw [e4] at e7
        have := near_inj hp (by omega) (by omega) hd e7 hw
        subst this
        omega
  have m1 := fun v e hv he => (nx_wth (o := o) hi hwl.1 hne (show d < 4 by omega) (i := v) (e := e) hv he).1
  have m2 := fun v e hv he => (nx_wth (o := o) hi hwl.1 hne (show d < 4 by omega) (i := v) (e := e) hv he).2
  refine ⟨by rw [wth_length]; exact hl, h.ck.wth hi hwl.1 hne (by omega) n1 n2 ho.1, fun v e hv he => ?_, fun v e hv he => ?_⟩
  · rw [wth_length] at hv
    rw [m1 v e hv (by omega)]
    by_cases c : v = i ∧ e = d
    · rw [if_pos c]
      right
      refine ⟨by omega, ?_⟩
      rw [c.1, c.2]; exact hw
    · rw [if_neg c]
      rw [if_neg (fun c2 => by omega)]
      exact (h.near v e hv he).imp id (fun ⟨a, b⟩ => ⟨by omega, b⟩)
  · rw [wth_length] at hv
    rw [m2 v e hv he]
    by_cases c : v = i ∧ e = d
    · rw [if_pos c]; exact ho
    · rw [if_neg c]
      by_cases c2 : v = w ∧ e = (d + 2) % 4
      · rw [if_pos c2]; exact ho
      · rw [if_neg c2]; exact h.own v e hv he
/-- One cell's edges. -/
theorem mMake3 {at_ : List T_api_Point} (hp : Pts at_) (h1000 : at_.length ≤ 1000) {l : List T_api_Cell} {i : Nat} {b o : Int} (h : Mk at_ l i 0) (hi : i < l.length) (ho : -2 ≤ o ∧ o ≤ 1000) : ∃ l', loopF (p_muntinref10_Make.s3 i b at_ o) big (l, 0) = some l' ∧ Mk at_ l' i 2 ∧ i < l'.length := by
  refine loop_inv (n := 2) (I := fun n (s : List T_api_Cell × Int) => s.2 = n ∧ Mk at_ s.1 i n ∧ i < s.1.length) (R := fun l' => Mk at_ l' i 2 ∧ i < l'.length) (big_lt (by omega)) ⟨rfl, h, hi⟩ ?_ ?_
  · rintro d ⟨l, x⟩ hd ⟨hx, hM, hi⟩
    dsimp only at hx hM hi
    subst hx
    have hl := hM.len
    obtain ⟨w, hw, hN⟩ := mNear (at_ := at_) (i := i) (d := d) h1000 (by omega) hd
    simp only [p_muntinref10_Make.s3]
    rw [ifd_pos (by omega), hw, Option.bind_some, ck_pos (by omega), ckI64 (by omega)]
    by_cases c : ((decide (ari_and .u8 (sh_shr .u8 b d) 1 = 0)) || (decide (w < 0))) = true
    · rw [if_pos c]
      exact ⟨_, rfl, rfl, hM.step, hi⟩
    · rw [if_neg c]
      have hw0 : ¬ w < 0 := by
        intro hh
        apply c
        simp [hh]
      obtain ⟨wn, rfl⟩ : ∃ wn : Nat, w = wn := ⟨w.toNat, by omega⟩
      have hwl : wn < l.length := by
        rcases hN with ⟨e, _⟩ | ⟨j, e, h1, h2, _⟩
        · omega
        · omega
      rw [mCrossed hl.symm (by omega) hi hwl (fun a e ha he => (hM.ck.lt ha (by omega)).2), Option.bind_some, mWith (by omega) (by omega)]
      by_cases c2 : (!crossP at_ l i wn) = true
      · rw [if_pos c2, Option.bind_some, ckI64 (by omega)]
        exact ⟨_, rfl, rfl, hM.lay hp hi hd hN ho, by rw [wth_length]; exact hi⟩
      · rw [if_neg c2]
        exact ⟨_, rfl, rfl, hM.step, hi⟩
  · rintro ⟨l, x⟩ ⟨hx, hM, hi⟩
    dsimp only at hx hM hi
    subst hx
    simp only [p_muntinref10_Make.s3]
    rw [ifd_neg (by omega)]
    exact ⟨_, rfl, hM, hi⟩

/-- All edges. -/
theorem mMake2 {z : T_muntinref10_Places} {at_ : List T_api_Point} (hp : Pts at_) (h1000 : at_.length ≤ 1000) (hown : ∀ y ∈ z.Own, Wf .i8 y) {l : List T_api_Cell} (h : Mk at_ l 0 0) : ∃ r : List T_api_Point × List T_api_Cell, loopF (p_muntinref10_Make.s2 z) big (at_, l, 0) = some r ∧ r.1 = at_ ∧ Mk at_ r.2 at_.length 0 := by
  refine loop_inv (n := at_.length) (I := fun n (s : List T_api_Point × List T_api_Cell × Int) => s.1 = at_ ∧ s.2.2 = n ∧ Mk at_ s.2.1 n 0) (s0 := (at_, l, (0 : Int))) (R := fun r : List T_api_Point × List T_api_Cell => r.1 = at_ ∧ Mk at_ r.2 at_.length 0) (big_lt (by omega)) ⟨rfl, rfl, h⟩ ?_ ?_
  · rintro i ⟨a, l, x⟩ hi ⟨ha, hx, hM⟩
    dsimp only at ha hx hM
    subst ha hx
    have hb : ∃ b, (if decide ((i : Int) < (z.Bits.length : Int)) = true then ck ((0 : Int) ≤ (i : Int) ∧ (i : Int) < (z.Bits.length : Int)) (some (a, l, gi z.Bits (i : Int).toNat)) else some (a, l, 3)) = some (a, l, b) := by
      by_cases c : (i : Int) < (z.Bits.length : Int)
      · exact ⟨gi z.Bits i, by rw [ifd_pos c, ck_pos (by omega)]; rfl⟩
      · exact ⟨3, by rw [ifd_neg c]⟩
    have ho : ∃ o : Int, (-2 ≤ o ∧ o ≤ 1000) ∧ (if decide ((i : Int) < (z.Own.length : Int)) = true then ck ((0 : Int) ≤ (i : Int) ∧ (i : Int) < (z.Own.length : Int)) (ck (inK .i64 (gi z.Own (i : Int).toNat)) (if decide ((gi z.Own (i : Int).toNat) < (-2)) = true then ck (in64 (-(gi z.Own (i : Int).toNat))) (some (a, l, -(gi z.Own (i : Int).toNat))) else some (a, l, gi z.Own (i : Int).toNat))) else some (a, l, (i : Int))) = some (a, l, o) := by
      by_cases c : (i : Int) < (z.Own.length : Int)
      · have hw := (hown _ (gi_mem (show i < z.Own.length by omega))).i8
        rw [ifd_pos c, ck_pos (by omega), Int.toNat_natCast, ckK64 (by omega)]
        by_cases c2 : gi z.Own i < -2
        · exact ⟨-(gi z.Own i), by omega, by rw [ifd_pos c2, ckI64 (by omega)]⟩
        · exact ⟨gi z.Own i, by omega, by rw [ifd_neg c2]⟩
      · exact ⟨i, by omega, by rw [ifd_neg c]⟩
    obtain ⟨b, hb⟩ := hb
    obtain ⟨o, ho1, ho⟩ := ho
    have hl := hM.len
    obtain ⟨l', h1, h2, h3⟩ := mMake3 (b := b) hp h1000 hM (by omega) ho1
    simp only [p_muntinref10_Make.s2]
    rw [ifd_pos (by omega), hb, Option.bind_some]
    dsimp only
    rw [ho, Option.bind_some]
    dsimp only
    rw [h1, Option.bind_some, ckI64 (by omega)]
    exact ⟨_, rfl, rfl, rfl, h2.next⟩
  · rintro ⟨a, l, x⟩ ⟨ha, hx, hM⟩
    dsimp only at ha hx hM
    subst ha hx
    simp only [p_muntinref10_Make.s2]
    rw [ifd_neg (by omega)]
    exact ⟨_, rfl, rfl, hM⟩
/-- Is the place taken? -/
theorem mMake1 {z : T_muntinref10_Places} {at_ : List T_api_Point} {i : Nat} (h1000 : at_.length ≤ 1000) : ∃ m : Bool, loopF (p_muntinref10_Make.s1 z at_ i) big (false, 0) = some (at_, m) ∧ (m = false → ∀ k, k < at_.length → gi at_ k ≠ (⟨(gi z.At i).tmod 8, ((gi z.At i).tdiv 8).tmod 8⟩ : T_api_Point)) := by
  obtain ⟨r, h1, h2, h3⟩ := loop_inv (step := p_muntinref10_Make.s1 z at_ i) (s0 := ((false : Bool), (0 : Int))) (n := at_.length) (I := fun n (s : Bool × Int) => s.2 = n ∧ (s.1 = false → ∀ k, k < n → gi at_ k ≠ (⟨(gi z.At i).tmod 8, ((gi z.At i).tdiv 8).tmod 8⟩ : T_api_Point))) (R := fun r : List T_api_Point × Bool => r.1 = at_ ∧ (r.2 = false → ∀ k, k < at_.length → gi at_ k ≠ (⟨(gi z.At i).tmod 8, ((gi z.At i).tdiv 8).tmod 8⟩ : T_api_Point))) (big_lt (by omega)) ⟨rfl, fun _ k hk => by omega⟩ (by
    rintro n ⟨m, x⟩ hn ⟨hx, hm⟩
    dsimp only at hx hm
    subst hx
    simp only [p_muntinref10_Make.s1]
    rw [ifd_pos (by omega)]
    cases m with
    | true =>
      rw [if_pos rfl, Option.bind_some, ckI64 (by omega)]
      exact ⟨_, rfl, rfl, fun h => by cases h⟩
    | false =>
      rw [if_neg (by decide), ck_pos (by omega), Option.bind_some, ckI64 (by omega), Int.toNat_natCast, Int.toNat_natCast]
      refine ⟨_, rfl, rfl, fun h k hk => ?_⟩
      rcases Nat.lt_succ_iff_lt_or_eq.1 hk with h' | rfl
      · exact hm rfl k h'
      · simpa using h) (by
    rintro ⟨m, x⟩ ⟨hx, hm⟩
    dsimp only at hx hm
    subst hx
    simp only [p_muntinref10_Make.s1]
    rw [ifd_neg (by omega)]
    exact ⟨_, rfl, rfl, hm⟩)
  obtain ⟨a, m⟩ := r
  dsimp only at h2 h3
  subst h2
  exact ⟨m, h1, h3⟩
theorem mMake0 {z : T_muntinref10_Places} {most : Int} (hm : 0 ≤ most ∧ most ≤ 1000) (hlen : z.At.length ≤ 9223372036854775807) (hat : ∀ y ∈ z.At, Wf .u8 y) : ∃ a, loopF (p_muntinref10_Make.s0 z most) big (([] : List T_api_Point), 0) = some a ∧ Pts a ∧ (a.length : Int) ≤ most := by
  refine loop_meas (μ := fun s : List T_api_Point × Int => ((z.At.length : Int) - s.2).toNat) (I := fun s => 0 ≤ s.2 ∧ Pts s.1 ∧ (s.1.length : Int) ≤ most) (R := fun a => Pts a ∧ (a.length : Int) ≤ most) (big_lt (by omega)) ⟨by decide, Pts.nil, by simpa using hm.1⟩ ?_
  rintro ⟨a, i⟩ ⟨h1, h2, h3⟩
  dsimp only at h1 h2 h3
  obtain ⟨n, rfl⟩ : ∃ n : Nat, i = n := ⟨i.toNat, by omega⟩
  simp only [p_muntinref10_Make.s0]
  by_cases c : ((decide ((n : Int) < (z.At.length : Int))) && (decide ((a.length : Int) < most))) = true
  · left
    rw [if_pos c]
    rw [Bool.and_eq_true, decide_eq_true_iff, decide_eq_true_iff] at c
    have hu := (hat _ (gi_mem (show n < z.At.length by omega))).u8
    obtain ⟨m, e1, e2⟩ := mMake1 (z := z) (at_ := a) (i := n) (by omega)
    have hdv : 0 ≤ (gi z.At n).tdiv 8 ∧ (gi z.At n).tdiv 8 ≤ 255 := by
      rw [Int.tdiv_eq_ediv_of_nonneg hu.1]; omega
    rw [ck_pos (by omega), Int.toNat_natCast, ckK64 (by omega), ck_pos ⟨by omega, by constructor <;> omega⟩, e1, Option.bind_some]
    dsimp only
    cases m with
    | false =>
      rw [if_pos (by decide), ck_pos (by simp; omega), ckI64 (by omega)]
      refine ⟨_, rfl, ⟨by omega, h2.app ?_ (e2 rfl), by simp; omega⟩, by dsimp only; omega⟩
      have a1 := Int.tmod_nonneg 8 hu.1
      have a2 := Int.tmod_lt_of_pos (gi z.At n) (show (0 : Int) < 8 by omega)
      have a3 := Int.tmod_nonneg 8 hdv.1
      have a4 := Int.tmod_lt_of_pos ((gi z.At n).tdiv 8) (show (0 : Int) < 8 by omega)
      exact ⟨a1, a2, a3, a4⟩
    | true =>
      rw [if_neg (by decide), ckI64 (by omega)]
      exact ⟨_, rfl, ⟨by dsimp only; omega, h2, h3⟩, by dsimp only; omega⟩
  · right
    rw [if_neg c]
    exact ⟨_, rfl, h2, h3⟩
/-- What Make gives. -/
structure Made (l : List T_api_Cell) (at_ : List T_api_Point) : Prop where
  pts : Pts at_
  len : l.length = at_.length
  ck : Ck l
  near : ∀ v e, v < l.length → e < 2 → nx l v e = -1 ∨ NearTo at_ v e at_.length (nx l v e)
  own : ∀ v e, v < l.length → e < 4 → -2 ≤ ow l v e ∧ ow l v e ≤ 1000
structure OkZ (z : T_muntinref10_Places) : Prop where
  a : z.At.length ≤ 9223372036854775807
  b : ∀ y ∈ z.At, Wf .u8 y
  o : ∀ y ∈ z.Own, Wf .i8 y
theorem mMake {z : T_muntinref10_Places} {most : Int} (hz : OkZ z) (hm : 0 ≤ most ∧ most ≤ 1000) : ∃ l at_, p_muntinref10_Make z most = some (l, at_) ∧ Made l at_ ∧ (l.length : Int) ≤ most := by
  obtain ⟨a, h1, hp, hl⟩ := mMake0 hm hz.a hz.b
  have hM : Mk a (List.replicate a.length noC) 0 0 := ⟨by simp, Ck.new _, fun v e hv he => .inl (by
      have : gi (List.replicate a.length noC) v = noC := by rw [gi_eq hv]; simp
      unfold nx; rw [this]
      match e, he with
      | 0, _ | 1, _ => rfl), fun v e hv he => by
      have : gi (List.replicate a.length noC) v = noC := by rw [gi_eq hv]; simp
      unfold ow; rw [this]
      match e, he with
      | 0, _ | 1, _ | 2, _ | 3, _ => decide⟩
  obtain ⟨⟨a', l⟩, h2, h3, h4⟩ := mMake2 (z := z) hp (by omega) hz.o hM
  dsimp only at h3 h4
  subst h3
  refine ⟨l, a', ?_, ⟨hp, h4.len, h4.ck, fun v e hv he => (h4.near v e hv he).imp id (·.2), h4.own⟩, by rw [h4.len]; exact hl⟩
  unfold p_muntinref10_Make
  rw [h1, Option.bind_some, mNew (by omega), Option.bind_some, h2, Option.bind_some]
end Mu
/- Layer 10: check. -/
set_option linter.unusedVariables false
set_option linter.unusedSimpArgs false
set_option maxRecDepth 10000
namespace Mu

def sideP (l : List T_api_Cell) (v d : Nat) : Int :=
  if nx l v d = -1 then (if ow l v d = 0 then 0 else 9)
  else if nx l v d < 0 ∨ (l.length : Int) ≤ nx l v d ∨ nx l v d = v then 3
  else if nx l (nx l v d).toNat ((d + 2) % 4) = v ∧ ow l (nx l v d).toNat ((d + 2) % 4) = ow l v d ∧ ¬ ow l v d < -2 then 0 else 9
theorem mLeft {d : Nat} (hd : d < 4) : p_compass_Left d 2 = some (((d + 2) % 4 : Nat) : Int) := by
  match d, hd with
  | 0, _ | 1, _ | 2, _ | 3, _ => decide
theorem mSide {l : List T_api_Cell} {v d : Nat} (hv : v < l.length) (hd : d < 4) : p_grid_side l v d = some (sideP l v d) := by
  unfold p_grid_side sideP
  have e : ((gi l v).Next).get (d : Int) = nx l v d := rfl
  have e2 : ((gi l v).Owner).get (d : Int) = ow l v d := rfl
  rw [ck_pos (by omega), ck_pos (by omega), Int.toNat_natCast, e, e2]
  by_cases c : nx l v d = -1
  · rw [ifd_pos c, if_pos c]
    by_cases c2 : ow l v d = 0
    · rw [ifn_neg c2, if_pos c2]
    · rw [ifn_pos c2, if_neg c2]
  · rw [ifd_neg c, if_neg c]
    by_cases c2 : nx l v d < 0 ∨ (l.length : Int) ≤ nx l v d ∨ nx l v d = v
    · rw [if_pos c2, if_pos (by simpa [or_assoc] using c2)]
    · rw [if_neg c2, if_neg (by simpa [or_assoc] using c2), mLeft hd, Option.bind_some, ck_pos (by omega), ck_pos (by omega)]
      have e3 : ((gi l (nx l v d).toNat).Next).get (((d + 2) % 4 : Nat) : Int) = nx l (nx l v d).toNat ((d + 2) % 4) := rfl
      have e4 : ((gi l (nx l v d).toNat).Owner).get (((d + 2) % 4 : Nat) : Int) = ow l (nx l v d).toNat ((d + 2) % 4) := rfl
      rw [e3, e4]
      by_cases q1 : nx l (nx l v d).toNat ((d + 2) % 4) = v <;> by_cases q2 : ow l (nx l v d).toNat ((d + 2) % 4) = ow l v d <;> by_cases q3 : ow l v d < -2 <;> simp [q1, q2, q3]
def rowP (l : List T_api_Cell) (v : Nat) : Int := match (List.range 4).find? (fun d => decide (sideP l v d ≠ 0)) with | some d => sideP l v d | none => 0
def chkP (l : List T_api_Cell) : Int := if 4096 < l.length then 6 else match (List.range l.length).find? (fun v => decide (rowP l v ≠ 0)) with | some v => rowP l v | none => 0
theorem find_none {n : Nat} {f : Nat → Int} : (match (List.range n).find? (fun d => decide (f d ≠ 0)) with | some d => f d | none => 0) = 0 ↔ ∀ d, d < n → f d = 0 := by
  cases h : (List.range n).find? (fun d => decide (f d ≠ 0)) with
  | none =>
    rw [List.find?_range_eq_none] at h
    simp only [true_iff]
    intro d hd
    have := h d hd
    simpa using this
  | some j =>
    rw [List.find?_range_eq_some] at h
    have h1 : f j ≠ 0 := by simpa using h.1
    have h2 : j < n := by simpa using h.2.1
    constructor
    · intro h3; exact absurd h3 h1
    · intro h3; exact h3 j h2
theorem rowP_zero {l : List T_api_Cell} {v : Nat} : rowP l v = 0 ↔ ∀ d, d < 4 → sideP l v d = 0 := find_none
theorem chkP_zero {l : List T_api_Cell} : chkP l = 0 ↔ l.length ≤ 4096 ∧ ∀ v, v < l.length → ∀ d, d < 4 → sideP l v d = 0 := by
  unfold chkP
  by_cases c : 4096 < l.length
  · rw [if_pos c]; constructor
    · intro h; omega
    · intro h; omega
  · rw [if_neg c, find_none]
    constructor
    · intro h; exact ⟨by omega, fun v hv => rowP_zero.1 (h v hv)⟩
    · intro h v hv; exact rowP_zero.2 (h.2 v hv)
theorem sideP_zero {l : List T_api_Cell} {v d : Nat} : sideP l v d = 0 ↔ (nx l v d = -1 ∧ ow l v d = 0) ∨ ∃ w : Nat, nx l v d = w ∧ w < l.length ∧ w ≠ v ∧ nx l w ((d + 2) % 4) = v ∧ ow l w ((d + 2) % 4) = ow l v d ∧ -2 ≤ ow l v d := by
  unfold sideP
  by_cases c : nx l v d = -1
  · rw [if_pos c]
    by_cases c2 : ow l v d = 0
    · simp [c, c2]
    · rw [if_neg c2]
      constructor
      · intro h; omega
      · rintro (⟨_, h⟩ | ⟨w, h, _⟩)
        · exact absurd h c2
        · omega
  · rw [if_neg c]
    by_cases c2 : nx l v d < 0 ∨ (l.length : Int) ≤ nx l v d ∨ nx l v d = v
    · rw [if_pos c2]
      constructor
      · intro h; omega
      · rintro (⟨h, _⟩ | ⟨w, h, h1, h2, _⟩)
        · exact absurd h c
        · omega
    · rw [if_neg c2]
      constructor
      · intro h
        split at h
        · rename_i q
          exact .inr ⟨(nx l v d).toNat, by omega, by omega, by omega, q.1, q.2.1, by omega⟩
        · omega
      · rintro (⟨h, _⟩ | ⟨w, h, h1, h2, h3, h4, h5⟩)
        · exact absurd h c
        · have : (nx l v d).toNat = w := by omega
          rw [this, if_pos ⟨h3, h4, by omega⟩]
theorem Ck_iff {l : List T_api_Cell} : chkP l = 0 ↔ l.length ≤ 4096 ∧ Ck l := by
  rw [chkP_zero]
  constructor
  · intro h; exact ⟨h.1, ⟨fun v d hv hd => sideP_zero.1 (h.2 v hv d hd)⟩⟩
  · intro h; exact ⟨h.1, fun v hv d hd => sideP_zero.2 (h.2.s v d hv hd)⟩
theorem find_out {n : Nat} {f : Nat → Int} : ((match (List.range n).find? (fun d => decide (f d ≠ 0)) with | some d => (.inr (f d) : Unit ⊕ Int) | none => .inl ())) = if (match (List.range n).find? (fun d => decide (f d ≠ 0)) with | some d => f d | none => 0) = 0 then .inl () else .inr (match (List.range n).find? (fun d => decide (f d ≠ 0)) with | some d => f d | none => 0) := by
  cases h : (List.range n).find? (fun d => decide (f d ≠ 0)) with
  | none => simp
  | some j =>
    rw [List.find?_range_eq_some] at h
    have h1 : f j ≠ 0 := by simpa using h.1
    rw [if_neg h1]
theorem mRow {l : List T_api_Cell} {v : Nat} (hv : v < l.length) : loopF (p_grid_Check.s1 l v) big 0 = some (if rowP l v = 0 then .inl () else .inr (rowP l v)) := by
  have h : loopF (p_grid_Check.s1 l v) big 0 = some (match (List.range 4).find? (fun d => decide (sideP l v d ≠ 0)) with | some d => .inr (sideP l v d) | none => .inl ()) := by
    refine loop_find (big_lt (by omega)) (fun d hd => ?_) ?_
    · simp only [p_grid_Check.s1]
      rw [ifd_pos (by omega), mSide hv hd, Option.bind_some]
      by_cases c : sideP l v d = 0
      · rw [ifn_neg c, if_neg (by simpa using c), ckI64 (by omega)]
      · rw [ifn_pos c, if_pos (by simpa using c)]
    · simp only [p_grid_Check.s1]
      rw [ifd_neg (by omega)]
  rw [h, find_out]; rfl
theorem mCheck {l : List T_api_Cell} (hl : l.length ≤ 1000000000000) : p_grid_Check l = some (chkP l) := by
  unfold p_grid_Check chkP
  by_cases c : 4096 < l.length
  · rw [if_pos c, ifd_pos (by omega)]
  · rw [if_neg c, ifd_neg (by omega)]
    have h : loopF (p_grid_Check.s0 l) big 0 = some (match (List.range l.length).find? (fun v => decide (rowP l v ≠ 0)) with | some v => .inr (rowP l v) | none => .inl ()) := by
      refine loop_find (big_lt (by omega)) (fun v hv => ?_) ?_
      · simp only [p_grid_Check.s0]
        rw [ifd_pos (by omega), mRow hv, Option.bind_some]
        by_cases c : rowP l v = 0
        · rw [if_pos c, if_neg (by simpa using c)]
          dsimp only
          rw [ckI64 (by omega)]
        · rw [if_neg c, if_pos (by simpa using c)]
      · simp only [p_grid_Check.s0]
        rw [ifd_neg (by omega)]
    rw [h]
    cases (List.range l.length).find? (fun v => decide (rowP l v ≠ 0)) <;> simp
end Mu
/- Layer 10: a grid's cells, played with. -/
set_option linter.unusedVariables false
set_option linter.unusedSimpArgs false
set_option maxRecDepth 10000
namespace Mu
/-- Each edge leads to a cell. -/
structure Rg (l : List T_api_Cell) : Prop where
  len : l.length ≤ 4096
  nx : ∀ v d : Nat, v < l.length → d < 4 → nx l v d = -1 ∨ (0 ≤ nx l v d ∧ nx l v d < l.length)
theorem Rg.wth {l : List T_api_Cell} {v w d : Nat} {o : Int} (h : Rg l) (hv : v < l.length) (hw : w < l.length) (hvw : v ≠ w) (hd : d < 4) : Rg (wth l v d w o) := by
  refine ⟨by rw [wth_length]; exact h.len, fun i e hi he => ?_⟩
  rw [wth_length] at hi ⊢
  rw [(nx_wth hv hw hvw hd hi he).1]
  split
  · omega
  · split
    · omega
    · exact h.nx i e hi he
theorem nx_noC {d : Nat} (h : d < 4) : noC.Next.get (d : Int) = -1 ∧ noC.Owner.get (d : Int) = 0 := by
  match d, h with
  | 0, _ | 1, _ | 2, _ | 3, _ => exact ⟨rfl, rfl⟩
theorem Rg.add {l : List T_api_Cell} (h : Rg l) (hl : l.length < 4096) : Rg (l ++ [noC]) := by
  refine ⟨by simp; omega, fun i e hi he => ?_⟩
  rw [List.length_append, List.length_singleton] at hi ⊢
  unfold Mu.nx
  by_cases c : i < l.length
  · rw [gi_append_left c]
    have := h.nx i e c he
    unfold Mu.nx at this
    omega
  · rw [show i = l.length + 0 by omega, gi_append_right]
    exact .inl (nx_noC he).1
end Mu
/- Layer 10: GridPlays. -/
set_option linter.unusedVariables false
set_option linter.unusedSimpArgs false
set_option maxRecDepth 10000
namespace Mu
theorem Rg.start {n : Nat} (h : n ≤ 4096) : Rg (List.replicate n noC) := by
  refine ⟨by simpa using h, fun v d hv hd => ?_⟩
  simp only [List.length_replicate] at hv
  have : gi (List.replicate n noC) v = noC := by rw [gi_eq (by simpa using hv)]; simp
  unfold Mu.nx
  rw [this]
  exact .inl (nx_noC hd).1
end Mu
/- Layer 10: a split edge. -/
set_option linter.unusedVariables false
set_option linter.unusedSimpArgs false
set_option maxRecDepth 10000
namespace Mu
end Mu
/- Layer 10: turned cells; what Split and Of answer. -/
set_option linter.unusedVariables false
set_option linter.unusedSimpArgs false
set_option maxRecDepth 10000
namespace Mu
end Mu
/- Layer 13: what hangs together, by steps. -/
set_option linter.unusedVariables false
set_option linter.unusedSimpArgs false
set_option maxRecDepth 10000
namespace Mu

theorem mRepeat {n : Nat} (h : n ≤ 64) : p_slices_Repeat_int [-1] n = some (List.replicate n (-1)) := by
  have key : ∀ n : Fin 65, p_slices_Repeat_int [-1] ((n : Nat) : Int) = some (List.replicate (n : Nat) (-1)) := by decide +kernel
  exact key ⟨n, by omega⟩

/-- Is there an edge from a to b? -/
def Adj (l : List T_api_Cell) (a b : Nat) : Prop := ∃ d, d < 4 ∧ nx l a d = b
/-- In so many steps. -/
inductive Rch (l : List T_api_Cell) (v : Nat) : Nat → Nat → Prop
  | zero : Rch l v 0 v
  | succ {n a b} : Rch l v n a → Adj l a b → Rch l v (n + 1) b
theorem Adj.lt {l : List T_api_Cell} (h : Ck l) {a b : Nat} (ha : a < l.length) (hab : Adj l a b) : b < l.length := by
  obtain ⟨d, hd, e⟩ := hab
  have := h.lt ha hd
  omega
theorem Adj.symm {l : List T_api_Cell} (h : Ck l) {a b : Nat} (ha : a < l.length) (hab : Adj l a b) : Adj l b a := by
  obtain ⟨d, hd, e⟩ := hab
  rcases h.s a d ha hd with ⟨e2, _⟩ | ⟨w, e2, _, _, e3, _⟩
  · omega
  · have : w = b := by omega
    subst this
    exact ⟨(d + 2) % 4, by omega, e3⟩
theorem Rch.lt {l : List T_api_Cell} (h : Ck l) {v n w : Nat} (hv : v < l.length) (hr : Rch l v n w) : w < l.length := by
  induction hr with
  | zero => exact hv
  | succ _ hab ih => exact hab.lt h ih
theorem Rch.trans {l : List T_api_Cell} {a b c n m : Nat} (h1 : Rch l a n b) (h2 : Rch l b m c) : Rch l a (n + m) c := by
  induction h2 with
  | zero => exact h1
  | succ _ hab ih => exact .succ ih hab
theorem Rch.symm {l : List T_api_Cell} (h : Ck l) {v n w : Nat} (hv : v < l.length) (hr : Rch l v n w) : Rch l w n v := by
  induction hr with
  | zero => exact .zero
  | succ hr hab ih =>
    have ha := hr.lt h hv
    have := (Rch.succ .zero (hab.symm h ha)).trans ih
    rw [Nat.zero_add, Nat.add_comm] at this
    exact this
/-- How far. -/
def Dist (l : List T_api_Cell) (v w n : Nat) : Prop := Rch l v n w ∧ ∀ m, Rch l v m w → n ≤ m
theorem Dist.uniq {l : List T_api_Cell} {v w n m : Nat} (h1 : Dist l v w n) (h2 : Dist l v w m) : n = m := by
  have := h1.2 m h2.1
  have := h2.2 n h1.1
  omega
theorem Dist.symm {l : List T_api_Cell} (h : Ck l) {v w n : Nat} (hv : v < l.length) (hd : Dist l v w n) : Dist l w v n :=
  ⟨hd.1.symm h hv, fun m hm => hd.2 m (hm.symm h (hd.1.lt h hv))⟩
/-- One step ahead. -/
theorem Dist.pred {l : List T_api_Cell} {v w n : Nat} (hd : Dist l v w (n + 1)) : ∃ a, Dist l v a n ∧ Adj l a w := by
  obtain ⟨h1, h2⟩ := hd
  cases h1 with
  | succ hr hab =>
    refine ⟨_, ⟨hr, fun m hm => ?_⟩, hab⟩
    have := h2 (m + 1) (.succ hm hab)
    omega
/-- Different things, few places. -/
theorem pigeon : ∀ {n m : Nat} (f : Nat → Nat), (∀ i, i < n → f i < m) → (∀ i j, i < n → j < n → f i = f j → i = j) → n ≤ m
  | 0, m, f, _, _ => Nat.zero_le _
  | n + 1, 0, f, h, _ => absurd (h 0 (by omega)) (by omega)
  | n + 1, m + 1, f, h, hi => by
    have := pigeon (n := n) (m := m) (fun i => if f i = m then f n else f i) (fun i hi' => by
      by_cases c : f i = m
      · rw [if_pos c]
        have := h n (by omega)
        by_cases c2 : f n = m
        · have := hi i n (by omega) (by omega) (by omega); omega
        · omega
      · rw [if_neg c]
        have := h i (by omega)
        omega) (fun i j hi' hj' e => by
      by_cases c : f i = m <;> by_cases c2 : f j = m
      · exact hi i j (by omega) (by omega) (by omega)
      · rw [if_pos c, if_neg c2] at e
        have := hi n j (by omega) (by omega) e; omega
      · rw [if_neg c, if_pos c2] at e
        have := hi i n (by omega) (by omega) e; omega
      · rw [if_neg c, if_neg c2] at e
        exact hi i j (by omega) (by omega) e)
    omega
theorem Dist.all {l : List T_api_Cell} {v w : Nat} : ∀ n, Dist l v w n → ∀ m, m ≤ n → ∃ a, Dist l v a m
  | 0, h, m, hm => ⟨w, by rw [show m = 0 by omega]; exact h⟩
  | n + 1, h, m, hm => by
    by_cases c : m = n + 1
    · exact ⟨w, by rw [c]; exact h⟩
    · obtain ⟨a, ha, _⟩ := h.pred
      exact Dist.all n ha m (by omega)
/-- No path is longer than there are cells. -/
theorem Dist.lt {l : List T_api_Cell} (h : Ck l) {v w n : Nat} (hv : v < l.length) (hd : Dist l v w n) : n < l.length := by
  have hall := fun m (hm : m < n + 1) => hd.all n m (by omega)
  have := pigeon (n := n + 1) (m := l.length) (fun m => if hm : m < n + 1 then (hall m hm).choose else 0) (fun i hi => by
    rw [dif_pos hi]
    exact (hall i hi).choose_spec.1.lt h hv) (fun i j hi hj e => by
    rw [dif_pos hi, dif_pos hj] at e
    have d1 := (hall i hi).choose_spec
    have d2 := (hall j hj).choose_spec
    rw [e] at d1
    exact d1.uniq d2)
  omega
end Mu
/- Layer 13: spread. -/
set_option linter.unusedVariables false
set_option linter.unusedSimpArgs false
set_option maxRecDepth 10000
namespace Mu

structure So (l : List T_api_Cell) (v : Nat) (δ : Nat → Nat) (q : List Int) (mt : List Bool) : Prop where
  el : ∀ x ∈ q, ∃ a : Nat, x = a ∧ a < l.length ∧ gi mt a = true
  so : q.Pairwise fun x y => δ x.toNat ≤ δ y.toNat ∧ δ y.toNat ≤ δ x.toNat + 1
  pr : ∀ a : Nat, gi mt a = true → (a : Int) ∉ q → (∀ x ∈ q, δ a ≤ δ x.toNat) ∧ ∀ b, Adj l a b → gi mt b = true ∧ δ b ≤ δ a + 1
structure Si (l : List T_api_Cell) (v h : Nat) (δ : Nat → Nat) (q : List Int) (mt : List Bool) (d : Nat) : Prop where
  hm : gi mt h = true
  el : ∀ x ∈ q, ∃ a : Nat, x = a ∧ a < l.length ∧ gi mt a = true ∧ δ h ≤ δ a ∧ δ a ≤ δ h + 1
  so : q.Pairwise fun x y => δ x.toNat ≤ δ y.toNat
  pr : ∀ a : Nat, gi mt a = true → (a : Int) ∉ q → a ≠ h → δ a ≤ δ h ∧ ∀ b, Adj l a b → gi mt b = true ∧ δ b ≤ δ a + 1
  hd : ∀ e, e < d → ∀ b : Nat, nx l h e = b → gi mt b = true ∧ δ b ≤ δ h + 1
theorem So.open {l : List T_api_Cell} {v h : Nat} {δ : Nat → Nat} {t : List Int} {mt : List Bool} (s : So l v δ ((h : Int) :: t) mt) : Si l v h δ t mt 0 := by
  have hs := List.pairwise_cons.1 s.so
  refine ⟨?_, fun x hx => ?_, hs.2.imp (fun h => h.1), fun a ha hn hne => ?_, fun e he => by omega⟩
  · obtain ⟨a, e, _, hh⟩ := s.el _ List.mem_cons_self
    obtain rfl : h = a := by omega
    exact hh
  · obtain ⟨a, e, h1, h2⟩ := s.el x (List.mem_cons_of_mem _ hx)
    have := hs.1 x hx
    subst e
    exact ⟨a, rfl, h1, h2, by simpa using this.1, by simpa using this.2⟩
  · have := s.pr a ha (by
      rw [List.mem_cons]
      rintro (h | h)
      · omega
      · exact hn h)
    exact ⟨by simpa using this.1 _ List.mem_cons_self, this.2⟩
theorem Si.skip {l : List T_api_Cell} {v h d : Nat} {δ : Nat → Nat} {q : List Int} {mt : List Bool} (s : Si l v h δ q mt d) (hs : ∀ w : Nat, nx l h d = w → gi mt w = true) : Si l v h δ q mt (d + 1) := by
  refine ⟨s.hm, s.el, s.so, s.pr, fun e he b hb => ?_⟩
  by_cases c : e = d
  · subst c
    have hm := hs b hb
    refine ⟨hm, ?_⟩
    by_cases c1 : (b : Int) ∈ q
    · obtain ⟨a, e, _, _, _, h4⟩ := s.el _ c1
      have : b = a := by omega
      subst this; exact h4
    · by_cases c2 : b = h
      · subst c2; omega
      · have := (s.pr b hm c1 c2).1
        omega
  · exact s.hd e (by omega) b hb
end Mu
/- Layer 13: spread, walked. -/
set_option linter.unusedVariables false
set_option linter.unusedSimpArgs false
set_option maxRecDepth 10000
namespace Mu

end Mu
/- Layer 13: far. -/
set_option linter.unusedVariables false
set_option linter.unusedSimpArgs false
set_option maxRecDepth 10000
namespace Mu

end Mu
/- Layer 13: paths. -/
set_option linter.unusedVariables false
set_option linter.unusedSimpArgs false
set_option maxRecDepth 10000
namespace Mu

end Mu
/- Layer 13: there and back. -/
set_option linter.unusedVariables false
set_option linter.unusedSimpArgs false
set_option maxRecDepth 10000
namespace Mu
theorem okZ {z : T_muntinref10_Places} (m1 : z.At.length ≤ Go.maxLen) (b1 : ∀ y ∈ z.At, Ok_u8 y) (b3 : ∀ y ∈ z.Own, Ok_i8 y) : OkZ z :=
  ⟨by unfold Go.maxLen at m1; omega, b1, b3⟩
end Mu
/- Layer 13: join's paths. -/
set_option linter.unusedVariables false
set_option linter.unusedSimpArgs false
set_option maxRecDepth 10000
namespace Mu
end Mu
/- Layer 13: join's parts. -/
set_option linter.unusedVariables false
set_option linter.unusedSimpArgs false
set_option maxRecDepth 10000
namespace Mu
end Mu
/- Layer 13: the document's parts, and the law. -/
set_option linter.unusedVariables false
set_option linter.unusedSimpArgs false
set_option maxRecDepth 10000
namespace Mu
end Mu
/- Layer 13: JoinTurns. -/
set_option linter.unusedVariables false
set_option linter.unusedSimpArgs false
set_option maxRecDepth 10000
namespace Mu
/-! the split edge -/
def ext (v u : Int) (p : List Int) : List Int := if v ∈ p then p ++ [u] else p
end Mu
/- Layer 16: straight chains of cells. -/
set_option linter.unusedVariables false
set_option linter.unusedSimpArgs false
set_option maxRecDepth 10000
namespace Mu
theorem Ck.back {l : List T_api_Cell} (h : Ck l) {v d w : Nat} (hv : v < l.length) (hd : d < 4) (hw : nx l v d = w) : w < l.length ∧ nx l w ((d + 2) % 4) = v := by
  rcases h.s v d hv hd with ⟨a, _⟩ | ⟨u, a, b, _, c, _⟩
  · omega
  · have : w = u := by omega
    subst this; exact ⟨b, c⟩
/-- A straight chain, from where it begins to where it ends. -/
structure IsCh (l : List T_api_Cell) (d : Nat) (C : List Int) : Prop where
  ne : 0 < C.length
  lt : ∀ i, i < C.length → 0 ≤ gi C i ∧ gi C i < l.length
  nxt : ∀ i, i + 1 < C.length → nx l (gi C i).toNat d = gi C (i + 1)
  fin : nx l (gi C (C.length - 1)).toNat d = -1
  beg : nx l (gi C 0).toNat ((d + 2) % 4) = -1
theorem IsCh.bk {l : List T_api_Cell} (hc : Ck l) {d : Nat} (hd : d < 4) {C : List Int} (h : IsCh l d C) {i : Nat} (hi : i + 1 < C.length) : nx l (gi C (i + 1)).toNat ((d + 2) % 4) = gi C i := by
  have a := h.lt i (by omega)
  have b := h.lt (i + 1) hi
  have := (hc.back (v := (gi C i).toNat) (d := d) (w := (gi C (i + 1)).toNat) (by omega) hd (by rw [h.nxt i hi]; omega)).2
  rw [this]; omega
theorem IsCh.at0 {l : List T_api_Cell} (hc : Ck l) {d : Nat} (hd : d < 4) {C C' : List Int} (h : IsCh l d C) (h' : IsCh l d C') : ∀ i j, i < C.length → j < C'.length → gi C i = gi C' j → i = j ∧ gi C 0 = gi C' 0
  | 0, 0, _, _, e => ⟨rfl, e⟩
  | 0, j + 1, _, hj, e => by
    have a := h'.bk hc hd hj
    have b := h.beg
    rw [e, a] at b
    have := h'.lt j (by omega)
    omega
  | i + 1, 0, hi, _, e => by
    have a := h.bk hc hd hi
    have b := h'.beg
    rw [← e, a] at b
    have := h.lt i (by omega)
    omega
  | i + 1, j + 1, hi, hj, e => by
    have a := h.bk hc hd hi
    have b := h'.bk hc hd hj
    rw [e, b] at a
    obtain ⟨q, r⟩ := IsCh.at0 hc hd h h' i j (by omega) (by omega) a.symm
    exact ⟨by omega, r⟩
theorem IsCh.uniq0 {l : List T_api_Cell} {d : Nat} {C C' : List Int} (h : IsCh l d C) (h' : IsCh l d C') (h0 : gi C 0 = gi C' 0) : C = C' := by
  have key : ∀ {C C' : List Int}, IsCh l d C → IsCh l d C' → gi C 0 = gi C' 0 → ∀ k, k < C.length → k < C'.length ∧ gi C k = gi C' k := by
    intro C C' h h' h0 k
    induction k with
    | zero => intro _; exact ⟨h'.ne, h0⟩
    | succ k ih =>
      intro hk
      obtain ⟨a, b⟩ := ih (by omega)
      have n := h.nxt k hk
      have q := h.lt (k + 1) hk
      by_cases c : k + 1 < C'.length
      · refine ⟨c, ?_⟩
        rw [← n, ← h'.nxt k c, b]
      · have f := h'.fin
        rw [show C'.length - 1 = k by omega, ← b, n] at f
        omega
  have k1 := key h h' h0
  have k2 := key h' h h0.symm
  have hl : C.length = C'.length := by
    have a := h.ne
    have b := h'.ne
    have := (k1 (C.length - 1) (by omega)).1
    have := (k2 (C'.length - 1) (by omega)).1
    omega
  exact list_ext hl fun i hi => (k1 i hi).2
theorem IsCh.uniq {l : List T_api_Cell} (hc : Ck l) {d : Nat} (hd : d < 4) {C C' : List Int} (h : IsCh l d C) (h' : IsCh l d C') {v : Int} (hv : v ∈ C) (hv' : v ∈ C') : C = C' := by
  obtain ⟨i, hi, rfl⟩ := List.mem_iff_getElem.1 hv
  obtain ⟨j, hj, e⟩ := List.mem_iff_getElem.1 hv'
  exact h.uniq0 h' (h.at0 hc hd h' i j hi hj (by rw [gi_eq hi, gi_eq hj]; exact e.symm)).2
theorem IsCh.len {l : List T_api_Cell} (hc : Ck l) {d : Nat} (hd : d < 4) {C : List Int} (h : IsCh l d C) : C.length ≤ l.length := by
  refine pigeon (fun i => (gi C i).toNat) (fun i hi => ?_) (fun i j hi hj e => ?_)
  · have := h.lt i hi; show (gi C i).toNat < l.length; omega
  · have a := h.lt i hi
    have b := h.lt j hj
    have e : (gi C i).toNat = (gi C j).toNat := e
    exact (h.at0 hc hd h i j hi hj (by omega)).1
theorem least_of {P : Nat → Prop} : ∀ k, P k → ∃ k, P k ∧ ∀ i, i < k → ¬ P i := by
  intro k
  induction k using Nat.strongRecOn with
  | _ k ih =>
    intro h
    by_cases c : ∃ i, i < k ∧ P i
    · obtain ⟨i, hi, hp⟩ := c
      exact ih i hi hp
    · exact ⟨k, h, fun i hi hp => c ⟨i, hi, hp⟩⟩
/-- So many steps on. -/
def fwd (l : List T_api_Cell) (d r : Nat) : Nat → Int
  | 0 => r
  | n + 1 => if 0 ≤ fwd l d r n then nx l (fwd l d r n).toNat d else -1
theorem chain_of {l : List T_api_Cell} (hc : Ck l) {d r : Nat} (hd : d < 4) (hr : r < l.length) (hb : nx l r ((d + 2) % 4) = -1) : ∃ C, IsCh l d C ∧ gi C 0 = r := by
  have step : ∀ n, 0 ≤ fwd l d r n → fwd l d r (n + 1) = nx l (fwd l d r n).toNat d := fun n h => by rw [fwd, if_pos h]
  have pre : ∀ n, 0 ≤ fwd l d r (n + 1) → 0 ≤ fwd l d r n := by
    intro n h
    by_cases c : 0 ≤ fwd l d r n
    · exact c
    · rw [fwd, if_neg c] at h; omega
  have lt : ∀ n, 0 ≤ fwd l d r n → fwd l d r n < l.length := by
    intro n
    induction n with
    | zero => intro _; show (r : Int) < l.length; omega
    | succ n ih =>
      intro h
      have c := pre n h
      have := ih c
      rw [step n c]
      exact (hc.lt (by omega) hd).2
  have bkw : ∀ n, 0 ≤ fwd l d r (n + 1) → nx l (fwd l d r (n + 1)).toNat ((d + 2) % 4) = fwd l d r n := by
    intro n h
    have c := pre n h
    have a := lt n c
    have b := lt (n + 1) h
    have := (hc.back (v := (fwd l d r n).toNat) (d := d) (w := (fwd l d r (n + 1)).toNat) (by omega) hd (by rw [← step n c]; omega)).2
    rw [this]; omega
  have z : fwd l d r 0 = r := rfl
  have inj : ∀ i j, 0 ≤ fwd l d r i → 0 ≤ fwd l d r j → fwd l d r i = fwd l d r j → i = j := by
    intro i
    induction i with
    | zero =>
      intro j _ hj e
      cases j with
      | zero => rfl
      | succ j =>
        have := bkw j hj
        rw [← e, z, Int.toNat_natCast, hb] at this
        have := pre j hj
        omega
    | succ i ih =>
      intro j hi hj e
      cases j with
      | zero =>
        have := bkw i hi
        rw [e, z, Int.toNat_natCast, hb] at this
        have := pre i hi
        omega
      | succ j =>
        have a := bkw i hi
        have b := bkw j hj
        rw [e, b] at a
        have := ih j (pre i hi) (pre j hj) a.symm
        omega
  have ex : ∃ k, fwd l d r k < 0 := by
    refine Classical.byContradiction fun hn => ?_
    have all : ∀ k, 0 ≤ fwd l d r k := fun k => by
      by_cases c : 0 ≤ fwd l d r k
      · exact c
      · exact absurd ⟨k, by omega⟩ hn
    have := pigeon (n := l.length + 1) (m := l.length) (fun i => (fwd l d r i).toNat) (fun i _ => by
      have := lt i (all i); have := all i
      show (fwd l d r i).toNat < l.length; omega) (fun i j _ _ e => inj i j (all i) (all j) (by
      have e : (fwd l d r i).toNat = (fwd l d r j).toNat := e
      have := all i; have := all j
      omega))
    omega
  obtain ⟨k0, hk0⟩ := ex
  obtain ⟨k, hk, hm⟩ := least_of (P := fun k => fwd l d r k < 0) k0 hk0
  have hpos : 0 < k := by
    cases k with
    | zero => rw [z] at hk; omega
    | succ k => omega
  have g : ∀ i, i < k → gi ((List.range k).map (fwd l d r)) i = fwd l d r i := fun i hi => gi_map_range hi
  have hlen : ((List.range k).map (fwd l d r)).length = k := by simp
  have ge : ∀ i, i < k → 0 ≤ fwd l d r i := fun i hi => by have := hm i hi; omega
  refine ⟨(List.range k).map (fwd l d r), ⟨by omega, fun i hi => ?_, fun i hi => ?_, ?_, ?_⟩, ?_⟩
  · rw [hlen] at hi
    rw [g i hi]; exact ⟨ge i hi, lt i (ge i hi)⟩
  · rw [hlen] at hi
    rw [g i (by omega), g (i + 1) hi, step i (ge i (by omega))]
  · rw [hlen, g _ (by omega), ← step _ (ge _ (by omega)), show k - 1 + 1 = k by omega]
    have := ge (k - 1) (by omega)
    have a := step (k - 1) this
    rw [show k - 1 + 1 = k by omega] at a
    have := lt (k - 1) this
    have := hc.lt (l := l) (v := (fwd l d r (k - 1)).toNat) (d := d) (by omega) hd
    omega
  · rw [g 0 hpos, z, Int.toNat_natCast]; exact hb
  · rw [g 0 hpos, z]
/-- Where one's chain begins. -/
def rootF (l : List T_api_Cell) (b : Nat) : Nat → Nat → Option Nat
  | 0, _ => none
  | n + 1, v => if nx l v b < 0 then some v else rootF l b n (nx l v b).toNat
theorem root_of_ch {l : List T_api_Cell} (hc : Ck l) {d : Nat} (hd : d < 4) {C : List Int} (h : IsCh l d C) : ∀ i m, i < C.length → i < m → rootF l ((d + 2) % 4) m (gi C i).toNat = some (gi C 0).toNat
  | 0, m + 1, _, _ => by rw [rootF, h.beg, if_pos (by omega)]
  | i + 1, m + 1, hi, hm => by
    have := h.lt i (by omega)
    rw [rootF, h.bk hc hd hi, if_neg (by omega)]
    exact root_of_ch hc hd h i m (by omega) (by omega)
theorem ch_of_root {l : List T_api_Cell} (hc : Ck l) {d : Nat} (hd : d < 4) : ∀ m v r, v < l.length → rootF l ((d + 2) % 4) m v = some r → ∃ C, IsCh l d C ∧ gi C 0 = r ∧ ∃ i, i < C.length ∧ gi C i = v
  | 0, v, r, _, h => by cases h
  | m + 1, v, r, hv, h => by
    have hb := hc.lt hv (d := (d + 2) % 4) (by omega)
    rw [rootF] at h
    by_cases c : nx l v ((d + 2) % 4) < 0
    · rw [if_pos c] at h
      cases h
      obtain ⟨C, hC, h0⟩ := chain_of hc hd hv (by omega)
      exact ⟨C, hC, h0, 0, hC.ne, h0⟩
    · rw [if_neg c] at h
      have bk := hc.back (v := v) (d := (d + 2) % 4) (w := (nx l v ((d + 2) % 4)).toNat) hv (by omega) (by omega)
      rw [show ((d + 2) % 4 + 2) % 4 = d by omega] at bk
      obtain ⟨C, hC, h0, i, hi, e⟩ := ch_of_root hc hd m _ r (by omega) h
      have n : nx l (gi C i).toNat d = v := by rw [e, Int.toNat_natCast]; exact bk.2
      by_cases q : i + 1 < C.length
      · exact ⟨C, hC, h0, i + 1, q, by rw [← hC.nxt i q]; exact n⟩
      · have f := hC.fin
        rw [show C.length - 1 = i by omega, n] at f
        omega
/-- Each cell is on a chain. -/
def AllCh (l : List T_api_Cell) (d : Nat) : Prop := ∀ v : Nat, v < l.length → ∃ C, IsCh l d C ∧ (v : Int) ∈ C
theorem AllCh.root {l : List T_api_Cell} (hc : Ck l) {d : Nat} (hd : d < 4) (h : AllCh l d) {v : Nat} (hv : v < l.length) : ∃ r C, rootF l ((d + 2) % 4) (l.length + 1) v = some r ∧ IsCh l d C ∧ gi C 0 = r ∧ (v : Int) ∈ C := by
  obtain ⟨C, hC, hm⟩ := h v hv
  obtain ⟨i, hi, e⟩ := List.mem_iff_getElem.1 hm
  have := hC.len hc hd
  have r := root_of_ch hc hd hC i (l.length + 1) hi (by omega)
  rw [gi_eq hi, e, Int.toNat_natCast] at r
  have := hC.lt 0 hC.ne
  exact ⟨_, C, r, hC, by omega, hm⟩
theorem not_AllCh {l : List T_api_Cell} (hc : Ck l) {d : Nat} (hd : d < 4) (h : ¬ AllCh l d) : ∃ v, v < l.length ∧ rootF l ((d + 2) % 4) (l.length + 1) v = none := by
  refine Classical.byContradiction fun hn => h fun v hv => ?_
  cases r : rootF l ((d + 2) % 4) (l.length + 1) v with
  | none => exact absurd ⟨v, hv, r⟩ hn
  | some r' =>
    obtain ⟨C, hC, h0, i, hi, e⟩ := ch_of_root hc hd _ v r' hv r
    exact ⟨C, hC, by rw [← e]; exact gi_mem hi⟩
/-- The chains, and of each cell which. -/
structure CH (l : List T_api_Cell) (d : Nat) (a : List Int) (L : List (List Int)) : Prop where
  alen : a.length = l.length
  ch : ∀ i, i < L.length → IsCh l d (gi L i)
  mem : ∀ u : Nat, u < l.length → ∃ i : Nat, i < L.length ∧ gi a u = i ∧ (u : Int) ∈ gi L i
  one : ∀ i u : Nat, i < L.length → u < l.length → (u : Int) ∈ gi L i → gi a u = i
  seen : ∀ i : Nat, i < L.length → ∃ u, u < l.length ∧ gi a u = i
  ord : ∀ u i : Nat, u < l.length → gi a u = i + 1 → ∃ u', u' < u ∧ gi a u' = i
  Ll : L.length ≤ l.length
theorem ord_dn {n : Nat} {a : List Int} (ord : ∀ u i : Nat, u < n → gi a u = i + 1 → ∃ u', u' < u ∧ gi a u' = i) : ∀ (k u i : Nat), u < n → gi a u = i + (k + 1 : Nat) → ∃ u', u' < u ∧ gi a u' = i
  | 0, u, i, hu, e => ord u i hu (by omega)
  | k + 1, u, i, hu, e => by
    obtain ⟨u', h1, h2⟩ := ord u (i + (k + 1)) hu (by omega)
    obtain ⟨u'', h3, h4⟩ := ord_dn ord k u' i (by omega) (by omega)
    exact ⟨u'', by omega, h4⟩
theorem ord_eq {n : Nat} {a a' : List Int} (p : ∀ u : Nat, u < n → ∃ i : Nat, gi a u = i) (p' : ∀ u : Nat, u < n → ∃ i : Nat, gi a' u = i) (o : ∀ u i : Nat, u < n → gi a u = i + 1 → ∃ u', u' < u ∧ gi a u' = i) (o' : ∀ u i : Nat, u < n → gi a' u = i + 1 → ∃ u', u' < u ∧ gi a' u' = i)
    (h : ∀ u v : Nat, u < n → v < n → (gi a u = gi a v ↔ gi a' u = gi a' v)) : ∀ v : Nat, v < n → gi a v = gi a' v := by
  intro v
  induction v using Nat.strongRecOn with
  | _ v ih =>
    intro hv
    obtain ⟨i, hi⟩ := p v hv
    obtain ⟨j, hj⟩ := p' v hv
    by_cases c : i = j
    · rw [hi, hj, c]
    · by_cases q : i < j
      · obtain ⟨u, h1, h2⟩ := ord_dn o' (j - i - 1) v i hv (by omega)
        have := ih u h1 (by omega)
        have := (h u v (by omega) hv).1 (by omega)
        omega
      · obtain ⟨u, h1, h2⟩ := ord_dn o (i - j - 1) v j hv (by omega)
        have := ih u h1 (by omega)
        have := (h u v (by omega) hv).2 (by omega)
        omega
/-- Chains that have the same cells are told alike. -/
theorem CH.eq {l m : List T_api_Cell} {d e : Nat} {a a' : List Int} {L L' : List (List Int)} (h : CH l d a L) (h' : CH m e a' L') (hn : l.length = m.length) (f : List Int → List Int) (hf : ∀ C C' v, IsCh l d C → IsCh m e C' → v ∈ C → v ∈ C' → C' = f C) (hm : ∀ C v, v ∈ f C ↔ v ∈ C) : a = a' ∧ L' = L.map f := by
  have key : ∀ u v : Nat, u < l.length → v < l.length → (gi a u = gi a v ↔ gi a' u = gi a' v) := by
    intro u v hu hv
    obtain ⟨i, i1, i2, i3⟩ := h.mem u hu
    obtain ⟨j, j1, j2, j3⟩ := h'.mem u (by omega)
    have e := hf _ _ _ (h.ch i i1) (h'.ch j j1) i3 j3
    constructor
    · intro q
      obtain ⟨k, k1, k2, k3⟩ := h.mem v hv
      have : k = i := by omega
      subst this
      have := h'.one j v j1 (by omega) (by rw [e]; exact (hm _ _).2 k3)
      omega
    · intro q
      obtain ⟨k, k1, k2, k3⟩ := h'.mem v (by omega)
      have : k = j := by omega
      subst this
      rw [e] at k3
      have := h.one i v i1 hv ((hm _ _).1 k3)
      omega
  have ae : ∀ v : Nat, v < l.length → gi a v = gi a' v := ord_eq (n := l.length) (fun u hu => by obtain ⟨i, _, e, _⟩ := h.mem u hu; exact ⟨i, e⟩) (fun u hu => by obtain ⟨i, _, e, _⟩ := h'.mem u (by omega); exact ⟨i, e⟩) h.ord (fun u i hu => h'.ord u i (by omega)) key
  refine ⟨list_ext (by rw [h.alen, h'.alen, hn]) fun i hi => ae i (by rw [h.alen] at hi; exact hi), ?_⟩
  have ll : L'.length = L.length := by
    have A : ∀ i, i < L.length → i < L'.length := by
      intro i hi
      obtain ⟨u, hu, e⟩ := h.seen i hi
      obtain ⟨j, j1, j2, _⟩ := h'.mem u (by omega)
      have := ae u hu
      omega
    have B : ∀ i, i < L'.length → i < L.length := by
      intro i hi
      obtain ⟨u, hu, e⟩ := h'.seen i hi
      obtain ⟨j, j1, j2, _⟩ := h.mem u (by omega)
      have := ae u (by omega)
      omega
    have a1 := A (L.length - 1)
    have b1 := B (L'.length - 1)
    omega
  apply list_ext (by rw [ll, List.length_map])
  intro i hi
  have hi' : i < L.length := by omega
  obtain ⟨u, hu, e⟩ := h.seen i hi'
  obtain ⟨k, k1, k2, k3⟩ := h.mem u hu
  obtain ⟨j, j1, j2, j3⟩ := h'.mem u (by omega)
  have := ae u hu
  have ek : k = i := by omega
  have ej : j = i := by omega
  subst ek; subst ej
  rw [hf _ _ _ (h.ch _ hi') (h'.ch _ hi) k3 j3, gi_eq (l := L.map f) (by simpa using hi'), gi_eq hi', List.getElem_map]
end Mu
/- Layer 16: what the chains' code works out. -/
set_option linter.unusedVariables false
set_option linter.unusedSimpArgs false
set_option maxRecDepth 10000
namespace Mu
theorem sRoot {l : List T_api_Cell} (hc : Ck l) (hl : l.length ≤ 1000) {b : Nat} (hb : b < 4) : ∀ (m u j : Nat), j + m = l.length → u < l.length → loopF (p_seg_chains.s1 l b) (m + 1) ((u : Int), (j : Int)) = some (match rootF l b (m + 1) u with | some r => .inl (r : Int) | none => .inr ()) := by
  intro m
  induction m with
  | zero =>
    intro u j hj hu
    have e : (gi l u).Next.get (b : Int) = nx l u b := rfl
    simp only [loopF, p_seg_chains.s1, rootF]
    rw [ck_pos (by omega), ck_pos (by omega), Int.toNat_natCast, e]
    by_cases c : nx l u b < 0
    · rw [ifd_neg (by omega), if_pos c]
    · rw [ifd_pos (by omega), ifd_pos (by omega), if_neg c]
  | succ m ih =>
    intro u j hj hu
    have e : (gi l u).Next.get (b : Int) = nx l u b := rfl
    have hlt := hc.lt hu hb
    rw [loopF, rootF]
    simp only [p_seg_chains.s1]
    rw [ck_pos (by omega), ck_pos (by omega), Int.toNat_natCast, e]
    by_cases c : nx l u b < 0
    · rw [ifd_neg (by omega), if_pos c]
    · rw [ifd_pos (by omega), ifd_neg (by omega), ckI64 (by omega), if_neg c]
      have := ih (nx l u b).toNat (j + 1) (by omega) (by omega)
      rw [show ((nx l u b).toNat : Int) = nx l u b by omega, show ((j + 1 : Nat) : Int) = (j : Int) + 1 by omega] at this
      exact this
theorem sRootBig {l : List T_api_Cell} (hc : Ck l) (hl : l.length ≤ 1000) {b v : Nat} (hb : b < 4) (hv : v < l.length) : loopF (p_seg_chains.s1 l b) big ((v : Int), 0) = some (match rootF l b (l.length + 1) v with | some r => .inl (r : Int) | none => .inr ()) := by
  have := sRoot hc hl hb l.length v 0 (by omega) hv
  exact loopF_le this (by unfold big; omega)
theorem rRoot {l : List T_api_Cell} (hc : Ck l) (hl : l.length ≤ 1000) {d : Nat} (hd : d < 4) : ∀ (m u j : Nat), j + m = l.length + 1 → u < l.length → loopF (p_muntinref16_First.s0 l d) (m + 1) ((u : Int), (j : Int)) = some (match rootF l ((d + 2) % 4) m u with | some r => .inr (r : Int) | none => .inl ()) := by
  have hbk : (((d : Int) + 2).tmod 4) = (((d + 2) % 4 : Nat) : Int) := by
    match d, hd with
    | 0, _ | 1, _ | 2, _ | 3, _ => rfl
  intro m
  induction m with
  | zero =>
    intro u j hj hu
    simp only [loopF, p_muntinref16_First.s0, rootF]
    rw [ifd_neg (by omega)]
  | succ m ih =>
    intro u j hj hu
    have e : (gi l u).Next.get (((d + 2) % 4 : Nat) : Int) = nx l u ((d + 2) % 4) := rfl
    have hlt := hc.lt (d := (d + 2) % 4) hu (by omega)
    rw [loopF, rootF]
    simp only [p_muntinref16_First.s0]
    rw [ifd_pos (by omega), ckI64 (by omega), ck_pos (by omega), hbk, ck_pos (by omega), Int.toNat_natCast, e]
    by_cases c : nx l u ((d + 2) % 4) < 0
    · rw [ifd_pos c, if_pos c]
    · rw [ifd_neg c, ckI64 (by omega), if_neg c]
      have := ih (nx l u ((d + 2) % 4)).toNat (j + 1) (by omega) (by omega)
      rw [show ((nx l u ((d + 2) % 4)).toNat : Int) = nx l u ((d + 2) % 4) by omega, show ((j + 1 : Nat) : Int) = (j : Int) + 1 by omega] at this
      exact this
theorem mFirst {l : List T_api_Cell} (hc : Ck l) (hl : l.length ≤ 1000) {d v : Nat} (hd : d < 4) (hv : v < l.length) : p_muntinref16_First l v d = some (match rootF l ((d + 2) % 4) (l.length + 1) v with | some r => (r : Int) | none => -1) := by
  have := loopF_le (rRoot hc hl hd (l.length + 1) v 0 (by omega) hv) (m := big) (by unfold big; omega)
  unfold p_muntinref16_First
  rw [show (0 : Int) = ((0 : Nat) : Int) from rfl, this, Option.bind_some]
  cases rootF l ((d + 2) % 4) (l.length + 1) v <;> rfl
theorem gi_end {C : List Int} {i : Nat} (hi : i < C.length) : gi (C ++ [-1]) i = gi C i := gi_append_left hi
theorem gi_end1 {C : List Int} : gi (C ++ [-1]) C.length = -1 := by
  have := gi_append_right (l := C) (m := [(-1 : Int)]) (i := 0)
  rwa [Nat.add_zero] at this
theorem ch_next {l : List T_api_Cell} {d : Nat} {C : List Int} (h : IsCh l d C) {i : Nat} (hi : i < C.length) : nx l (gi C i).toNat d = gi (C ++ [-1]) (i + 1) := by
  by_cases c : i + 1 < C.length
  · rw [gi_end c]; exact h.nxt i c
  · have e : i + 1 = C.length := by omega
    rw [e, gi_end1]
    have := h.fin
    rwa [show C.length - 1 = i by omega] at this
theorem sChain {l : List T_api_Cell} (hl : l.length ≤ 1000) {d : Nat} (hd : d < 4) {C : List Int} (h : IsCh l d C) (hCl : C.length ≤ l.length) {a : List Int} (ha : a.length = l.length) {L : List (List Int)} : ∃ r, loopF (p_seg_chains.s2 l d L) big (a, ([] : List Int), gi C 0) = some r ∧ (r.2 = C ∧ r.1.length = l.length ∧ ∀ u : Nat, u < l.length → gi r.1 u = if (u : Int) ∈ C then (L.length : Int) else gi a u) := by
  refine loop_inv (fun (k : Nat) (s : List Int × List Int × Int) => s.2.1 = C.take k ∧ s.2.2 = gi (C ++ [-1]) k ∧ s.1.length = l.length ∧ ∀ u : Nat, u < l.length → gi s.1 u = if (u : Int) ∈ C.take k then (L.length : Int) else gi a u) (n := C.length) (big_lt (by omega)) ⟨by simp, (gi_end h.ne).symm, ha, fun u hu => by simp⟩ ?_ ?_
  · rintro k ⟨a', c, w⟩ hk ⟨h1, h2, h3, h4⟩
    dsimp only at h1 h2 h3 h4 ⊢
    subst h1
    rw [gi_end hk] at h2
    subst h2
    have hlt := h.lt k hk
    have e : (gi l (gi C k).toNat).Next.get (d : Int) = nx l (gi C k).toNat d := rfl
    simp only [p_seg_chains.s2]
    rw [ifd_pos (by omega), ck_pos (by omega), ck_pos (by rw [List.length_take]; simp; omega), ck_pos (by omega), ck_pos (by omega), e, ch_next h hk]
    refine ⟨_, rfl, by dsimp only; rw [take_gi hk], rfl, by rw [List.length_set]; exact h3, fun u hu => ?_⟩
    dsimp only
    have hmem : (u : Int) ∈ C.take k ++ [gi C k] ↔ ((u : Int) ∈ C.take k ∨ (u : Int) = gi C k) := by rw [List.mem_append, List.mem_singleton]
    rw [gi_set (by omega), h4 u hu, take_gi hk]
    by_cases q : u = (gi C k).toNat
    · rw [if_pos q, if_pos (hmem.2 (.inr (by omega)))]
    · rw [if_neg q]
      by_cases q2 : (u : Int) ∈ C.take k
      · rw [if_pos q2, if_pos (hmem.2 (.inl q2))]
      · rw [if_neg q2, if_neg (fun h => by rcases hmem.1 h with q3 | q3; exact q2 q3; omega)]
  · rintro ⟨a', c, w⟩ ⟨h1, h2, h3, h4⟩
    dsimp only at h1 h2 h3 h4 ⊢
    subst h1
    rw [gi_end1] at h2
    subst h2
    simp only [p_seg_chains.s2]
    rw [ifd_neg (by omega)]
    rw [List.take_length] at h4 ⊢
    exact ⟨_, rfl, rfl, h3, h4⟩
theorem rChain {l : List T_api_Cell} (hl : l.length ≤ 1000) {d : Nat} (hd : d < 4) {C : List Int} (h : IsCh l d C) (hCl : C.length ≤ l.length) : loopF (p_muntinref16_chains.s2 l d) big (([] : List Int), gi C 0) = some C := by
  refine loop_to (fun k : Nat => (C.take k, gi (C ++ [-1]) k)) (n := C.length) (big_lt (by omega)) (by rw [gi_end h.ne]; rfl) (fun k hk => ?_) ?_
  · have hlt := h.lt k hk
    have e : (gi l (gi C k).toNat).Next.get (d : Int) = nx l (gi C k).toNat d := rfl
    simp only [p_muntinref16_chains.s2]
    rw [gi_end hk, ifd_pos (by omega), ck_pos (by rw [List.length_take]; simp; omega), ck_pos (by omega), ck_pos (by omega), e, ch_next h hk, take_gi hk]
  · simp only [p_muntinref16_chains.s2]
    rw [gi_end1, ifd_neg (by omega), List.take_length]
/-- How far seg's chains are. -/
structure SI (l : List T_api_Cell) (d : Nat) (a : List Int) (L : List (List Int)) (v : Nat) : Prop where
  alen : a.length = l.length
  ch : ∀ i, i < L.length → IsCh l d (gi L i)
  mem : ∀ u : Nat, u < l.length → (gi a u = -1 ∧ ∀ i, i < L.length → (u : Int) ∉ gi L i) ∨ ∃ i : Nat, i < L.length ∧ gi a u = i ∧ (u : Int) ∈ gi L i
  one : ∀ i u : Nat, i < L.length → u < l.length → (u : Int) ∈ gi L i → gi a u = i
  done : ∀ u, u < v → 0 ≤ gi a u
  seen : ∀ i : Nat, i < L.length → ∃ u, u < v ∧ gi a u = i
  ord : ∀ u i : Nat, u < l.length → gi a u = i + 1 → ∃ u', u' < u ∧ gi a u' = i
  Ll : L.length ≤ v
theorem gi_snoc {α : Type} [Inhabited α] {L : List α} {C : α} {i : Nat} (hi : i < L.length + 1) : gi (L ++ [C]) i = if i < L.length then gi L i else C := by
  by_cases c : i < L.length
  · rw [if_pos c, gi_append_left c]
  · rw [if_neg c, show i = L.length + 0 by omega, gi_append_right]; rfl
theorem SI.skip {l : List T_api_Cell} {d v : Nat} {a : List Int} {L : List (List Int)} (h : SI l d a L v) (hv : 0 ≤ gi a v) : SI l d a L (v + 1) :=
  ⟨h.alen, h.ch, h.mem, h.one, fun u hu => by
    by_cases c : u = v
    · subst c; exact hv
    · exact h.done u (by omega), fun i hi => by obtain ⟨u, a, b⟩ := h.seen i hi; exact ⟨u, by omega, b⟩, h.ord, by have := h.Ll; omega⟩
theorem SI.add {l : List T_api_Cell} (hc : Ck l) {d v : Nat} (hd : d < 4) {a a' : List Int} {L : List (List Int)} (h : SI l d a L v) (hv : v < l.length) (hneg : gi a v < 0) {C : List Int} (hC : IsCh l d C) (hm : (v : Int) ∈ C) (al : a'.length = l.length) (ha : ∀ u : Nat, u < l.length → gi a' u = if (u : Int) ∈ C then (L.length : Int) else gi a u) : SI l d a' (L ++ [C]) (v + 1) := by
  have hL : (L ++ [C]).length = L.length + 1 := by simp
  have off : ∀ i, i < L.length → ∀ u : Nat, u < l.length → (u : Int) ∈ gi L i → (u : Int) ∉ C := by
    intro i hi u hu h1 h2
    have e := (h.ch i hi).uniq hc hd hC h1 h2
    have := h.one i v hi hv (by rw [e]; exact hm)
    omega
  have late : ∀ u : Nat, u < l.length → (u : Int) ∈ C → v ≤ u ∧ gi a u = -1 := by
    intro u hu h2
    have hneg1 : gi a u = -1 := by
      rcases h.mem u hu with ⟨q, _⟩ | ⟨i, i1, _, i3⟩
      · exact q
      · exact absurd h2 (off i i1 u hu i3)
    refine ⟨?_, hneg1⟩
    by_cases c : u < v
    · have := h.done u c; omega
    · omega
  have av : gi a' v = L.length := by rw [ha v hv, if_pos hm]
  have old : ∀ u : Nat, u < l.length → (u : Int) ∉ C → gi a' u = gi a u := fun u hu q => by rw [ha u hu, if_neg q]
  refine ⟨al, fun i hi => ?_, fun u hu => ?_, fun i u hi hu hmem => ?_, fun u hu => ?_, fun i hi => ?_, fun u i hu e => ?_, by rw [hL]; have := h.Ll; omega⟩
  · rw [gi_snoc (by omega)]
    split
    · exact h.ch i (by assumption)
    · exact hC
  · by_cases q : (u : Int) ∈ C
    · exact .inr ⟨L.length, by omega, by rw [ha u hu, if_pos q], by rw [gi_snoc (by omega), if_neg (by omega)]; exact q⟩
    · rw [old u hu q]
      rcases h.mem u hu with ⟨p, r⟩ | ⟨i, i1, i2, i3⟩
      · refine .inl ⟨p, fun i hi => ?_⟩
        rw [gi_snoc (by omega)]
        split
        · exact r i (by assumption)
        · exact q
      · exact .inr ⟨i, by omega, i2, by rw [gi_snoc (by omega), if_pos i1]; exact i3⟩
  · rw [gi_snoc (by omega)] at hmem
    by_cases c : i < L.length
    · rw [if_pos c] at hmem
      rw [old u hu (off i c u hu hmem)]
      exact h.one i u c hu hmem
    · rw [if_neg c] at hmem
      rw [ha u hu, if_pos hmem]; omega
  · by_cases c : u = v
    · subst c; rw [av]; omega
    · have hul : u < l.length := by omega
      by_cases q : (u : Int) ∈ C
      · rw [ha u hul, if_pos q]; omega
      · rw [old u hul q]; exact h.done u (by omega)
  · by_cases c : i < L.length
    · obtain ⟨u, u1, u2⟩ := h.seen i c
      refine ⟨u, by omega, ?_⟩
      have hul : u < l.length := by omega
      rw [old u hul (fun q => by have := late u hul q; omega)]; exact u2
    · exact ⟨v, by omega, by rw [av]; omega⟩
  · have push : ∀ u', u' < v → gi a u' = i → ∃ u', u' < v ∧ gi a' u' = i := fun u' h1 h2 => ⟨u', h1, by rw [old u' (by omega) (fun q => by have := late u' (by omega) q; omega)]; exact h2⟩
    by_cases q : (u : Int) ∈ C
    · rw [ha u hu, if_pos q] at e
      obtain ⟨u', u1, u2⟩ := h.seen i (by omega)
      obtain ⟨u'', w1, w2⟩ := push u' u1 u2
      exact ⟨u'', by have := late u hu q; omega, w2⟩
    · rw [old u hu q] at e
      obtain ⟨u', u1, u2⟩ := h.ord u i hu e
      refine ⟨u', u1, ?_⟩
      rw [old u' (by omega) (fun q => by have := late u' (by omega) q; omega)]; exact u2
theorem sChains {l : List T_api_Cell} (hc : Ck l) (hl : l.length ≤ 64) {d : Nat} (hd : d < 4) : (AllCh l d → ∃ a L, p_seg_chains l d = some (a, L, true) ∧ CH l d a L) ∧ (¬ AllCh l d → p_seg_chains l d = some ([], [], false)) := by
  have rep := mRepeat (n := l.length) (by omega)
  have bk := mLeft hd
  have z : ∀ u : Nat, u < l.length → gi (List.replicate l.length (-1 : Int)) u = -1 := fun u hu => by rw [gi_eq (by simpa using hu), List.getElem_replicate]
  have st : SI l d (List.replicate l.length (-1 : Int)) [] 0 := ⟨by simp, fun i hi => by simp at hi, fun u hu => .inl ⟨z u hu, fun i hi => by simp at hi⟩, fun i u hi => by simp at hi, fun u hu => by omega, fun i hi => by simp at hi, fun u i hu e => by rw [z u hu] at e; omega, by simp⟩
  constructor
  · intro hA
    have : ∃ r : (List Int × List (List Int)) ⊕ Unit, loopF (p_seg_chains.s0 l d (((d + 2) % 4 : Nat) : Int)) big (List.replicate l.length (-1 : Int), ([] : List (List Int)), 0) = some r ∧ ∃ a L, r = .inl (a, L) ∧ SI l d a L l.length := by
      refine loop_inv (fun (k : Nat) (s : List Int × List (List Int) × Int) => SI l d s.1 s.2.1 k ∧ s.2.2 = k) (n := l.length) (big_lt (by omega)) ⟨st, rfl⟩ ?_ ?_
      · rintro k ⟨a, L, x⟩ hk ⟨h1, h2⟩
        dsimp only at h1 h2 ⊢
        subst h2
        have hal := h1.alen
        have hLl := h1.Ll
        simp only [p_seg_chains.s0]
        rw [ifd_pos (by omega), ck_pos (by omega), Int.toNat_natCast]
        by_cases c : 0 ≤ gi a k
        · rw [ifd_pos c, ckI64 (by omega)]
          exact ⟨_, rfl, h1.skip c, by dsimp only; omega⟩
        · obtain ⟨r, C, hr, hC, h0, hm⟩ := hA.root hc hd hk
          rw [ifd_neg c, sRootBig hc (by omega) (by omega) hk, hr, Option.bind_some]
          dsimp only
          obtain ⟨⟨a', C'⟩, e, e1, e2, e3⟩ := sChain (by omega) hd hC (hC.len hc hd) hal (L := L)
          dsimp only at e1 e2 e3
          subst e1
          rw [← h0, e, Option.bind_some]
          dsimp only
          rw [ck_pos (by omega), ckI64 (by omega)]
          exact ⟨_, rfl, h1.add hc hd hk (by omega) hC hm e2 e3, by dsimp only; omega⟩
      · rintro ⟨a, L, x⟩ ⟨h1, h2⟩
        dsimp only at h1 h2 ⊢
        subst h2
        simp only [p_seg_chains.s0]
        rw [ifd_neg (by omega)]
        exact ⟨_, rfl, a, L, rfl, h1⟩
    obtain ⟨r, e, a, L, rfl, h⟩ := this
    refine ⟨a, L, ?_, h.alen, h.ch, fun u hu => ?_, h.one, h.seen, h.ord, h.Ll⟩
    · unfold p_seg_chains
      rw [rep, Option.bind_some, bk, Option.bind_some, e, Option.bind_some]
    · rcases h.mem u hu with ⟨q, _⟩ | q
      · have := h.done u hu; omega
      · exact q
  · intro hA
    obtain ⟨v0, hv0, hr0⟩ := not_AllCh hc hd hA
    have : ∃ r : (List Int × List (List Int)) ⊕ Unit, loopF (p_seg_chains.s0 l d (((d + 2) % 4 : Nat) : Int)) big (List.replicate l.length (-1 : Int), ([] : List (List Int)), 0) = some r ∧ r = .inr () := by
      refine loop_meas (fun s : List Int × List (List Int) × Int => l.length - s.2.2.toNat) (fun s => ∃ k : Nat, s.2.2 = k ∧ k ≤ v0 ∧ SI l d s.1 s.2.1 k) (big_lt (by dsimp only; omega)) ⟨0, rfl, by omega, st⟩ ?_
      rintro ⟨a, L, x⟩ ⟨k, h2, hk0, h1⟩
      dsimp only at h1 h2 ⊢
      subst h2
      have hal := h1.alen
      have hLl := h1.Ll
      have hk : k < l.length := by omega
      simp only [p_seg_chains.s0]
      rw [ifd_pos (by omega), ck_pos (by omega), Int.toNat_natCast]
      by_cases c : 0 ≤ gi a k
      · left
        have hne : k ≠ v0 := by
          rintro rfl
          rcases h1.mem k hk with ⟨q, _⟩ | ⟨i, i1, i2, i3⟩
          · omega
          · obtain ⟨j, hj, e⟩ := List.mem_iff_getElem.1 i3
            have := (h1.ch i i1).len hc hd
            have r := root_of_ch hc hd (h1.ch i i1) j (l.length + 1) hj (by omega)
            rw [gi_eq hj, e, Int.toNat_natCast, hr0] at r
            cases r
        rw [ifd_pos c, ckI64 (by omega)]
        exact ⟨_, rfl, ⟨k + 1, by dsimp only; omega, by omega, h1.skip c⟩, by dsimp only; omega⟩
      · rw [ifd_neg c, sRootBig hc (by omega) (by omega) hk]
        cases hr : rootF l ((d + 2) % 4) (l.length + 1) k with
        | none =>
          right
          exact ⟨_, rfl, rfl⟩
        | some r =>
          left
          have hne : k ≠ v0 := by rintro rfl; rw [hr] at hr0; cases hr0
          obtain ⟨C, hC, h0, i, hi, ei⟩ := ch_of_root hc hd _ k r hk hr
          have hm : (k : Int) ∈ C := by rw [← ei]; exact gi_mem hi
          rw [Option.bind_some]
          dsimp only
          obtain ⟨⟨a', C'⟩, e, e1, e2, e3⟩ := sChain (by omega) hd hC (hC.len hc hd) hal (L := L)
          dsimp only at e1 e2 e3
          subst e1
          rw [← h0, e, Option.bind_some]
          dsimp only
          rw [ck_pos (by omega), ckI64 (by omega)]
          exact ⟨_, rfl, ⟨k + 1, by dsimp only; omega, by omega, h1.add hc hd hk (by omega) hC hm e2 e3⟩, by dsimp only; omega⟩
    obtain ⟨r, e, rfl⟩ := this
    unfold p_seg_chains
    rw [rep, Option.bind_some, bk, Option.bind_some, e, Option.bind_some]
end Mu
/- Layer 16: what the document's chains are. -/
set_option linter.unusedVariables false
set_option linter.unusedSimpArgs false
set_option maxRecDepth 10000
namespace Mu
/-- How far the document's chains are. -/
structure RI (l : List T_api_Cell) (d : Nat) (a F : List Int) (L : List (List Int)) (v : Nat) : Prop where
  alen : a.length = l.length
  flen : F.length = L.length
  ch : ∀ i, i < L.length → IsCh l d (gi L i) ∧ gi (gi L i) 0 = gi F i
  mem : ∀ u : Nat, u < v → ∃ i : Nat, i < L.length ∧ gi a u = i ∧ (u : Int) ∈ gi L i
  inj : ∀ i j, i < L.length → j < L.length → gi F i = gi F j → i = j
  seen : ∀ i : Nat, i < L.length → ∃ u, u < v ∧ gi a u = i
  ord : ∀ u i : Nat, u < v → gi a u = i + 1 → ∃ u', u' < u ∧ gi a u' = i
  Ll : L.length ≤ v
theorem rFind {F : List Int} {x : Int} (hF : F.length ≤ 1000) : ∃ k : Nat, loopF (p_muntinref16_chains.s1 F x) big 0 = some (k : Int) ∧ ((k < F.length ∧ gi F k = x) ∨ (k = F.length ∧ ∀ j, j < F.length → gi F j ≠ x)) := by
  have : ∃ r : Int, loopF (p_muntinref16_chains.s1 F x) big 0 = some r ∧ ∃ k : Nat, r = k ∧ ((k < F.length ∧ gi F k = x) ∨ (k = F.length ∧ ∀ j, j < F.length → gi F j ≠ x)) := by
    refine loop_meas (fun s : Int => F.length - s.toNat) (fun s => ∃ k : Nat, s = k ∧ k ≤ F.length ∧ ∀ j, j < k → gi F j ≠ x) (big_lt (by omega)) ⟨0, rfl, by omega, fun j hj => by omega⟩ ?_
    rintro s ⟨k, rfl, hk, hn⟩
    simp only [p_muntinref16_chains.s1]
    by_cases c : k < F.length
    · rw [ifd_pos (by omega), ck_pos (by omega), Int.toNat_natCast, Option.bind_some]
      by_cases q : gi F k = x
      · right
        rw [ifn_neg q]
        exact ⟨_, rfl, k, rfl, .inl ⟨c, q⟩⟩
      · left
        rw [ifn_pos q, ckI64 (by omega)]
        refine ⟨_, rfl, ⟨k + 1, by omega, by omega, fun j hj => ?_⟩, by omega⟩
        by_cases e : j = k
        · subst e; exact q
        · exact hn j (by omega)
    · right
      rw [ifd_neg (by omega), Option.bind_some, if_neg (by decide)]
      exact ⟨_, rfl, k, rfl, .inr ⟨by omega, fun j hj => hn j (by omega)⟩⟩
  obtain ⟨r, e, k, rfl, h⟩ := this
  exact ⟨k, e, h⟩
theorem RI.old {l : List T_api_Cell} {d v k : Nat} {a F : List Int} {L : List (List Int)} (h : RI l d a F L v) (hv : v < l.length) (hk : k < L.length) (hm : (v : Int) ∈ gi L k) : RI l d (a.set v k) F L (v + 1) := by
  have hal := h.alen
  have g : ∀ u, gi (a.set v (k : Int)) u = if u = v then (k : Int) else gi a u := fun u => gi_set (by omega)
  refine ⟨by rw [List.length_set, hal], h.flen, h.ch, fun u hu => ?_, h.inj, fun i hi => ?_, fun u i hu e => ?_, by have := h.Ll; omega⟩
  · rw [g]
    by_cases c : u = v
    · subst c; exact ⟨k, hk, by rw [if_pos rfl], hm⟩
    · rw [if_neg c]; exact h.mem u (by omega)
  · obtain ⟨u, u1, u2⟩ := h.seen i hi
    exact ⟨u, by omega, by rw [g, if_neg (by omega)]; exact u2⟩
  · rw [g] at e
    by_cases c : u = v
    · rw [if_pos c] at e
      obtain ⟨u', u1, u2⟩ := h.seen i (by omega)
      exact ⟨u', by omega, by rw [g, if_neg (by omega)]; exact u2⟩
    · rw [if_neg c] at e
      obtain ⟨u', u1, u2⟩ := h.ord u i (by omega) e
      exact ⟨u', u1, by rw [g, if_neg (by omega)]; exact u2⟩
theorem RI.new {l : List T_api_Cell} {d v : Nat} {a F : List Int} {L : List (List Int)} (h : RI l d a F L v) (hv : v < l.length) {C : List Int} (hC : IsCh l d C) (hm : (v : Int) ∈ C) (hn : ∀ j, j < F.length → gi F j ≠ gi C 0) : RI l d (a.set v (L.length : Nat)) (F ++ [gi C 0]) (L ++ [C]) (v + 1) := by
  have hal := h.alen
  have hfl := h.flen
  have hL : (L ++ [C]).length = L.length + 1 := by simp
  have g : ∀ u, gi (a.set v (L.length : Int)) u = if u = v then (L.length : Int) else gi a u := fun u => gi_set (by omega)
  have gF : ∀ i, i < L.length + 1 → gi (F ++ [gi C 0]) i = if i < L.length then gi F i else gi C 0 := fun i hi => by rw [gi_snoc (by omega), hfl]
  refine ⟨by rw [List.length_set, hal], by simp [hfl], fun i hi => ?_, fun u hu => ?_, fun i j hi hj e => ?_, fun i hi => ?_, fun u i hu e => ?_, by rw [hL]; have := h.Ll; omega⟩
  · rw [gi_snoc (by omega), gF i (by omega)]
    by_cases c : i < L.length
    · rw [if_pos c, if_pos c]; exact h.ch i c
    · rw [if_neg c, if_neg c]; exact ⟨hC, rfl⟩
  · rw [g]
    by_cases c : u = v
    · subst c; exact ⟨L.length, by omega, by rw [if_pos rfl], by rw [gi_snoc (by omega), if_neg (by omega)]; exact hm⟩
    · rw [if_neg c]
      obtain ⟨i, i1, i2, i3⟩ := h.mem u (by omega)
      exact ⟨i, by omega, i2, by rw [gi_snoc (by omega), if_pos i1]; exact i3⟩
  · rw [gF i (by omega), gF j (by omega)] at e
    by_cases c : i < L.length
    · rw [if_pos c] at e
      by_cases c2 : j < L.length
      · rw [if_pos c2] at e; exact h.inj i j c c2 e
      · rw [if_neg c2] at e; exact absurd e (hn i (by omega))
    · rw [if_neg c] at e
      by_cases c2 : j < L.length
      · rw [if_pos c2] at e; exact absurd e.symm (hn j (by omega))
      · omega
  · by_cases c : i < L.length
    · obtain ⟨u, u1, u2⟩ := h.seen i c
      exact ⟨u, by omega, by rw [g, if_neg (by omega)]; exact u2⟩
    · exact ⟨v, by omega, by rw [g, if_pos rfl]; omega⟩
  · rw [g] at e
    by_cases c : u = v
    · rw [if_pos c] at e
      obtain ⟨u', u1, u2⟩ := h.seen i (by omega)
      exact ⟨u', by omega, by rw [g, if_neg (by omega)]; exact u2⟩
    · rw [if_neg c] at e
      obtain ⟨u', u1, u2⟩ := h.ord u i (by omega) e
      exact ⟨u', u1, by rw [g, if_neg (by omega)]; exact u2⟩
/-- One cell more. -/
theorem rStep {l : List T_api_Cell} (hc : Ck l) (hl : l.length ≤ 64) {d v : Nat} (hd : d < 4) {a F : List Int} {L : List (List Int)} (h : RI l d a F L v) (hv : v < l.length) {r : Nat} {C : List Int} (hr : rootF l ((d + 2) % 4) (l.length + 1) v = some r) (hC : IsCh l d C) (h0 : gi C 0 = r) (hm : (v : Int) ∈ C) : ∃ a' F' L', p_muntinref16_chains.s0 l d (a, F, L, (v : Int)) = some (.inl (a', F', L', (v : Int) + 1)) ∧ RI l d a' F' L' (v + 1) := by
  have hal := h.alen
  have hfl := h.flen
  have hLl := h.Ll
  obtain ⟨k, e, hk⟩ := rFind (F := F) (x := (r : Int)) (by omega)
  simp only [p_muntinref16_chains.s0]
  rw [ifd_pos (by omega), mFirst hc (by omega) hd hv, hr, Option.bind_some]
  dsimp only
  rw [ifd_neg (by omega), e, Option.bind_some, ck_pos (by omega), Int.toNat_natCast]
  rcases hk with ⟨k1, k2⟩ | ⟨rfl, k2⟩
  · rw [ifd_neg (by omega), ckI64 (by omega)]
    have hq := h.ch k (by omega)
    have : C = gi L k := hC.uniq0 hq.1 (by rw [h0, hq.2, k2])
    exact ⟨_, _, _, rfl, h.old hv (by omega) (this ▸ hm)⟩
  · rw [ifd_pos (by omega), ck_pos (by simp; omega), ← h0, rChain (by omega) hd hC (hC.len hc hd), Option.bind_some, ck_pos (by omega), ckI64 (by omega), hfl]
    exact ⟨_, _, _, rfl, h.new hv hC hm (fun j hj => by rw [h0]; exact k2 j hj)⟩
theorem RI.stop {l : List T_api_Cell} (hc : Ck l) {d : Nat} (hd : d < 4) {a F : List Int} {L : List (List Int)} (h : RI l d a F L l.length) : CH l d a L :=
  ⟨h.alen, fun i hi => (h.ch i hi).1, h.mem, fun i u hi hu hm => by
    obtain ⟨j, j1, j2, j3⟩ := h.mem u hu
    have e := (h.ch i hi).1.uniq hc hd (h.ch j j1).1 hm j3
    have := h.inj i j hi j1 (by rw [← (h.ch i hi).2, ← (h.ch j j1).2, e])
    omega, h.seen, h.ord, h.Ll⟩
theorem rChains {l : List T_api_Cell} (hc : Ck l) (hl : l.length ≤ 64) {d : Nat} (hd : d < 4) : (AllCh l d → ∃ a L, p_muntinref16_chains l d = some (a, L, true) ∧ CH l d a L) ∧ (¬ AllCh l d → p_muntinref16_chains l d = some ([], [], false)) := by
  have st : RI l d (List.replicate l.length (0 : Int)) [] [] 0 := ⟨by simp, rfl, fun i hi => by simp at hi, fun u hu => by omega, fun i j hi => by simp at hi, fun i hi => by simp at hi, fun u i hu => by omega, by simp⟩
  constructor
  · intro hA
    have : ∃ r : (List Int × List (List Int)) ⊕ Unit, loopF (p_muntinref16_chains.s0 l d) big (List.replicate l.length (0 : Int), ([] : List Int), ([] : List (List Int)), 0) = some r ∧ ∃ a F L, r = .inl (a, L) ∧ RI l d a F L l.length := by
      refine loop_inv (fun (k : Nat) (s : List Int × List Int × List (List Int) × Int) => RI l d s.1 s.2.1 s.2.2.1 k ∧ s.2.2.2 = k) (n := l.length) (big_lt (by omega)) ⟨st, rfl⟩ ?_ ?_
      · rintro k ⟨a, F, L, x⟩ hk ⟨h1, h2⟩
        dsimp only at h1 h2 ⊢
        subst h2
        obtain ⟨r, C, hr, hC, h0, hm⟩ := hA.root hc hd hk
        obtain ⟨a', F', L', e, h'⟩ := rStep hc hl hd h1 hk hr hC h0 hm
        exact ⟨_, e, h', by dsimp only; omega⟩
      · rintro ⟨a, F, L, x⟩ ⟨h1, h2⟩
        dsimp only at h1 h2 ⊢
        subst h2
        simp only [p_muntinref16_chains.s0]
        rw [ifd_neg (by omega)]
        exact ⟨_, rfl, a, F, L, rfl, h1⟩
    obtain ⟨r, e, a, F, L, rfl, h⟩ := this
    refine ⟨a, L, ?_, h.stop hc hd⟩
    unfold p_muntinref16_chains
    rw [ck_pos (by omega), Int.toNat_natCast, e, Option.bind_some]
  · intro hA
    obtain ⟨v0, hv0, hr0⟩ := not_AllCh hc hd hA
    have : ∃ r : (List Int × List (List Int)) ⊕ Unit, loopF (p_muntinref16_chains.s0 l d) big (List.replicate l.length (0 : Int), ([] : List Int), ([] : List (List Int)), 0) = some r ∧ r = .inr () := by
      refine loop_meas (fun s : List Int × List Int × List (List Int) × Int => l.length - s.2.2.2.toNat) (fun s => ∃ k : Nat, s.2.2.2 = k ∧ k ≤ v0 ∧ RI l d s.1 s.2.1 s.2.2.1 k) (big_lt (by dsimp only; omega)) ⟨0, rfl, by omega, st⟩ ?_
      rintro ⟨a, F, L, x⟩ ⟨k, h2, hk0, h1⟩
      dsimp only at h1 h2 ⊢
      subst h2
      have hk : k < l.length := by omega
      cases hr : rootF l ((d + 2) % 4) (l.length + 1) k with
      | none =>
        right
        simp only [p_muntinref16_chains.s0]
        rw [ifd_pos (by omega), mFirst hc (by omega) hd hk, hr, Option.bind_some]
        dsimp only
        rw [ifd_pos (by omega)]
        exact ⟨_, rfl, rfl⟩
      | some r =>
        left
        have hne : k ≠ v0 := by rintro rfl; rw [hr] at hr0; cases hr0
        obtain ⟨C, hC, h0, i, hi, ei⟩ := ch_of_root hc hd _ k r hk hr
        obtain ⟨a', F', L', e, h'⟩ := rStep hc hl hd h1 hk hr hC h0 (by rw [← ei]; exact gi_mem hi)
        exact ⟨_, e, ⟨k + 1, by dsimp only; omega, by omega, h'⟩, by dsimp only; omega⟩
    obtain ⟨r, e, rfl⟩ := this
    unfold p_muntinref16_chains
    rw [ck_pos (by omega), Int.toNat_natCast, e, Option.bind_some]
/-! both together -/
theorem CH.same {l : List T_api_Cell} (hc : Ck l) {d : Nat} (hd : d < 4) {a a' : List Int} {L L' : List (List Int)} (h : CH l d a L) (h' : CH l d a' L') : a = a' ∧ L = L' := by
  have := h.eq h' rfl id (fun C C' v c1 c2 m1 m2 => (c1.uniq hc hd c2 m1 m2).symm) (fun C v => Iff.rfl)
  exact ⟨this.1, by rw [this.2, List.map_id]⟩
theorem mSegOnly {l : List T_api_Cell} (hl : l.length ≤ 64) (h : chkP l = 0) (A : AllCh l 1 ∧ AllCh l 0) : ∃ X Y V H, p_seg_Of l = some (⟨X, Y, V, H⟩, 0) ∧ CH l 1 X V ∧ CH l 0 Y H := by
  have hc := (Ck_iff.1 h).2
  have s1 := sChains hc hl (d := 1) (by omega)
  have s0 := sChains hc hl (d := 0) (by omega)
  rw [show ((1 : Nat) : Int) = 1 from rfl] at s1
  rw [show ((0 : Nat) : Int) = 0 from rfl] at s0
  obtain ⟨X, V, e1, c1⟩ := s1.1 A.1
  obtain ⟨Y, H, e2, c2⟩ := s0.1 A.2
  refine ⟨X, Y, V, H, ?_, c1, c2⟩
  unfold p_seg_Of
  rw [mCheck (by omega), Option.bind_some, ifn_neg h, e1, Option.bind_some]
  dsimp only
  rw [e2, Option.bind_some]
  rfl
theorem mSegOf {l : List T_api_Cell} (hl : l.length ≤ 64) : (chkP l ≠ 0 → p_seg_Of l = some (⟨[], [], [], []⟩, chkP l)) ∧ (chkP l = 0 → (AllCh l 1 ∧ AllCh l 0 → ∃ X Y V H, p_seg_Of l = some (⟨X, Y, V, H⟩, 0) ∧ p_muntinref16_Of l = some (⟨X, Y, V, H⟩, true) ∧ CH l 1 X V ∧ CH l 0 Y H) ∧ (¬ (AllCh l 1 ∧ AllCh l 0) → p_seg_Of l = some (⟨[], [], [], []⟩, 10) ∧ p_muntinref16_Of l = some (⟨[], [], [], []⟩, false))) := by
  constructor
  · intro h
    unfold p_seg_Of
    rw [mCheck (by omega), Option.bind_some, ifn_pos h]
  · intro h
    have hc := (Ck_iff.1 h).2
    have s1 := sChains hc hl (d := 1) (by omega)
    have s0 := sChains hc hl (d := 0) (by omega)
    have r1 := rChains hc hl (d := 1) (by omega)
    have r0 := rChains hc hl (d := 0) (by omega)
    rw [show ((1 : Nat) : Int) = 1 from rfl] at s1 r1
    rw [show ((0 : Nat) : Int) = 0 from rfl] at s0 r0
    constructor
    · rintro ⟨A1, A0⟩
      obtain ⟨X, V, e1, c1⟩ := s1.1 A1
      obtain ⟨Y, H, e2, c2⟩ := s0.1 A0
      obtain ⟨X', V', e3, c3⟩ := r1.1 A1
      obtain ⟨Y', H', e4, c4⟩ := r0.1 A0
      obtain ⟨rfl, rfl⟩ := c1.same hc (by omega) c3
      obtain ⟨rfl, rfl⟩ := c2.same hc (by omega) c4
      refine ⟨X, Y, V, H, ?_, ?_, c1, c2⟩
      · unfold p_seg_Of
        rw [mCheck (by omega), Option.bind_some, ifn_neg h, e1, Option.bind_some]
        dsimp only
        rw [e2, Option.bind_some]
        rfl
      · unfold p_muntinref16_Of
        rw [e3, Option.bind_some]
        dsimp only
        rw [e4, Option.bind_some]
        rfl
    · intro hn
      have go : ∀ (A1 : AllCh l 1), ¬ AllCh l 0 → p_seg_Of l = some (⟨[], [], [], []⟩, 10) ∧ p_muntinref16_Of l = some (⟨[], [], [], []⟩, false) := by
        intro A1 A0
        obtain ⟨X, V, e1, c1⟩ := s1.1 A1
        obtain ⟨X', V', e3, c3⟩ := r1.1 A1
        constructor
        · unfold p_seg_Of
          rw [mCheck (by omega), Option.bind_some, ifn_neg h, e1, Option.bind_some]
          dsimp only
          rw [s0.2 A0, Option.bind_some]
          rfl
        · unfold p_muntinref16_Of
          rw [e3, Option.bind_some]
          dsimp only
          rw [r0.2 A0, Option.bind_some]
          rfl
      by_cases A1 : AllCh l 1
      · exact go A1 (fun A0 => hn ⟨A1, A0⟩)
      · have x0 : ∃ a b c, p_seg_chains l 0 = some (a, b, c) := by
          by_cases A0 : AllCh l 0
          · obtain ⟨Y, H, e2, c2⟩ := s0.1 A0; exact ⟨_, _, _, e2⟩
          · exact ⟨_, _, _, s0.2 A0⟩
        have y0 : ∃ a b c, p_muntinref16_chains l 0 = some (a, b, c) := by
          by_cases A0 : AllCh l 0
          · obtain ⟨Y, H, e2, c2⟩ := r0.1 A0; exact ⟨_, _, _, e2⟩
          · exact ⟨_, _, _, r0.2 A0⟩
        obtain ⟨a, b, c, x0⟩ := x0
        obtain ⟨a', b', c', y0⟩ := y0
        constructor
        · unfold p_seg_Of
          rw [mCheck (by omega), Option.bind_some, ifn_neg h, s1.2 A1, Option.bind_some]
          dsimp only
          rw [x0, Option.bind_some]
          rfl
        · unfold p_muntinref16_Of
          rw [r1.2 A1, Option.bind_some]
          dsimp only
          rw [y0, Option.bind_some]
          rfl
end Mu
/- Layer 16: SegTells, SegMeets, SegTurns. -/
set_option linter.unusedVariables false
set_option linter.unusedSimpArgs false
set_option maxRecDepth 10000
namespace Mu
theorem Made.allCh {l : List T_api_Cell} {pts : List T_api_Point} (h : Made l pts) {d : Nat} (hd : d < 2) : AllCh l d := by
  have hc := h.ck
  have hl := h.len
  obtain ⟨co, hco⟩ : ∃ co : Nat → Int, co = fun v => if d = 0 then (gi pts v).X else (gi pts v).Y := ⟨_, rfl⟩
  have pos : ∀ v, v < l.length → 0 ≤ co v ∧ co v < 8 := by
    intro v hv
    have := h.pts.b v (by omega)
    rw [hco]; dsimp only
    split <;> omega
  have key : ∀ m v : Nat, v < l.length → co v < (m : Int) → ∃ r, rootF l ((d + 2) % 4) m v = some r := by
    intro m
    induction m with
    | zero => intro v hv hm; have := pos v hv; omega
    | succ m ih =>
      intro v hv hm
      have hb := hc.lt hv (d := (d + 2) % 4) (by omega)
      rw [rootF]
      by_cases c : nx l v ((d + 2) % 4) < 0
      · exact ⟨v, if_pos c⟩
      · rw [if_neg c]
        have bk := hc.back (v := v) (d := (d + 2) % 4) (w := (nx l v ((d + 2) % 4)).toNat) hv (by omega) (by omega)
        rw [show ((d + 2) % 4 + 2) % 4 = d by omega] at bk
        refine ih _ bk.1 ?_
        rcases h.near _ d bk.1 hd with q | q
        · omega
        · rw [bk.2] at q
          rcases q with ⟨q, _⟩ | ⟨j, e, _, q, _⟩
          · omega
          · have : j = v := by omega
            subst this
            have := q.2
            rw [hco] at hm ⊢
            dsimp only at hm ⊢
            by_cases z : d = 0
            · rw [if_pos z] at this hm ⊢; omega
            · rw [if_neg z] at this hm ⊢; omega
  intro v hv
  have := pos v hv
  obtain ⟨r, hr⟩ := key 8 v hv (by omega)
  obtain ⟨C, hC, _, i, hi, e⟩ := ch_of_root hc (by omega) 8 v r hv hr
  exact ⟨C, hC, by rw [← e]; exact gi_mem hi⟩
theorem IsCh.move {l m : List T_api_Cell} {d e : Nat} {C : List Int} (h : IsCh l d C) (hl : m.length = l.length) (h1 : ∀ v, v < l.length → nx m v e = nx l v d) (h2 : ∀ v, v < l.length → nx m v ((e + 2) % 4) = nx l v ((d + 2) % 4)) : IsCh m e C := by
  have hne := h.ne
  refine ⟨h.ne, fun i hi => by rw [hl]; exact h.lt i hi, fun i hi => ?_, ?_, ?_⟩
  · have := h.lt i (by omega)
    rw [h1 _ (by omega)]; exact h.nxt i hi
  · have := h.lt (C.length - 1) (by omega)
    rw [h1 _ (by omega)]; exact h.fin
  · have := h.lt 0 h.ne
    rw [h2 _ (by omega)]; exact h.beg
/-- A chain, or none. -/
def cl (L : List (List Int)) (i : Int) : List Int := if i < 0 ∨ (L.length : Int) ≤ i then [] else gi L i.toNat
end Mu
/- Layer 16: SegTells, SegTurns. -/
set_option linter.unusedVariables false
set_option linter.unusedSimpArgs false
set_option maxRecDepth 10000
namespace Mu
end Mu
/- Layer 17: lengths of edges. -/
set_option linter.unusedVariables false
set_option linter.unusedSimpArgs false
set_option maxRecDepth 10000
namespace Mu
/-- Does the line from a to b go in a direction? -/
def strt (d : Nat) (a b : T_api_Point) : Prop := if d = 0 then a.Y = b.Y ∧ a.X < b.X else a.X = b.X ∧ a.Y < b.Y
instance {d : Nat} {a b : T_api_Point} : Decidable (strt d a b) := by unfold strt; infer_instance
theorem mBetween {d : Nat} (hd : d < 2) (a b : T_api_Point) : ∃ x4 x5, p_compass_Between a b = some (x4, x5) ∧ ((!x5) || (!(decide (x4 = (d : Int))))) = !decide (strt d a b) := by
  have ev : ∀ x4 x5, p_compass_Between a b = some (x4, x5) → (((x5 = true ∧ x4 = (d : Int)) ↔ strt d a b) → ∃ x4 x5, p_compass_Between a b = some (x4, x5) ∧ ((!x5) || (!(decide (x4 = (d : Int))))) = !decide (strt d a b)) := by
    intro x4 x5 h hh
    refine ⟨x4, x5, h, ?_⟩
    by_cases c : strt d a b
    · obtain ⟨h1, h2⟩ := hh.2 c
      rw [dec_t c, h1, dec_t h2]; rfl
    · rw [dec_f c]
      cases x5 with
      | false => rfl
      | true =>
        have : ¬ x4 = (d : Int) := fun h => c (hh.1 ⟨rfl, h⟩)
        rw [dec_f this]; rfl
  unfold p_compass_Between at ev ⊢
  have hd2 : d = 0 ∨ d = 1 := by omega
  by_cases e1 : a.X = b.X
  · by_cases e2 : a.Y = b.Y
    · refine ev 0 false (by rw [dec_t e1, dec_t e2, ifd_pos rfl]) ?_
      constructor
      · rintro ⟨h, _⟩; cases h
      · intro h; unfold strt at h; split at h <;> omega
    · rw [dec_t e1, dec_f e2, ifd_neg (by decide), ifd_neg (by omega), ifd_neg (by omega)] at ev ⊢
      by_cases c : a.Y < b.Y
      · refine ev 1 true (by rw [ifd_pos c]) ?_
        unfold strt
        rcases hd2 with rfl | rfl
        · rw [if_pos rfl]; constructor <;> rintro ⟨h1, h2⟩ <;> omega
        · rw [if_neg (by decide)]; exact ⟨fun _ => ⟨e1, c⟩, fun _ => ⟨rfl, rfl⟩⟩
      · refine ev 3 true (by rw [ifd_neg c]) ?_
        unfold strt
        rcases hd2 with rfl | rfl
        · rw [if_pos rfl]; constructor <;> rintro ⟨h1, h2⟩ <;> omega
        · rw [if_neg (by decide)]; constructor <;> rintro ⟨h1, h2⟩ <;> omega
  · by_cases e2 : a.Y = b.Y
    · rw [dec_f e1, dec_t e2, ifd_neg (by decide)] at ev ⊢
      by_cases c : a.X < b.X
      · refine ev 0 true (by rw [ifd_pos c]) ?_
        unfold strt
        rcases hd2 with rfl | rfl
        · rw [if_pos rfl]; exact ⟨fun _ => ⟨e2, c⟩, fun _ => ⟨rfl, rfl⟩⟩
        · rw [if_neg (by decide)]; constructor <;> rintro ⟨h1, h2⟩ <;> omega
      · refine ev 2 true (by rw [ifd_neg c, ifd_pos (by omega)]) ?_
        unfold strt
        rcases hd2 with rfl | rfl
        · rw [if_pos rfl]; constructor <;> rintro ⟨h1, h2⟩ <;> omega
        · rw [if_neg (by decide)]; constructor <;> rintro ⟨h1, h2⟩ <;> omega
    · refine ev 0 false (by rw [dec_f e1, dec_f e2, ifd_pos rfl]) ?_
      constructor
      · rintro ⟨h, _⟩; cases h
      · intro h; unfold strt at h; split at h <;> omega
def wt (o : Int) : Int := if 0 ≤ o then 1 else 0
theorem mWeight {o : Int} : p_arcs_weight o = some (wt o) := by
  unfold p_arcs_weight wt
  by_cases c : 0 ≤ o
  · rw [ifd_pos c, if_pos c]
  · rw [ifd_neg c, if_neg c]
/-- Does an edge go in its direction? -/
def okE (l : List T_api_Cell) (p : List T_api_Point) (v d : Nat) : Prop := nx l v d < 0 ∨ strt d (gi p v) (gi p (nx l v d).toNat)
instance {l : List T_api_Cell} {p : List T_api_Point} {v d : Nat} : Decidable (okE l p v d) := by unfold okE; infer_instance
/-- What an edge counts. -/
def tE (l : List T_api_Cell) (p : List T_api_Point) (v d : Nat) : Int := if nx l v d < 0 then 0 else wt (ow l v d) * ((gi p (nx l v d).toNat).X - (gi p v).X + (gi p (nx l v d).toNat).Y - (gi p v).Y)
def sumTo (l : List T_api_Cell) (p : List T_api_Point) : Nat → Int
  | 0 => 0
  | n + 1 => sumTo l p n + tE l p n 0 + tE l p n 1
/-- No point is too far. -/
def Near6 (p : List T_api_Point) : Prop := ∀ i, i < p.length → (-1000000 ≤ (gi p i).X ∧ (gi p i).X ≤ 1000000) ∧ (-1000000 ≤ (gi p i).Y ∧ (gi p i).Y ≤ 1000000)
theorem wt_01 {o : Int} : wt o = 0 ∨ wt o = 1 := by unfold wt; split <;> simp
theorem tE_le {l : List T_api_Cell} (hc : Ck l) {p : List T_api_Point} (hp : p.length = l.length) (hn : Near6 p) {v d : Nat} (hv : v < l.length) (hd : d < 4) : -4000000 ≤ tE l p v d ∧ tE l p v d ≤ 4000000 := by
  unfold tE
  split
  · omega
  · have := hc.lt hv hd
    have a := hn v (by omega)
    have b := hn (nx l v d).toNat (by omega)
    rcases wt_01 (o := ow l v d) with h | h <;> rw [h] <;> omega
theorem sumTo_le {l : List T_api_Cell} (hc : Ck l) {p : List T_api_Point} (hp : p.length = l.length) (hn : Near6 p) : ∀ n, n ≤ l.length → -8000000 * (n : Int) ≤ sumTo l p n ∧ sumTo l p n ≤ 8000000 * (n : Int)
  | 0, _ => by simp [sumTo]
  | n + 1, h => by
    have ih := sumTo_le hc hp hn n (by omega)
    have a := tE_le hc hp hn (v := n) (d := 0) (by omega) (by omega)
    have b := tE_le hc hp hn (v := n) (d := 1) (by omega) (by omega)
    rw [sumTo]
    omega
theorem mLenStep {l : List T_api_Cell} (hc : Ck l) {p : List T_api_Point} (hp : p.length = l.length) (hn : Near6 p) {v d : Nat} (hv : v < l.length) (hd : d < 2) {s : Int} (hs : -1000000000000 ≤ s ∧ s ≤ 1000000000000) : p_arcs_Length.s1 l p v (s, (d : Int)) = some (if okE l p v d then .inl (s + tE l p v d, (d : Int) + 1) else .inr (.inr ())) := by
  have hlt := hc.lt hv (d := d) (by omega)
  have g : gi ([0, 1] : List Int) ((d : Int)).toNat = d := by
    match d, hd with
    | 0, _ | 1, _ => rfl
  have e : (gi l v).Next.get (d : Int) = nx l v d := rfl
  have eo : (gi l v).Owner.get (d : Int) = ow l v d := rfl
  simp only [p_arcs_Length.s1]
  rw [ifd_pos (by simp; omega), ck_pos (by simp; omega), g, ck_pos (by omega), Int.toNat_natCast, e, eo]
  by_cases c : nx l v d < 0
  · rw [ifd_pos c, ckI64 (by omega), if_pos (show okE l p v d from .inl c)]
    unfold tE
    rw [if_pos c, Int.add_zero]
  · obtain ⟨x4, x5, b1, b2⟩ := mBetween hd (gi p v) (gi p (nx l v d).toNat)
    rw [ifd_neg c, ck_pos (by omega), ck_pos (by omega), b1, Option.bind_some]
    dsimp only
    rw [b2]
    by_cases q : strt d (gi p v) (gi p (nx l v d).toNat)
    · have t := tE_le hc hp hn hv (show d < 4 by omega)
      have a := hn v (by omega)
      have b := hn (nx l v d).toNat (by omega)
      have te : wt (ow l v d) * ((gi p (nx l v d).toNat).X - (gi p v).X + (gi p (nx l v d).toNat).Y - (gi p v).Y) = tE l p v d := by unfold tE; rw [if_neg c]
      rw [ifn_neg q, if_pos (show okE l p v d from .inr q), mWeight, Option.bind_some, ckI64 (by omega), ckI64 (by omega), ckI64 (by omega), te, ckI64 (by omega), ckI64 (by omega), ckI64 (by omega)]
    · rw [ifn_pos q, if_neg (show ¬ okE l p v d from fun h => h.elim c q)]
theorem mLenRow {l : List T_api_Cell} (hc : Ck l) {p : List T_api_Point} (hp : p.length = l.length) (hn : Near6 p) {v : Nat} (hv : v < l.length) {s : Int} (hs : -100000000000 ≤ s ∧ s ≤ 100000000000) : loopF (p_arcs_Length.s1 l p v) big (s, 0) = some (if okE l p v 0 ∧ okE l p v 1 then .inl (s + tE l p v 0 + tE l p v 1) else .inr ()) := by
  have t0 := tE_le hc hp hn hv (show 0 < 4 by omega)
  have s0 := mLenStep hc hp hn hv (d := 0) (by omega) (s := s) (by omega)
  have s1 := mLenStep hc hp hn hv (d := 1) (by omega) (s := s + tE l p v 0) (by omega)
  have s2 : p_arcs_Length.s1 l p v (s + tE l p v 0 + tE l p v 1, 2) = some (.inr (.inl (s + tE l p v 0 + tE l p v 1))) := by
    simp only [p_arcs_Length.s1]
    rw [ifd_neg (by simp)]
  have hb : big = (big - 3) + 3 := by unfold big; omega
  rw [hb, loopF]
  rw [show ((0 : Nat) : Int) = 0 from rfl] at s0
  rw [s0]
  by_cases c0 : okE l p v 0
  · rw [if_pos c0]
    dsimp only
    rw [loopF]
    rw [show ((1 : Nat) : Int) = 0 + 1 from rfl] at s1
    rw [s1]
    by_cases c1 : okE l p v 1
    · rw [if_pos c1, if_pos ⟨c0, c1⟩]
      dsimp only
      rw [loopF, show (0 : Int) + 1 + 1 = 2 from rfl, s2]
    · rw [if_neg c1, if_neg (fun h => c1 h.2)]
  · rw [if_neg c0, if_neg (fun h => c0 h.1)]
theorem mContP {s : List T_api_Point} {f : T_api_Point → Option Bool} {g : T_api_Point → Bool} (hn : s.length ≤ 1000000) (h : ∀ a ∈ s, f a = some (g a)) : p_slices_ContainsFunc_api_Point s f = some (s.any g) := by
  have h1 : loopF (p_slices_IndexFunc_api_Point.s0 s f) big 0 = some (match (List.range s.length).find? (fun i => g (gi s i)) with | some i => .inr (i : Int) | none => .inl ()) := by
    refine loop_find (n := s.length) (P := fun i => g (gi s i)) (f := fun i => (i : Int)) (big_lt (by omega)) (fun i hi => ?_) ?_
    · simp only [p_slices_IndexFunc_api_Point.s0]
      rw [ifd_pos (by omega), ck_pos (by omega), Int.toNat_natCast, h _ (gi_mem hi), Option.bind_some, ckI64 (by omega)]
      cases g (gi s i) <;> rfl
    · simp only [p_slices_IndexFunc_api_Point.s0]
      rw [ifd_neg (by omega)]
  unfold p_slices_ContainsFunc_api_Point p_slices_IndexFunc_api_Point
  rw [h1, Option.bind_some]
  cases hf : (List.range s.length).find? (fun i => g (gi s i)) with
  | none =>
    rw [List.find?_range_eq_none] at hf
    have : s.any g = false := by
      rw [List.any_eq_false]
      intro a ha
      obtain ⟨i, hi, rfl⟩ := List.mem_iff_getElem.1 ha
      have := hf i hi
      rw [gi_eq hi] at this
      simpa using this
    rw [this]; rfl
  | some i =>
    rw [List.find?_range_eq_some] at hf
    obtain ⟨h1, h2, _⟩ := hf
    have hi : i < s.length := by simpa using h2
    have : s.any g = true := by
      rw [List.any_eq_true]
      exact ⟨gi s i, gi_mem hi, h1⟩
    rw [this]
    dsimp only
    rw [Option.bind_some, dec_t (by omega)]
def farB (p : T_api_Point) : Bool := (decide (1000000 < (max p.X p.Y))) || (decide ((min p.X p.Y) < (-1000000)))
theorem near_any {p : List T_api_Point} : p.any farB = false ↔ Near6 p := by
  rw [List.any_eq_false]
  constructor
  · intro h i hi
    have := h _ (gi_mem hi)
    simp [farB] at this
    omega
  · intro h a ha
    obtain ⟨i, hi, rfl⟩ := List.mem_iff_getElem.1 ha
    have := h i hi
    rw [gi_eq hi] at this
    simp [farB]
    omega
theorem mLength {l : List T_api_Cell} (hc : Ck l) (hl : l.length ≤ 64) {p : List T_api_Point} (hp : p.length = l.length) (hn : Near6 p) : p_arcs_Length l p = some (if ∀ v, v < l.length → okE l p v 0 ∧ okE l p v 1 then (sumTo l p l.length, 0) else (0, 15)) := by
  have hk : chkP l = 0 := Ck_iff.2 ⟨by omega, hc⟩
  have row : ∀ v, v < l.length → p_arcs_Length.s0 l p (sumTo l p v, (v : Int)) = some (if okE l p v 0 ∧ okE l p v 1 then .inl (sumTo l p (v + 1), (v : Int) + 1) else .inr (.inr ())) := by
    intro v hv
    have b := sumTo_le hc hp hn v (by omega)
    simp only [p_arcs_Length.s0]
    rw [ifd_pos (by omega), ck_pos (by omega), mLenRow hc hp hn hv (by omega), Option.bind_some]
    by_cases c : okE l p v 0 ∧ okE l p v 1
    · rw [if_pos c, if_pos c]
      dsimp only
      rw [ckI64 (by omega)]
      rfl
    · rw [if_neg c, if_neg c]
  have main : loopF (p_arcs_Length.s0 l p) big (0, 0) = some (if ∀ v, v < l.length → okE l p v 0 ∧ okE l p v 1 then .inl (sumTo l p l.length) else .inr ()) := by
    by_cases c : ∀ v, v < l.length → okE l p v 0 ∧ okE l p v 1
    · rw [if_pos c]
      refine loop_to (fun v : Nat => (sumTo l p v, (v : Int))) (n := l.length) (big_lt (by omega)) rfl (fun v hv => ?_) ?_
      · rw [row v hv, if_pos (c v hv), show ((v + 1 : Nat) : Int) = (v : Int) + 1 by omega]
      · simp only [p_arcs_Length.s0]
        rw [ifd_neg (by omega)]
    · rw [if_neg c]
      have ⟨v0, hv0⟩ : ∃ v, v < l.length ∧ ¬ (okE l p v 0 ∧ okE l p v 1) := by
        refine Classical.byContradiction fun hh => c fun v hv => Classical.byContradiction fun h2 => hh ⟨v, hv, h2⟩
      obtain ⟨v, ⟨hv, hb⟩, hm⟩ := least_of (P := fun v => v < l.length ∧ ¬ (okE l p v 0 ∧ okE l p v 1)) v0 hv0
      refine loop_to (fun v : Nat => (sumTo l p v, (v : Int))) (n := v) (big_lt (by omega)) rfl (fun u hu => ?_) ?_
      · have : okE l p u 0 ∧ okE l p u 1 := Classical.byContradiction fun h2 => hm u hu ⟨by omega, h2⟩
        rw [row u (by omega), if_pos this, show ((u + 1 : Nat) : Int) = (u : Int) + 1 by omega]
      · rw [row v hv, if_neg hb]
  unfold p_arcs_Length
  rw [mCheck (by omega), Option.bind_some, ifn_neg hk, ifn_neg (by omega), mContP (f := fun y0 => p_arcs_far y0) (g := farB) (by omega) (fun a _ => rfl), Option.bind_some, near_any.2 hn, Option.bind_some, if_neg (by decide), main, Option.bind_some]
  by_cases c : ∀ v, v < l.length → okE l p v 0 ∧ okE l p v 1
  · rw [if_pos c, if_pos c]
  · rw [if_neg c, if_neg c]
end Mu
/- Layer 17: graphs, places, ArcsFit. -/
set_option linter.unusedVariables false
set_option linter.unusedSimpArgs false
set_option maxRecDepth 10000
namespace Mu
theorem CH.next {l : List T_api_Cell} (hc : Ck l) {d : Nat} (hd : d < 4) {a : List Int} {L : List (List Int)} (h : CH l d a L) {v w : Nat} (hv : v < l.length) (hw : nx l v d = w) : w < l.length ∧ gi a v = gi a w := by
  have bk := hc.back hv hd hw
  obtain ⟨i, i1, i2, i3⟩ := h.mem v hv
  have hC := h.ch i i1
  obtain ⟨j, hj, e⟩ := List.mem_iff_getElem.1 i3
  have ej : gi (gi L i) j = v := by rw [gi_eq hj]; exact e
  have n := ch_next hC hj
  rw [ej, Int.toNat_natCast, hw] at n
  by_cases c : j + 1 < (gi L i).length
  · rw [gi_end c] at n
    exact ⟨bk.1, by rw [i2, h.one i w i1 bk.1 (n ▸ gi_mem c)]⟩
  · rw [show j + 1 = (gi L i).length by omega, gi_end1] at n
    omega
/-- The arcs of the first cells. -/
def grTo (l : List T_api_Cell) (of : List Int) (d : Nat) : Nat → List T_api_Arc
  | 0 => []
  | n + 1 => if nx l n d < 0 then grTo l of d n else grTo l of d n ++ [⟨gi of n, gi of (nx l n d).toNat, wt (ow l n d)⟩]
theorem grTo_len {l : List T_api_Cell} {of : List Int} {d : Nat} : ∀ n, (grTo l of d n).length ≤ n
  | 0 => by simp [grTo]
  | n + 1 => by
    have := grTo_len (l := l) (of := of) (d := d) n
    rw [grTo]
    split
    · omega
    · rw [List.length_append, List.length_singleton]; omega
theorem mGraphs {l : List T_api_Cell} (hc : Ck l) (hl : l.length ≤ 64) {of : List Int} (ho : of.length = l.length) {d : Nat} (hd : d < 4) : p_arcs_graph l d of = some (grTo l of d l.length) := by
  unfold p_arcs_graph
  rw [bd_eq (x := grTo l of d l.length)]
  refine loop_to (fun n : Nat => (grTo l of d n, (n : Int))) (n := l.length) (big_lt (by omega)) rfl (fun n hn => ?_) ?_
  · have hlt := hc.lt hn hd
    have e : (gi l n).Next.get (d : Int) = nx l n d := rfl
    have eo : (gi l n).Owner.get (d : Int) = ow l n d := rfl
    have gl := grTo_len (l := l) (of := of) (d := d) n
    simp only [p_arcs_graph.s0]
    rw [ifd_pos (by omega), ck_pos (by omega), ck_pos (by omega), Int.toNat_natCast, e, eo, grTo]
    by_cases c : nx l n d < 0
    · rw [ifd_neg (by omega), ckI64 (by omega), if_pos c, show ((n + 1 : Nat) : Int) = (n : Int) + 1 by omega]
    · rw [ifd_pos (by omega), ck_pos (by omega), ck_pos (by omega), mWeight, Option.bind_some, ck_pos (by simp; omega), ckI64 (by omega), if_neg c, show ((n + 1 : Nat) : Int) = (n : Int) + 1 by omega]
  · simp only [p_arcs_graph.s0]
    rw [ifd_neg (by omega)]
theorem mArcsOf {l : List T_api_Cell} (hc : Ck l) (hl : l.length ≤ 64) (h : AllCh l 1 ∧ AllCh l 0) : ∃ X Y V H, p_arcs_Of l = some (⟨⟨X, Y, V, H⟩, grTo l X 0 l.length, grTo l Y 1 l.length⟩, 0) ∧ CH l 1 X V ∧ CH l 0 Y H := by
  obtain ⟨X, Y, V, H, s1, cx, cy⟩ := mSegOnly hl (Ck_iff.2 ⟨by omega, hc⟩) h
  refine ⟨X, Y, V, H, ?_, cx, cy⟩
  have g0 := mGraphs hc hl cx.alen (d := 0) (by omega)
  have g1 := mGraphs hc hl cy.alen (d := 1) (by omega)
  rw [show ((0 : Nat) : Int) = 0 from rfl] at g0
  rw [show ((1 : Nat) : Int) = 1 from rfl] at g1
  unfold p_arcs_Of
  rw [s1, Option.bind_some]
  dsimp only
  rw [ifn_neg rfl, g0, Option.bind_some, g1, Option.bind_some]
theorem CH.rng {l : List T_api_Cell} {d : Nat} {a : List Int} {L : List (List Int)} (h : CH l d a L) {v : Nat} (hv : v < l.length) : 0 ≤ gi a v ∧ gi a v < L.length := by
  obtain ⟨i, i1, i2, _⟩ := h.mem v hv
  omega
/-- The points by numbers. -/
def place (X Y a b : List Int) (n : Nat) : List T_api_Point := (List.range n).map fun v => ⟨gi a (gi X v).toNat, gi b (gi Y v).toNat⟩
theorem mPlace {l : List T_api_Cell} (hl : l.length ≤ 64) {X Y a b : List Int} {V H : List (List Int)} (cx : CH l 1 X V) (cy : CH l 0 Y H) (ha : a.length = V.length) (hb : b.length = H.length) : p_arcs_Place ⟨X, Y, V, H⟩ a b = some (place X Y a b l.length, 0) := by
  have x1 := cx.alen
  have y1 := cy.alen
  unfold p_arcs_Place
  dsimp only
  rw [if_neg (by simp [ha, hb]), bd_eq (x := place X Y a b l.length)]
  refine loop_to (fun k : Nat => (place X Y a b k, (k : Int))) (n := l.length) (big_lt (by omega)) rfl (fun k hk => ?_) ?_
  · have r1 := cx.rng hk
    have r2 := cy.rng hk
    simp only [p_arcs_Place.s0]
    rw [ifd_pos (by omega), ck_pos (by omega), Int.toNat_natCast, ck_pos (by omega), ck_pos (by omega), ck_pos (by omega), ck_pos (by simp [place]; omega), ckI64 (by omega), show ((k + 1 : Nat) : Int) = (k : Int) + 1 by omega]
    unfold place
    rw [List.range_succ, List.map_append]
    rfl
  · simp only [p_arcs_Place.s0]
    rw [ifd_neg (by omega)]
theorem place_len {X Y a b : List Int} {n : Nat} : (place X Y a b n).length = n := by simp [place]
end Mu
/- Layer 17: ArcsFit. -/
set_option linter.unusedVariables false
set_option linter.unusedSimpArgs false
set_option maxRecDepth 10000
namespace Mu
theorem kArcsWakes : p_muntinlaw17_wakes = some true := by decide +kernel
end Mu
/- Layer 17: the document's graphs; ArcsTell. -/
set_option linter.unusedVariables false
set_option linter.unusedSimpArgs false
set_option maxRecDepth 10000
namespace Mu
theorem mEqualP {s : List T_api_Point} (hs : s.length ≤ 1000000) : p_slices_Equal_api_Point s s = some true := by
  have h : loopF (p_slices_Equal_api_Point.s0 s s) big 0 = some (.inl ()) := by
    refine loop_to (fun n : Nat => (n : Int)) (n := s.length) (big_lt (by omega)) rfl (fun n hn => ?_) ?_
    · simp only [p_slices_Equal_api_Point.s0]
      rw [ifd_pos (by omega), ck_pos (by omega), ck_pos (by omega), if_neg (by simp), ckI64 (by omega)]
      rfl
    · simp only [p_slices_Equal_api_Point.s0]
      rw [ifd_neg (by omega)]
  unfold p_slices_Equal_api_Point
  rw [ifn_neg rfl, h, Option.bind_some]
end Mu
/- Layer 17: ArcsTurn. -/
set_option linter.unusedVariables false
set_option linter.unusedSimpArgs false
set_option maxRecDepth 10000
namespace Mu
theorem Made.strt {l : List T_api_Cell} {pts : List T_api_Point} (h : Made l pts) {v d w : Nat} (hv : v < l.length) (hd : d < 2) (hw : nx l v d = w) : strt d (gi pts v) (gi pts w) := by
  rcases h.near v d hv hd with q | q
  · omega
  · rw [hw] at q
    rcases q with ⟨q, _⟩ | ⟨j, e, _, q, _⟩
    · omega
    · have : j = w := by omega
      subst this
      have := q.2
      unfold Mu.strt
      by_cases z : d = 0
      · rw [if_pos z] at this ⊢; exact ⟨this.1.symm, this.2⟩
      · rw [if_neg z] at this ⊢; exact ⟨this.1.symm, this.2⟩
theorem Made.okE {l : List T_api_Cell} {pts : List T_api_Point} (h : Made l pts) {v d : Nat} (hv : v < l.length) (hd : d < 2) : okE l pts v d := by
  by_cases c : nx l v d < 0
  · exact .inl c
  · exact .inr (h.strt hv hd (by omega))
end Mu
/- Layer 17: ArcsPlace. -/
set_option linter.unusedVariables false
set_option linter.unusedSimpArgs false
set_option maxRecDepth 10000
namespace Mu
theorem mNumbers {x : List Int} (hx : ∀ u ∈ x, Ok_i64 u) {n : Nat} (hn : n ≤ 64) {w : Int} (hw : w = 0 ∨ w = 9) : ∃ r, p_muntinlaw17_numbers x n w = some r ∧ r.length = n := by
  have : ∃ r, loopF (p_muntinlaw17_numbers.s0 x n w) big (([] : List Int), 0) = some r ∧ r.length = n := by
    refine loop_inv (fun (k : Nat) (s : List Int × Int) => s.1.length = k ∧ s.2 = k) (n := n) (big_lt (by omega)) ⟨rfl, rfl⟩ ?_ ?_
    · rintro k ⟨r, j⟩ hk ⟨h1, h3⟩
      dsimp only at h1 h3 ⊢
      subst h3
      simp only [p_muntinlaw17_numbers.s0]
      rw [ifd_pos (by omega)]
      by_cases c : (k : Int) < (x.length : Int)
      · rw [ifd_pos c, ck_pos (by omega)]
        by_cases q : 0 < w
        · rw [ifd_pos q, ck_pos (by omega), ck_pos (by simp; omega), ckI64 (by omega)]
          exact ⟨_, rfl, by simp [h1], by dsimp only; omega⟩
        · rw [ifd_neg q, ck_pos (by simp; omega), ckI64 (by omega)]
          exact ⟨_, rfl, by simp [h1], by dsimp only; omega⟩
      · rw [ifd_neg c, ck_pos (by simp; omega), ckI64 (by omega)]
        exact ⟨_, rfl, by simp [h1], by dsimp only; omega⟩
    · rintro ⟨r, j⟩ ⟨h1, h3⟩
      dsimp only at h1 h3 ⊢
      subst h3
      simp only [p_muntinlaw17_numbers.s0]
      rw [ifd_neg (by omega)]
      exact ⟨_, rfl, h1⟩
  obtain ⟨r, e, h⟩ := this
  exact ⟨r, by unfold p_muntinlaw17_numbers; rw [e, Option.bind_some], h⟩
theorem rPlace {l : List T_api_Cell} (hl : l.length ≤ 64) {X Y a b : List Int} {V H : List (List Int)} (cx : CH l 1 X V) (cy : CH l 0 Y H) (ha : a.length = V.length) (hb : b.length = H.length) : p_muntinref17_Place ⟨X, Y, V, H⟩ a b = some (place X Y a b l.length) := by
  have x1 := cx.alen
  have y1 := cy.alen
  unfold p_muntinref17_Place
  rw [bd_eq (x := place X Y a b l.length)]
  refine loop_to (fun k : Nat => (place X Y a b k, (k : Int))) (n := l.length) (big_lt (by omega)) rfl (fun k hk => ?_) ?_
  · have r1 := cx.rng hk
    have r2 := cy.rng hk
    simp only [p_muntinref17_Place.s0]
    rw [ifd_pos (by omega), ck_pos (by omega), Int.toNat_natCast, ck_pos (by omega), ck_pos (by omega), ck_pos (by omega), ck_pos (by simp [place]; omega), ckI64 (by omega), show ((k + 1 : Nat) : Int) = (k : Int) + 1 by omega]
    unfold place
    rw [List.range_succ, List.map_append]
    rfl
  · simp only [p_muntinref17_Place.s0]
    rw [ifd_neg (by omega)]
theorem mPlaceNo {X Y a b : List Int} {V H : List (List Int)} (h : a.length ≠ V.length) : p_arcs_Place ⟨X, Y, V, H⟩ a b = some ([], 2) := by
  unfold p_arcs_Place
  dsimp only
  rw [if_pos (by simp; left; omega)]
theorem mLengthNo {l : List T_api_Cell} (hc : Ck l) (hl : l.length ≤ 64) {p : List T_api_Point} (hp : p.length ≤ 1000) (h : p.length ≠ l.length ∨ ¬ Near6 p) : p_arcs_Length l p = some (0, 2) := by
  have hk : chkP l = 0 := Ck_iff.2 ⟨by omega, hc⟩
  unfold p_arcs_Length
  rw [mCheck (by omega), Option.bind_some, ifn_neg hk]
  by_cases c : p.length = l.length
  · have : p.any farB = true := by
      cases q : p.any farB with
      | true => rfl
      | false => exact absurd (near_any.1 q) (h.elim (fun h => absurd c h) id)
    rw [ifn_neg (by omega), mContP (f := fun y0 => p_arcs_far y0) (g := farB) (by omega) (fun a _ => rfl), Option.bind_some, this, Option.bind_some, if_pos rfl]
  · rw [ifn_pos (by omega), Option.bind_some, if_pos rfl]
def far17 (q : T_api_Point) : Bool := (((decide (1000000 < q.X)) || (decide (q.X < (-1000000)))) || (decide (1000000 < q.Y))) || (decide (q.Y < (-1000000)))
theorem far17_any {p : List T_api_Point} : p.any far17 = p.any farB := by
  congr 1
  funext q
  unfold far17 farB
  rw [Bool.eq_iff_iff]
  simp
  omega
theorem rStraight {l : List T_api_Cell} (hc : Ck l) (hl : l.length ≤ 64) {p : List T_api_Point} (hp : p.length = l.length) : p_muntinref17_Straight l p = some (decide (∀ v, v < l.length → okE l p v 0 ∧ okE l p v 1)) := by
  have row : ∀ v, v < l.length → p_muntinref17_Straight.s0 l p (v : Int) = some (if okE l p v 0 ∧ okE l p v 1 then .inl ((v : Int) + 1) else .inr (.inr ())) := by
    intro v hv
    have l0 := hc.lt hv (d := 0) (by omega)
    have l1 := hc.lt hv (d := 1) (by omega)
    have e0 : (gi l v).Next.get 0 = nx l v 0 := rfl
    have e1 : (gi l v).Next.get 1 = nx l v 1 := rfl
    have A0 : okE l p v 0 ↔ ¬ (0 ≤ nx l v 0 ∧ ((gi p (nx l v 0).toNat).Y ≠ (gi p v).Y ∨ (gi p (nx l v 0).toNat).X ≤ (gi p v).X)) := by
      unfold Mu.okE Mu.strt
      rw [if_pos rfl]
      omega
    have A1 : okE l p v 1 ↔ ¬ (0 ≤ nx l v 1 ∧ ((gi p (nx l v 1).toNat).X ≠ (gi p v).X ∨ (gi p (nx l v 1).toNat).Y ≤ (gi p v).Y)) := by
      unfold Mu.okE Mu.strt
      rw [if_neg (by decide)]
      omega
    have B0 : (if decide (0 ≤ nx l v 0) = true then ck ((0 : Int) ≤ (max (nx l v 0) 0) ∧ (max (nx l v 0) 0) < (p.length : Int)) <| ck ((0 : Int) ≤ (v : Int) ∧ (v : Int) < (p.length : Int)) <| some ((!(decide ((gi p (max (nx l v 0) 0).toNat).Y = (gi p v).Y))) || (decide (((gi p (max (nx l v 0) 0).toNat).X) ≤ ((gi p v).X)))) else some false) = some (!decide (okE l p v 0)) := by
      by_cases c : 0 ≤ nx l v 0
      · rw [ifd_pos c, ck_pos (by omega), ck_pos (by omega), show max (nx l v 0) 0 = nx l v 0 by omega]
        congr 1
        rw [Bool.eq_iff_iff]
        simp only [Bool.or_eq_true, Bool.not_eq_true', decide_eq_true_eq, decide_eq_false_iff_not, A0]
        omega
      · rw [ifd_neg c, dec_t (A0.2 fun h => c h.1)]; rfl
    have B1 : (if decide (0 ≤ nx l v 1) = true then ck ((0 : Int) ≤ (max (nx l v 1) 0) ∧ (max (nx l v 1) 0) < (p.length : Int)) <| ck ((0 : Int) ≤ (v : Int) ∧ (v : Int) < (p.length : Int)) <| some ((!(decide ((gi p (max (nx l v 1) 0).toNat).X = (gi p v).X))) || (decide (((gi p (max (nx l v 1) 0).toNat).Y) ≤ ((gi p v).Y)))) else some false) = some (!decide (okE l p v 1)) := by
      by_cases c : 0 ≤ nx l v 1
      · rw [ifd_pos c, ck_pos (by omega), ck_pos (by omega), show max (nx l v 1) 0 = nx l v 1 by omega]
        congr 1
        rw [Bool.eq_iff_iff]
        simp only [Bool.or_eq_true, Bool.not_eq_true', decide_eq_true_eq, decide_eq_false_iff_not, A1]
        omega
      · rw [ifd_neg c, dec_t (A1.2 fun h => c h.1)]; rfl
    simp only [p_muntinref17_Straight.s0]
    rw [ifd_pos (by omega), ck_pos (by omega), Int.toNat_natCast, e0, e1, B0, Option.bind_some]
    by_cases c0 : okE l p v 0
    · rw [dec_t c0, if_neg (by decide), B1, Option.bind_some]
      by_cases c1 : okE l p v 1
      · rw [dec_t c1, if_neg (by decide), ckI64 (by omega), if_pos ⟨c0, c1⟩]
      · rw [dec_f c1, if_pos (by decide), if_neg fun h => c1 h.2]
    · rw [dec_f c0, if_pos (by decide), if_neg fun h => c0 h.1]
  unfold p_muntinref17_Straight
  by_cases c : ∀ v, v < l.length → okE l p v 0 ∧ okE l p v 1
  · rw [dec_t c, bd_eq (x := .inl ())]
    refine loop_to (fun v : Nat => (v : Int)) (n := l.length) (big_lt (by omega)) rfl (fun v hv => ?_) ?_
    · rw [row v hv, if_pos (c v hv), show ((v + 1 : Nat) : Int) = (v : Int) + 1 by omega]
    · simp only [p_muntinref17_Straight.s0]
      rw [ifd_neg (by omega)]
  · rw [dec_f c, bd_eq (x := .inr ())]
    have ⟨v0, hv0⟩ : ∃ v, v < l.length ∧ ¬ (okE l p v 0 ∧ okE l p v 1) := by
      refine Classical.byContradiction fun hh => c fun v hv => Classical.byContradiction fun h2 => hh ⟨v, hv, h2⟩
    obtain ⟨v, ⟨hv, hb⟩, hm⟩ := least_of (P := fun v => v < l.length ∧ ¬ (okE l p v 0 ∧ okE l p v 1)) v0 hv0
    refine loop_to (fun v : Nat => (v : Int)) (n := v) (big_lt (by omega)) rfl (fun u hu => ?_) ?_
    · have : okE l p u 0 ∧ okE l p u 1 := Classical.byContradiction fun h2 => hm u hu ⟨by omega, h2⟩
      rw [row u (by omega), if_pos this, show ((u + 1 : Nat) : Int) = (u : Int) + 1 by omega]
    · rw [row v hv, if_neg hb]
theorem rLength {l : List T_api_Cell} (hc : Ck l) (hl : l.length ≤ 64) {p : List T_api_Point} (hp : p.length = l.length) (hn : Near6 p) (hs : ∀ v, v < l.length → okE l p v 0 ∧ okE l p v 1) : p_muntinref17_Length l p = some (sumTo l p l.length) := by
  unfold p_muntinref17_Length
  rw [bd_eq (x := sumTo l p l.length)]
  refine loop_to (fun v : Nat => (sumTo l p v, (v : Int))) (n := l.length) (big_lt (by omega)) rfl (fun v hv => ?_) ?_
  · have l0 := hc.lt hv (d := 0) (by omega)
    have l1 := hc.lt hv (d := 1) (by omega)
    have e0 : (gi l v).Next.get 0 = nx l v 0 := rfl
    have e1 : (gi l v).Next.get 1 = nx l v 1 := rfl
    have o0 : (gi l v).Owner.get 0 = ow l v 0 := rfl
    have o1 : (gi l v).Owner.get 1 = ow l v 1 := rfl
    have b := sumTo_le hc hp hn v (by omega)
    have s := hs v hv
    have pv := hn v (by omega)
    have T0 : 0 ≤ nx l v 0 ∧ 0 ≤ ow l v 0 → tE l p v 0 = (gi p (nx l v 0).toNat).X - (gi p v).X := by
      rintro ⟨c1, c2⟩
      unfold tE wt
      rw [if_neg (by omega), if_pos c2]
      rcases s.1 with h | h
      · omega
      · unfold Mu.strt at h; rw [if_pos rfl] at h; omega
    have N0 : ¬ (0 ≤ nx l v 0 ∧ 0 ≤ ow l v 0) → tE l p v 0 = 0 := by
      intro c
      unfold tE wt
      split
      · rfl
      · rw [if_neg (by omega), Int.zero_mul]
    have T1 : 0 ≤ nx l v 1 ∧ 0 ≤ ow l v 1 → tE l p v 1 = (gi p (nx l v 1).toNat).Y - (gi p v).Y := by
      rintro ⟨c1, c2⟩
      unfold tE wt
      rw [if_neg (by omega), if_pos c2]
      rcases s.2 with h | h
      · omega
      · unfold Mu.strt at h; rw [if_neg (by decide)] at h; omega
    have N1 : ¬ (0 ≤ nx l v 1 ∧ 0 ≤ ow l v 1) → tE l p v 1 = 0 := by
      intro c
      unfold tE wt
      split
      · rfl
      · rw [if_neg (by omega), Int.zero_mul]
    have b0 := tE_le hc hp hn hv (show 0 < 4 by omega)
    have b1 := tE_le hc hp hn hv (show 1 < 4 by omega)
    simp only [p_muntinref17_Length.s0]
    rw [ifd_pos (by omega), ck_pos (by omega), Int.toNat_natCast, e0, e1, o0, o1]
    have S0 : (if (decide (0 ≤ nx l v 0) && decide (0 ≤ ow l v 0)) = true then ck ((0 : Int) ≤ nx l v 0 ∧ nx l v 0 < (p.length : Int)) <| ck (in64 (sumTo l p v + (gi p (nx l v 0).toNat).X)) <| ck ((0 : Int) ≤ (v : Int) ∧ (v : Int) < (p.length : Int)) <| ck (in64 ((sumTo l p v + (gi p (nx l v 0).toNat).X) - (gi p v).X)) <| some ((sumTo l p v + (gi p (nx l v 0).toNat).X) - (gi p v).X) else some (sumTo l p v)) = some (sumTo l p v + tE l p v 0) := by
      by_cases c : 0 ≤ nx l v 0 ∧ 0 ≤ ow l v 0
      · have pw := hn (nx l v 0).toNat (by omega)
        rw [if_pos (by simp [c]), ck_pos (by omega), ckI64 (by omega), ck_pos (by omega), ckI64 (by omega), T0 c]
        congr 1
        omega
      · rw [if_neg (by simp; omega), N0 c, Int.add_zero]
    rw [S0, Option.bind_some]
    rw [show sumTo l p (v + 1) = sumTo l p v + tE l p v 0 + tE l p v 1 from rfl]
    by_cases c : 0 ≤ nx l v 1 ∧ 0 ≤ ow l v 1
    · have pw := hn (nx l v 1).toNat (by omega)
      rw [if_pos (by simp [c]), ck_pos (by omega), ckI64 (by omega), ck_pos (by omega), ckI64 (by omega), ckI64 (by omega), T1 c, show ((v + 1 : Nat) : Int) = (v : Int) + 1 by omega]
      congr 3
      omega
    · rw [if_neg (by simp; omega), ckI64 (by omega), N1 c, Int.add_zero, show ((v + 1 : Nat) : Int) = (v : Int) + 1 by omega]
  · simp only [p_muntinref17_Length.s0]
    rw [ifd_neg (by omega)]
theorem mLen17 {l : List T_api_Cell} (hc : Ck l) (hl : l.length ≤ 64) {p : List T_api_Point} (hp : p.length = l.length) : p_muntinlaw17_length l p = some true := by
  unfold p_muntinlaw17_length
  by_cases n : Near6 p
  · rw [mLength hc hl hp n]
    have a : p.any far17 = false := by rw [far17_any]; exact near_any.2 n
    by_cases c : ∀ v, v < l.length → okE l p v 0 ∧ okE l p v 1
    · rw [if_pos c, Option.bind_some]
      dsimp only
      rw [mContP (f := fun y0 => p_muntinlaw17_length_1 y0) (g := far17) (by omega) (fun a _ => rfl), Option.bind_some, a, if_neg (by decide), rStraight hc hl hp, Option.bind_some, dec_t c, if_neg (by decide), ifd_pos rfl, rLength hc hl hp n c, Option.bind_some, dec_t rfl, Option.bind_some]
    · rw [if_neg c, Option.bind_some]
      dsimp only
      rw [mContP (f := fun y0 => p_muntinlaw17_length_1 y0) (g := far17) (by omega) (fun a _ => rfl), Option.bind_some, a, if_neg (by decide), rStraight hc hl hp, Option.bind_some, dec_f c, if_pos (by decide)]
      rfl
  · have a : p.any far17 = true := by
      rw [far17_any]
      cases q : p.any farB with
      | true => rfl
      | false => exact absurd (near_any.1 q) n
    rw [mLengthNo hc hl (by omega) (.inr n), Option.bind_some]
    dsimp only
    rw [mContP (f := fun y0 => p_muntinlaw17_length_1 y0) (g := far17) (by omega) (fun a _ => rfl), Option.bind_some, a, if_pos rfl]
    rfl
theorem ArcsPlace_main (z : T_muntinref10_Places) (x y : List Int) (m1 : z.At.length ≤ Go.maxLen) (b1 : ∀ y ∈ z.At, Ok_u8 y) (m2 : z.Bits.length ≤ Go.maxLen) (b2 : ∀ y ∈ z.Bits, Ok_u8 y) (m3 : z.Own.length ≤ Go.maxLen) (b3 : ∀ y ∈ z.Own, Ok_i8 y) (mx : x.length ≤ Go.maxLen) (bx : ∀ u ∈ x, Ok_i64 u) (my : y.length ≤ Go.maxLen) (by_ : ∀ u ∈ y, Ok_i64 u) : p_muntinlaw17_ArcsPlace z x y = some true := by
  obtain ⟨l, pts, e1, hM, hlen⟩ := mMake (z := z) (most := 16) (okZ m1 b1 b3) (by omega)
  have hc := hM.ck
  have hl : l.length ≤ 64 := by omega
  have hpl := hM.len
  have hA : AllCh l 1 ∧ AllCh l 0 := ⟨hM.allCh (by omega), hM.allCh (by omega)⟩
  obtain ⟨X', Y', V', H', s1, s2, cx', cy'⟩ := ((mSegOf (l := l) (by omega)).2 (Ck_iff.2 ⟨by omega, hc⟩)).1 hA
  obtain ⟨X, Y, V, H, s3, cx, cy⟩ := mArcsOf hc hl hA
  obtain ⟨rfl, rfl⟩ := cx.same hc (by omega) cx'
  obtain ⟨rfl, rfl⟩ := cy.same hc (by omega) cy'
  have x3 := cx.Ll
  have y3 := cy.Ll
  have L : loopF (p_muntinlaw17_ArcsPlace.s0 x y l ⟨⟨X, Y, V, H⟩, grTo l X 0 l.length, grTo l Y 1 l.length⟩ ⟨X, Y, V, H⟩) big 0 = some (.inl ()) := by
    refine loop_to (fun n : Nat => (n : Int)) (n := 2) (big_lt (by omega)) rfl (fun n hn => ?_) ?_
    · have hw : gi ([0, 9] : List Int) n = 0 ∨ gi ([0, 9] : List Int) n = 9 := by
        match n, hn with
        | 0, _ => exact .inl rfl
        | 1, _ => exact .inr rfl
      obtain ⟨a, n1, n2⟩ := mNumbers bx (n := V.length) (by omega) hw
      obtain ⟨b, n3, n4⟩ := mNumbers by_ (n := H.length) (by omega) hw
      simp only [p_muntinlaw17_ArcsPlace.s0, Int.toNat_natCast]
      rw [ifd_pos (by simp; omega), ck_pos (by simp; omega), n1, Option.bind_some, n3, Option.bind_some, mPlace hl cx cy n2 n4, Option.bind_some]
      dsimp only
      rw [ifn_neg rfl, rPlace hl cx cy n2 n4, Option.bind_some, mEqualP (by rw [place_len]; omega), Option.bind_some, Option.bind_some, if_neg (by decide), mLen17 hc hl place_len, Option.bind_some, if_neg (by decide), ck_pos (by simp; omega), mPlaceNo (by simp; omega), Option.bind_some]
      dsimp only
      rw [ifn_neg rfl, ckI64 (by omega), show ((n + 1 : Nat) : Int) = (n : Int) + 1 by omega]
    · simp only [p_muntinlaw17_ArcsPlace.s0]
      rw [ifd_neg (by simp)]
  unfold p_muntinlaw17_ArcsPlace
  rw [e1, Option.bind_some]
  dsimp only
  rw [s3, Option.bind_some]
  dsimp only
  rw [s2, Option.bind_some]
  dsimp only
  rw [kArcsWakes, Option.bind_some, if_neg (by simp), L, Option.bind_some]
  dsimp only
  by_cases c : 0 < pts.length
  · have p0 := hM.pts.b 0 c
    rw [ifd_pos (by omega)]
    unfold p_slices_Clone_api_Point
    rw [ck_pos (by omega), Option.bind_some, ck_pos (by omega), show (0 : Int).toNat = 0 from rfl, ckI64 (by omega), mLen17 hc hl (by rw [List.length_set]; omega), Option.bind_some, if_neg (by decide), ck_pos (by omega), mLengthNo hc hl (by rw [List.length_drop]; omega) (.inl (by rw [List.length_drop]; simp; omega)), Option.bind_some]
    dsimp only
    rw [ifn_neg rfl, mLen17 hc hl hpl.symm, Option.bind_some]
  · rw [ifd_neg (by omega), mLen17 hc hl hpl.symm, Option.bind_some]
end Mu
