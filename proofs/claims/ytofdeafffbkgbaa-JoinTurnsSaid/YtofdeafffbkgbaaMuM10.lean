/- Layer 10: cells, made of places. -/
import Derived.Test.YtofdeafffbkgbaaMuV
import Derived.Test.YtofdeafffbkgbaaMuDf
set_option linter.unusedVariables false
set_option linter.unusedSimpArgs false
set_option maxRecDepth 10000
namespace Mu

def nx (l : List T_api_Cell) (v d : Nat) : Int := ((gi l v).Next).get (d : Int)
def ow (l : List T_api_Cell) (v d : Nat) : Int := ((gi l v).Owner).get (d : Int)
theorem A4_get_set {α : Type} {x : A4 α} {i j : Nat} {v : α} (hi : i < 4) (hj : j < 4) : (x.set (i : Int) v).get (j : Int) = if j = i then v else x.get (j : Int) := by
  match i, j, hi, hj with
  | 0, 0, _, _ | 0, 1, _, _ | 0, 2, _, _ | 0, 3, _, _ | 1, 0, _, _ | 1, 1, _, _ | 1, 2, _, _ | 1, 3, _, _ | 2, 0, _, _ | 2, 1, _, _ | 2, 2, _, _ | 2, 3, _, _ | 3, 0, _, _ | 3, 1, _, _ | 3, 2, _, _ | 3, 3, _, _ => rfl
/-- A cell with no edges. -/
def noC : T_api_Cell := ⟨⟨-1, -1, -1, -1⟩, ⟨0, 0, 0, 0⟩⟩
theorem gi_map_range {α : Type} [Inhabited α] {n i : Nat} {f : Nat → α} (h : i < n) : gi ((List.range n).map f) i = f i := by
  rw [gi_eq (by simpa using h)]; simp
theorem list_ext {α : Type} [Inhabited α] {l m : List α} (h : l.length = m.length) (hg : ∀ i, i < l.length → gi l i = gi m i) : l = m := by
  apply List.ext_getElem h
  intro i h1 h2
  have := hg i h1
  rw [gi_eq h1, gi_eq h2] at this
  exact this

/-! New -/
theorem mNew {n : Nat} (hn : n ≤ 1000000000) : p_muntinref10_New n = some (List.replicate n noC) := by
  unfold p_muntinref10_New
  rw [ck_pos (by omega), Int.toNat_natCast, bd_eq (x := List.replicate n noC)]
  refine loop_to (fun i : Nat => (List.replicate i noC ++ List.replicate (n - i) ⟨⟨0, 0, 0, 0⟩, ⟨0, 0, 0, 0⟩⟩, (i : Int))) (n := n) (big_lt (by omega)) (by simp) (fun i hi => ?_) ?_
  · have e1 : List.replicate (n - i) (⟨⟨0, 0, 0, 0⟩, ⟨0, 0, 0, 0⟩⟩ : T_api_Cell) = ⟨⟨0, 0, 0, 0⟩, ⟨0, 0, 0, 0⟩⟩ :: List.replicate (n - (i + 1)) ⟨⟨0, 0, 0, 0⟩, ⟨0, 0, 0, 0⟩⟩ := by
      rw [show n - i = n - (i + 1) + 1 by omega, List.replicate_succ]
    have e2 : List.replicate (i + 1) noC = List.replicate i noC ++ [noC] := by rw [List.replicate_succ']
    have inner : loopF (p_muntinref10_New.s1 i) big (List.replicate i noC ++ List.replicate (n - i) ⟨⟨0, 0, 0, 0⟩, ⟨0, 0, 0, 0⟩⟩, 0) = some (List.replicate (i + 1) noC ++ List.replicate (n - (i + 1)) ⟨⟨0, 0, 0, 0⟩, ⟨0, 0, 0, 0⟩⟩) := by
      rw [e1, e2]
      generalize List.replicate (n - (i + 1)) (⟨⟨0, 0, 0, 0⟩, ⟨0, 0, 0, 0⟩⟩ : T_api_Cell) = r
      refine loop_to (fun k : Nat => (List.replicate i noC ++ (⟨⟨if 0 < k then -1 else 0, if 1 < k then -1 else 0, if 2 < k then -1 else 0, if 3 < k then -1 else 0⟩, ⟨0, 0, 0, 0⟩⟩ : T_api_Cell) :: r, (k : Int))) (n := 4) (big_lt (by omega)) rfl (fun k hk => ?_) ?_
      · have hlen : (List.replicate i noC).length = i := by simp
        have g : ∀ c : T_api_Cell, gi (List.replicate i noC ++ c :: r) i = c := by
          intro c
          have := gi_append_right (l := List.replicate i noC) (m := c :: r) (i := 0)
          rw [hlen, Nat.add_zero] at this
          rw [this]; rfl
        have st : ∀ c d : T_api_Cell, (List.replicate i noC ++ c :: r).set i d = List.replicate i noC ++ d :: r := by
          intro c d
          rw [List.set_append_right _ _ (by simp)]
          simp
        simp only [p_muntinref10_New.s1]
        rw [ifd_pos (by omega), ck_pos (by simp; omega), ck_pos (by omega), ck_pos (by omega), Int.toNat_natCast, g, st]
        match k, hk with
        | 0, _ | 1, _ | 2, _ | 3, _ => rfl
      · simp only [p_muntinref10_New.s1]
        rw [ifd_neg (by omega)]
        simp [noC]
    simp only [p_muntinref10_New.s0]
    rw [ifd_pos (by omega), inner, Option.bind_some, ck_pos (by omega)]
    rfl
  · simp only [p_muntinref10_New.s0]
    rw [ifd_neg (by omega)]
    simp

/-! The nearest -/
def cand (at_ : List T_api_Point) (i d k : Nat) : Prop := k < at_.length ∧ if d = 0 then (gi at_ k).Y = (gi at_ i).Y ∧ (gi at_ i).X < (gi at_ k).X else (gi at_ k).X = (gi at_ i).X ∧ (gi at_ i).Y < (gi at_ k).Y
def closer (at_ : List T_api_Point) (d j k : Nat) : Prop := if d = 0 then (gi at_ j).X ≤ (gi at_ k).X else (gi at_ j).Y ≤ (gi at_ k).Y
/-- The nearest of the first n. -/
def NearTo (at_ : List T_api_Point) (i d n : Nat) (w : Int) : Prop := (w = -1 ∧ ∀ k, k < n → ¬ cand at_ i d k) ∨ ∃ j : Nat, w = j ∧ j < n ∧ cand at_ i d j ∧ ∀ k, k < n → cand at_ i d k → closer at_ d j k
instance {at_ i d k} : Decidable (cand at_ i d k) := by unfold cand; infer_instance
instance {at_ d j k} : Decidable (closer at_ d j k) := by unfold closer; infer_instance
theorem mNear_step {at_ : List T_api_Point} {i d n : Nat} (hl : at_.length ≤ 1000) (hi : i < at_.length) (hd : d < 2) (hn : n < at_.length) {w : Int} (hw : NearTo at_ i d n w) : ∃ w', NearTo at_ i d (n + 1) w' ∧ p_muntinref10_Nearest.s0 at_ i d (w, n) = some (.inl (w', (n : Int) + 1)) := by
  have hlow : ¬ cand at_ i d n → NearTo at_ i d (n + 1) w := by
    intro hc
    rcases hw with ⟨rfl, h⟩ | ⟨j, rfl, h1, h2, h3⟩
    · refine .inl ⟨rfl, fun k hk => ?_⟩
      rcases Nat.lt_succ_iff_lt_or_eq.1 hk with h' | rfl
      · exact h k h'
      · exact hc
    · refine .inr ⟨j, rfl, by omega, h2, fun k hk hk2 => ?_⟩
      rcases Nat.lt_succ_iff_lt_or_eq.1 hk with h' | rfl
      · exact h3 k h' hk2
      · exact absurd hk2 hc
  have hnew : w = -1 → cand at_ i d n → NearTo at_ i d (n + 1) n := by
    intro hw1 hc
    rcases hw with ⟨_, h⟩ | ⟨j, h0, _⟩
    · refine .inr ⟨n, rfl, by omega, hc, fun k hk hk2 => ?_⟩
      rcases Nat.lt_succ_iff_lt_or_eq.1 hk with h' | rfl
      · exact absurd hk2 (h k h')
      · unfold closer; split <;> omega
    · omega
  have hkeep : ∀ j : Nat, w = j → closer at_ d j n → NearTo at_ i d (n + 1) w := by
    intro j hj hc
    rcases hw with ⟨h0, _⟩ | ⟨j', h0, h1, h2, h3⟩
    · omega
    · have : j = j' := by omega
      subst this
      refine .inr ⟨j, h0, by omega, h2, fun k hk hk2 => ?_⟩
      rcases Nat.lt_succ_iff_lt_or_eq.1 hk with h' | rfl
      · exact h3 k h' hk2
      · exact hc
  have hturn : ∀ j : Nat, w = j → ¬ closer at_ d j n → cand at_ i d n → NearTo at_ i d (n + 1) n := by
    intro j hj hc hcand
    rcases hw with ⟨h0, _⟩ | ⟨j', h0, h1, h2, h3⟩
    · omega
    · have : j = j' := by omega
      subst this
      refine .inr ⟨n, rfl, by omega, hcand, fun k hk hk2 => ?_⟩
      rcases Nat.lt_succ_iff_lt_or_eq.1 hk with h' | rfl
      · have h4 := h3 k h' hk2
        unfold closer at h4 hc ⊢
        by_cases z : d = 0
        · rw [if_pos z] at *; omega
        · rw [if_neg z] at *; omega
      · unfold closer; split <;> omega
  have hwc : w = -1 ∨ ∃ j : Nat, w = j ∧ j < n := by
    rcases hw with ⟨h, _⟩ | ⟨j, h, h2, _⟩
    · exact .inl h
    · exact .inr ⟨j, h, h2⟩
  have hd' : d = 0 ∨ d = 1 := by omega
  rcases hd' with rfl | rfl
  · have z : ((0 : Nat) : Int) = 0 := rfl
    by_cases hY : (gi at_ n).Y = (gi at_ i).Y
    · by_cases hX : (gi at_ i).X < (gi at_ n).X
      · have hc : cand at_ i 0 n := ⟨hn, by rw [if_pos rfl]; exact ⟨hY, hX⟩⟩
        rcases hwc with rfl | ⟨j, rfl, hj⟩
        · refine ⟨n, hnew rfl hc, ?_⟩
          simp (disch := omega) only [p_muntinref10_Nearest.s0, z, hY, ck_pos, ckK64, ckK8, ifd_pos, ifd_neg, ifn_pos, ifn_neg, dec_t, dec_f, Option.bind_some, Int.toNat_natCast, List.length_append, List.length_cons, List.length_nil, Nat.zero_add, if_true, if_false, Bool.false_eq_true, Bool.not_true, Bool.not_false, Bool.true_and, Bool.false_and, Bool.and_true, Bool.and_false, Bool.true_or, Bool.false_or, Bool.or_true, Bool.or_false, decide_true, decide_false, Bool.not_eq_true, Bool.decide_eq_true, Int.reduceToNat]
          try simp (disch := omega) only [ck_pos, ckK64, ckK8, ifd_pos, ifd_neg, ifn_pos, ifn_neg, dec_t, dec_f, Option.bind_some, Int.toNat_natCast, List.length_append, List.length_cons, List.length_nil, Nat.zero_add, if_true, if_false, Bool.false_eq_true, Bool.not_true, Bool.not_false, Bool.true_and, Bool.false_and, Bool.and_true, Bool.and_false, Bool.true_or, Bool.false_or, Bool.or_true, Bool.or_false, decide_true, decide_false, Bool.not_eq_true, Bool.decide_eq_true, Int.reduceToNat]
        · by_cases hcl : closer at_ 0 j n
          · refine ⟨j, hkeep j rfl hcl, ?_⟩
            have hcl' : (gi at_ j).X ≤ (gi at_ n).X := by simpa [closer] using hcl
            simp (disch := omega) only [p_muntinref10_Nearest.s0, z, hY, ck_pos, ckK64, ckK8, ifd_pos, ifd_neg, ifn_pos, ifn_neg, dec_t, dec_f, Option.bind_some, Int.toNat_natCast, List.length_append, List.length_cons, List.length_nil, Nat.zero_add, if_true, if_false, Bool.false_eq_true, Bool.not_true, Bool.not_false, Bool.true_and, Bool.false_and, Bool.and_true, Bool.and_false, Bool.true_or, Bool.false_or, Bool.or_true, Bool.or_false, decide_true, decide_false, Bool.not_eq_true, Bool.decide_eq_true, Int.reduceToNat]
            try simp (disch := omega) only [ck_pos, ckK64, ckK8, ifd_pos, ifd_neg, ifn_pos, ifn_neg, dec_t, dec_f, Option.bind_some, Int.toNat_natCast, List.length_append, List.length_cons, List.length_nil, Nat.zero_add, if_true, if_false, Bool.false_eq_true, Bool.not_true, Bool.not_false, Bool.true_and, Bool.false_and, Bool.and_true, Bool.and_false, Bool.true_or, Bool.false_or, Bool.or_true, Bool.or_false, decide_true, decide_false, Bool.not_eq_true, Bool.decide_eq_true, Int.reduceToNat]
          · refine ⟨n, hturn j rfl hcl hc, ?_⟩
            have hcl' : ¬ (gi at_ j).X ≤ (gi at_ n).X := by simpa [closer] using hcl
            simp (disch := omega) only [p_muntinref10_Nearest.s0, z, hY, ck_pos, ckK64, ckK8, ifd_pos, ifd_neg, ifn_pos, ifn_neg, dec_t, dec_f, Option.bind_some, Int.toNat_natCast, List.length_append, List.length_cons, List.length_nil, Nat.zero_add, if_true, if_false, Bool.false_eq_true, Bool.not_true, Bool.not_false, Bool.true_and, Bool.false_and, Bool.and_true, Bool.and_false, Bool.true_or, Bool.false_or, Bool.or_true, Bool.or_false, decide_true, decide_false, Bool.not_eq_true, Bool.decide_eq_true, Int.reduceToNat]
            try simp (disch := omega) only [ck_pos, ckK64, ckK8, ifd_pos, ifd_neg, ifn_pos, ifn_neg, dec_t, dec_f, Option.bind_some, Int.toNat_natCast, List.length_append, List.length_cons, List.length_nil, Nat.zero_add, if_true, if_false, Bool.false_eq_true, Bool.not_true, Bool.not_false, Bool.true_and, Bool.false_and, Bool.and_true, Bool.and_false, Bool.true_or, Bool.false_or, Bool.or_true, Bool.or_false, decide_true, decide_false, Bool.not_eq_true, Bool.decide_eq_true, Int.reduceToNat]
      · refine ⟨w, hlow (fun hc => hX (by have := hc.2; rw [if_pos rfl] at this; exact this.2)), ?_⟩
        simp (disch := omega) only [p_muntinref10_Nearest.s0, z, hY, ck_pos, ckK64, ckK8, ifd_pos, ifd_neg, ifn_pos, ifn_neg, dec_t, dec_f, Option.bind_some, Int.toNat_natCast, List.length_append, List.length_cons, List.length_nil, Nat.zero_add, if_true, if_false, Bool.false_eq_true, Bool.not_true, Bool.not_false, Bool.true_and, Bool.false_and, Bool.and_true, Bool.and_false, Bool.true_or, Bool.false_or, Bool.or_true, Bool.or_false, decide_true, decide_false, Bool.not_eq_true, Bool.decide_eq_true, Int.reduceToNat]
        try simp (disch := omega) only [ck_pos, ckK64, ckK8, ifd_pos, ifd_neg, ifn_pos, ifn_neg, dec_t, dec_f, Option.bind_some, Int.toNat_natCast, List.length_append, List.length_cons, List.length_nil, Nat.zero_add, if_true, if_false, Bool.false_eq_true, Bool.not_true, Bool.not_false, Bool.true_and, Bool.false_and, Bool.and_true, Bool.and_false, Bool.true_or, Bool.false_or, Bool.or_true, Bool.or_false, decide_true, decide_false, Bool.not_eq_true, Bool.decide_eq_true, Int.reduceToNat]
    · refine ⟨w, hlow (fun hc => hY (by have := hc.2; rw [if_pos rfl] at this; exact this.1)), ?_⟩
      simp (disch := omega) only [p_muntinref10_Nearest.s0, z, hY, ck_pos, ckK64, ckK8, ifd_pos, ifd_neg, ifn_pos, ifn_neg, dec_t, dec_f, Option.bind_some, Int.toNat_natCast, List.length_append, List.length_cons, List.length_nil, Nat.zero_add, if_true, if_false, Bool.false_eq_true, Bool.not_true, Bool.not_false, Bool.true_and, Bool.false_and, Bool.and_true, Bool.and_false, Bool.true_or, Bool.false_or, Bool.or_true, Bool.or_false, decide_true, decide_false, Bool.not_eq_true, Bool.decide_eq_true, Int.reduceToNat]
      try simp (disch := omega) only [ck_pos, ckK64, ckK8, ifd_pos, ifd_neg, ifn_pos, ifn_neg, dec_t, dec_f, Option.bind_some, Int.toNat_natCast, List.length_append, List.length_cons, List.length_nil, Nat.zero_add, if_true, if_false, Bool.false_eq_true, Bool.not_true, Bool.not_false, Bool.true_and, Bool.false_and, Bool.and_true, Bool.and_false, Bool.true_or, Bool.false_or, Bool.or_true, Bool.or_false, decide_true, decide_false, Bool.not_eq_true, Bool.decide_eq_true, Int.reduceToNat]
  · have z : ((1 : Nat) : Int) = 1 := rfl
    by_cases hY : (gi at_ n).X = (gi at_ i).X
    · by_cases hX : (gi at_ i).Y < (gi at_ n).Y
      · have hc : cand at_ i 1 n := ⟨hn, by rw [if_neg (by decide)]; exact ⟨hY, hX⟩⟩
        rcases hwc with rfl | ⟨j, rfl, hj⟩
        · refine ⟨n, hnew rfl hc, ?_⟩
          simp (disch := omega) only [p_muntinref10_Nearest.s0, z, hY, ck_pos, ckK64, ckK8, ifd_pos, ifd_neg, ifn_pos, ifn_neg, dec_t, dec_f, Option.bind_some, Int.toNat_natCast, List.length_append, List.length_cons, List.length_nil, Nat.zero_add, if_true, if_false, Bool.false_eq_true, Bool.not_true, Bool.not_false, Bool.true_and, Bool.false_and, Bool.and_true, Bool.and_false, Bool.true_or, Bool.false_or, Bool.or_true, Bool.or_false, decide_true, decide_false, Bool.not_eq_true, Bool.decide_eq_true, Int.reduceToNat]
          try simp (disch := omega) only [ck_pos, ckK64, ckK8, ifd_pos, ifd_neg, ifn_pos, ifn_neg, dec_t, dec_f, Option.bind_some, Int.toNat_natCast, List.length_append, List.length_cons, List.length_nil, Nat.zero_add, if_true, if_false, Bool.false_eq_true, Bool.not_true, Bool.not_false, Bool.true_and, Bool.false_and, Bool.and_true, Bool.and_false, Bool.true_or, Bool.false_or, Bool.or_true, Bool.or_false, decide_true, decide_false, Bool.not_eq_true, Bool.decide_eq_true, Int.reduceToNat]
        · by_cases hcl : closer at_ 1 j n
          · refine ⟨j, hkeep j rfl hcl, ?_⟩
            have hcl' : (gi at_ j).Y ≤ (gi at_ n).Y := by simpa [closer] using hcl
            simp (disch := omega) only [p_muntinref10_Nearest.s0, z, hY, ck_pos, ckK64, ckK8, ifd_pos, ifd_neg, ifn_pos, ifn_neg, dec_t, dec_f, Option.bind_some, Int.toNat_natCast, List.length_append, List.length_cons, List.length_nil, Nat.zero_add, if_true, if_false, Bool.false_eq_true, Bool.not_true, Bool.not_false, Bool.true_and, Bool.false_and, Bool.and_true, Bool.and_false, Bool.true_or, Bool.false_or, Bool.or_true, Bool.or_false, decide_true, decide_false, Bool.not_eq_true, Bool.decide_eq_true, Int.reduceToNat]
            try simp (disch := omega) only [ck_pos, ckK64, ckK8, ifd_pos, ifd_neg, ifn_pos, ifn_neg, dec_t, dec_f, Option.bind_some, Int.toNat_natCast, List.length_append, List.length_cons, List.length_nil, Nat.zero_add, if_true, if_false, Bool.false_eq_true, Bool.not_true, Bool.not_false, Bool.true_and, Bool.false_and, Bool.and_true, Bool.and_false, Bool.true_or, Bool.false_or, Bool.or_true, Bool.or_false, decide_true, decide_false, Bool.not_eq_true, Bool.decide_eq_true, Int.reduceToNat]
          · refine ⟨n, hturn j rfl hcl hc, ?_⟩
            have hcl' : ¬ (gi at_ j).Y ≤ (gi at_ n).Y := by simpa [closer] using hcl
            simp (disch := omega) only [p_muntinref10_Nearest.s0, z, hY, ck_pos, ckK64, ckK8, ifd_pos, ifd_neg, ifn_pos, ifn_neg, dec_t, dec_f, Option.bind_some, Int.toNat_natCast, List.length_append, List.length_cons, List.length_nil, Nat.zero_add, if_true, if_false, Bool.false_eq_true, Bool.not_true, Bool.not_false, Bool.true_and, Bool.false_and, Bool.and_true, Bool.and_false, Bool.true_or, Bool.false_or, Bool.or_true, Bool.or_false, decide_true, decide_false, Bool.not_eq_true, Bool.decide_eq_true, Int.reduceToNat]
            try simp (disch := omega) only [ck_pos, ckK64, ckK8, ifd_pos, ifd_neg, ifn_pos, ifn_neg, dec_t, dec_f, Option.bind_some, Int.toNat_natCast, List.length_append, List.length_cons, List.length_nil, Nat.zero_add, if_true, if_false, Bool.false_eq_true, Bool.not_true, Bool.not_false, Bool.true_and, Bool.false_and, Bool.and_true, Bool.and_false, Bool.true_or, Bool.false_or, Bool.or_true, Bool.or_false, decide_true, decide_false, Bool.not_eq_true, Bool.decide_eq_true, Int.reduceToNat]
      · refine ⟨w, hlow (fun hc => hX (by have := hc.2; rw [if_neg (by decide)] at this; exact this.2)), ?_⟩
        simp (disch := omega) only [p_muntinref10_Nearest.s0, z, hY, ck_pos, ckK64, ckK8, ifd_pos, ifd_neg, ifn_pos, ifn_neg, dec_t, dec_f, Option.bind_some, Int.toNat_natCast, List.length_append, List.length_cons, List.length_nil, Nat.zero_add, if_true, if_false, Bool.false_eq_true, Bool.not_true, Bool.not_false, Bool.true_and, Bool.false_and, Bool.and_true, Bool.and_false, Bool.true_or, Bool.false_or, Bool.or_true, Bool.or_false, decide_true, decide_false, Bool.not_eq_true, Bool.decide_eq_true, Int.reduceToNat]
        try simp (disch := omega) only [ck_pos, ckK64, ckK8, ifd_pos, ifd_neg, ifn_pos, ifn_neg, dec_t, dec_f, Option.bind_some, Int.toNat_natCast, List.length_append, List.length_cons, List.length_nil, Nat.zero_add, if_true, if_false, Bool.false_eq_true, Bool.not_true, Bool.not_false, Bool.true_and, Bool.false_and, Bool.and_true, Bool.and_false, Bool.true_or, Bool.false_or, Bool.or_true, Bool.or_false, decide_true, decide_false, Bool.not_eq_true, Bool.decide_eq_true, Int.reduceToNat]
    · refine ⟨w, hlow (fun hc => hY (by have := hc.2; rw [if_neg (by decide)] at this; exact this.1)), ?_⟩
      simp (disch := omega) only [p_muntinref10_Nearest.s0, z, hY, ck_pos, ckK64, ckK8, ifd_pos, ifd_neg, ifn_pos, ifn_neg, dec_t, dec_f, Option.bind_some, Int.toNat_natCast, List.length_append, List.length_cons, List.length_nil, Nat.zero_add, if_true, if_false, Bool.false_eq_true, Bool.not_true, Bool.not_false, Bool.true_and, Bool.false_and, Bool.and_true, Bool.and_false, Bool.true_or, Bool.false_or, Bool.or_true, Bool.or_false, decide_true, decide_false, Bool.not_eq_true, Bool.decide_eq_true, Int.reduceToNat]
      try simp (disch := omega) only [ck_pos, ckK64, ckK8, ifd_pos, ifd_neg, ifn_pos, ifn_neg, dec_t, dec_f, Option.bind_some, Int.toNat_natCast, List.length_append, List.length_cons, List.length_nil, Nat.zero_add, if_true, if_false, Bool.false_eq_true, Bool.not_true, Bool.not_false, Bool.true_and, Bool.false_and, Bool.and_true, Bool.and_false, Bool.true_or, Bool.false_or, Bool.or_true, Bool.or_false, decide_true, decide_false, Bool.not_eq_true, Bool.decide_eq_true, Int.reduceToNat]
/-- A loop that keeps something. -/
theorem loop_inv {σ ρ : Type} {step : σ → Option (σ ⊕ ρ)} {n : Nat} (I : Nat → σ → Prop) {s0 : σ} {R : ρ → Prop} (hn : n < big) (h0 : I 0 s0) (hs : ∀ i s, i < n → I i s → ∃ s', step s = some (.inl s') ∧ I (i + 1) s') (he : ∀ s, I n s → ∃ r, step s = some (.inr r) ∧ R r) : ∃ r, loopF step big s0 = some r ∧ R r := by
  have key : ∀ k i s, i + k = n → I i s → ∃ r, loopF step (k + 1) s = some r ∧ R r := by
    intro k
    induction k with
    | zero =>
      intro i s hi hI
      obtain rfl : i = n := by omega
      obtain ⟨r, hr, hR⟩ := he s hI
      exact ⟨r, by simp only [loopF, hr], hR⟩
    | succ k ih =>
      intro i s hi hI
      obtain ⟨s', hs', hI'⟩ := hs i s (by omega) hI
      obtain ⟨r, hr, hR⟩ := ih (i + 1) s' (by omega) hI'
      exact ⟨r, by rw [loopF, hs']; exact hr, hR⟩
  obtain ⟨r, hr, hR⟩ := key n 0 s0 (by omega) h0
  exact ⟨r, loopF_le hr (by unfold big at *; omega), hR⟩
theorem mNear {at_ : List T_api_Point} {i d : Nat} (hl : at_.length ≤ 1000) (hi : i < at_.length) (hd : d < 2) : ∃ w, p_muntinref10_Nearest at_ i d = some w ∧ NearTo at_ i d at_.length w := by
  obtain ⟨r, hr, hR⟩ := loop_inv (step := p_muntinref10_Nearest.s0 at_ i d) (n := at_.length) (I := fun n (s : Int × Int) => s.2 = n ∧ NearTo at_ i d n s.1) (s0 := ((-1 : Int), (0 : Int))) (R := NearTo at_ i d at_.length) (big_lt (by omega)) ⟨rfl, .inl ⟨rfl, fun k hk => by omega⟩⟩ (fun n (s : Int × Int) hn hs => by
    obtain ⟨w, m⟩ := s
    obtain ⟨rfl, hw⟩ := hs
    obtain ⟨w', h1, h2⟩ := mNear_step hl hi hd hn hw
    exact ⟨_, h2, rfl, h1⟩) (fun (s : Int × Int) hs => by
    obtain ⟨w, m⟩ := s
    obtain ⟨rfl, hw⟩ := hs
    exact ⟨w, by simp only [p_muntinref10_Nearest.s0]; rw [ifd_neg (by omega)], hw⟩)
  exact ⟨r, by unfold p_muntinref10_Nearest; rw [hr]; rfl, hR⟩
end Mu
