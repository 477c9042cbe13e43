/- The law, plainly: what is worked out. -/
import Derived.Test.YtdefkboekpjiiaaMuV
import Derived.Test.YtdefkboekpjiiaaMuDf
/- Layer 10: cells, made of places. -/
set_option linter.unusedVariables false
set_option linter.unusedSimpArgs false
set_option maxRecDepth 10000
namespace Mu

def nx (l : List Zk) (v d : Nat) : Int := ((gi l v).Next).get (d : Int)
def ow (l : List Zk) (v d : Nat) : Int := ((gi l v).Owner).get (d : Int)
theorem A4_get_set {α : Type} {x : A4 α} {i j : Nat} {v : α} (hi : i < 4) (hj : j < 4) : (x.set (i : Int) v).get (j : Int) = if j = i then v else x.get (j : Int) := by
  match i, j, hi, hj with
  | 0, 0, _, _ | 0, 1, _, _ | 0, 2, _, _ | 0, 3, _, _ | 1, 0, _, _ | 1, 1, _, _ | 1, 2, _, _ | 1, 3, _, _ | 2, 0, _, _ | 2, 1, _, _ | 2, 2, _, _ | 2, 3, _, _ | 3, 0, _, _ | 3, 1, _, _ | 3, 2, _, _ | 3, 3, _, _ => rfl
/-- A cell with no edges. -/
def noC : Zk := ⟨⟨-1, -1, -1, -1⟩, ⟨0, 0, 0, 0⟩⟩
theorem gi_map_range {α : Type} [Inhabited α] {n i : Nat} {f : Nat → α} (h : i < n) : gi ((List.range n).map f) i = f i := by
  rw [gi_eq (by simpa using h)]; simp
theorem list_ext {α : Type} [Inhabited α] {l m : List α} (h : l.length = m.length) (hg : ∀ i, i < l.length → gi l i = gi m i) : l = m := by
  apply List.ext_getElem h
  intro i h1 h2
  have := hg i h1
  rw [gi_eq h1, gi_eq h2] at this
  exact this

/-! New -/
theorem mNew {n : Nat} (hn : n ≤ 1000000000) : zx n = some (List.replicate n noC) := by
  unfold zx
  rw [Z0 (by omega), Int.toNat_natCast, bd_eq (x := List.replicate n noC)]
  refine loop_to (fun i : Nat => (List.replicate i noC ++ List.replicate (n - i) ⟨⟨0, 0, 0, 0⟩, ⟨0, 0, 0, 0⟩⟩, (i : Int))) (n := n) (big_lt (by omega)) (by simp) (fun i hi => ?_) ?_
  · have e1 : List.replicate (n - i) (⟨⟨0, 0, 0, 0⟩, ⟨0, 0, 0, 0⟩⟩ : Zk) = ⟨⟨0, 0, 0, 0⟩, ⟨0, 0, 0, 0⟩⟩ :: List.replicate (n - (i + 1)) ⟨⟨0, 0, 0, 0⟩, ⟨0, 0, 0, 0⟩⟩ := by
      rw [show n - i = n - (i + 1) + 1 by omega, List.replicate_succ]
    have e2 : List.replicate (i + 1) noC = List.replicate i noC ++ [noC] := by rw [List.replicate_succ']
    have inner : loopF (zx.s1 i) big (List.replicate i noC ++ List.replicate (n - i) ⟨⟨0, 0, 0, 0⟩, ⟨0, 0, 0, 0⟩⟩, 0) = some (List.replicate (i + 1) noC ++ List.replicate (n - (i + 1)) ⟨⟨0, 0, 0, 0⟩, ⟨0, 0, 0, 0⟩⟩) := by
      rw [e1, e2]
      generalize List.replicate (n - (i + 1)) (⟨⟨0, 0, 0, 0⟩, ⟨0, 0, 0, 0⟩⟩ : Zk) = r
      refine loop_to (fun k : Nat => (List.replicate i noC ++ (⟨⟨if 0 < k then -1 else 0, if 1 < k then -1 else 0, if 2 < k then -1 else 0, if 3 < k then -1 else 0⟩, ⟨0, 0, 0, 0⟩⟩ : Zk) :: r, (k : Int))) (n := 4) (big_lt (by omega)) rfl (fun k hk => ?_) ?_
      · have hlen : (List.replicate i noC).length = i := by simp
        have g : ∀ c : Zk, gi (List.replicate i noC ++ c :: r) i = c := by
          intro c
          have := gi_append_right (l := List.replicate i noC) (m := c :: r) (i := 0)
          rw [hlen, Nat.add_zero] at this
          rw [this]; rfl
        have st : ∀ c d : Zk, (List.replicate i noC ++ c :: r).set i d = List.replicate i noC ++ d :: r := by
          intro c d
          rw [List.set_append_right _ _ (by simp)]
          simp
        simp only [zx.s1]
        rw [Z1 (by omega), Z0 (by simp; omega), Z0 (by omega), Z0 (by omega), Int.toNat_natCast, g, st]
        match k, hk with
        | 0, _ | 1, _ | 2, _ | 3, _ => rfl
      · simp only [zx.s1]
        rw [Z2 (by omega)]
        simp [noC]
    simp only [zx.s0]
    rw [Z1 (by omega), inner, Option.bind_some, Z0 (by omega)]
    rfl
  · simp only [zx.s0]
    rw [Z2 (by omega)]
    simp

/-! The nearest -/
def cand (at_ : List Zu) (i d k : Nat) : Prop := k < at_.length ∧ if d = 0 then (gi at_ k).Y = (gi at_ i).Y ∧ (gi at_ i).X < (gi at_ k).X else (gi at_ k).X = (gi at_ i).X ∧ (gi at_ i).Y < (gi at_ k).Y
def closer (at_ : List Zu) (d j k : Nat) : Prop := if d = 0 then (gi at_ j).X ≤ (gi at_ k).X else (gi at_ j).Y ≤ (gi at_ k).Y
/-- The nearest of the first n. -/
def NearTo (at_ : List Zu) (i d n : Nat) (w : Int) : Prop := (w = -1 ∧ ∀ k, k < n → ¬ cand at_ i d k) ∨ ∃ j : Nat, w = j ∧ j < n ∧ cand at_ i d j ∧ ∀ k, k < n → cand at_ i d k → closer at_ d j k
instance {at_ i d k} : Decidable (cand at_ i d k) := by unfold cand; infer_instance
instance {at_ d j k} : Decidable (closer at_ d j k) := by unfold closer; infer_instance
theorem mNear_step {at_ : List Zu} {i d n : Nat} (hl : at_.length ≤ 1000) (hi : i < at_.length) (hd : d < 2) (hn : n < at_.length) {w : Int} (hw : NearTo at_ i d n w) : ∃ w', NearTo at_ i d (n + 1) w' ∧ ZU.s0 at_ i d (w, n) = some (.inl (w', (n : Int) + 1)) := by
  have hlow : ¬ cand at_ i d n → NearTo at_ i d (n + 1) w := by
    intro hc
    rcases hw with ⟨rfl, h⟩ | ⟨j, rfl, h1, h2, h3⟩
    · refine .inl ⟨rfl, fun k hk => ?_⟩
      rcases Nat.lt_succ_iff_lt_or_eq.1 hk with h' | rfl
      · exact h k h'
      · exact hc
    · refine .inr ⟨j, rfl, by omega, h2, fun k hk hk2 => ?_⟩
      rcases Nat.lt_succ_iff_lt_or_eq.1 hk with h' | rfl
      · exact h3 k h' hk2
      · exact absurd hk2 hc
  have hnew : w = -1 → cand at_ i d n → NearTo at_ i d (n + 1) n := by
    intro hw1 hc
    rcases hw with ⟨_, h⟩ | ⟨j, h0, _⟩
    · refine .inr ⟨n, rfl, by omega, hc, fun k hk hk2 => ?_⟩
      rcases Nat.lt_succ_iff_lt_or_eq.1 hk with h' | rfl
      · exact absurd hk2 (h k h')
      · unfold closer; split <;> omega
    · omega
  have hkeep : ∀ j : Nat, w = j → closer at_ d j n → NearTo at_ i d (n + 1) w := by
    intro j hj hc
    rcases hw with ⟨h0, _⟩ | ⟨j', h0, h1, h2, h3⟩
    · omega
    · have : j = j' := by omega
      subst this
      refine .inr ⟨j, h0, by omega, h2, fun k hk hk2 => ?_⟩
      rcases Nat.lt_succ_iff_lt_or_eq.1 hk with h' | rfl
      · exact h3 k h' hk2
      · exact hc
  have hturn : ∀ j : Nat, w = j → ¬ closer at_ d j n → cand at_ i d n → NearTo at_ i d (n + 1) n := by
    intro j hj hc hcand
    rcases hw with ⟨h0, _⟩ | ⟨j', h0, h1, h2, h3⟩
    · omega
    · have : j = j' := by omega
      subst this
      refine .inr ⟨n, rfl, by omega, hcand, fun k hk hk2 => ?_⟩
      rcases Nat.lt_succ_iff_lt_or_eq.1 hk with h' | rfl
      · have h4 := h3 k h' hk2
        unfold closer at h4 hc ⊢
        by_cases z : d = 0
        · rw [if_pos z] at *; omega
        · rw [if_neg z] at *; omega
      · unfold closer; split <;> omega
  have hwc : w = -1 ∨ ∃ j : Nat, w = j ∧ j < n := by
    rcases hw with ⟨h, _⟩ | ⟨j, h, h2, _⟩
    · exact .inl h
    · exact .inr ⟨j, h, h2⟩
  have hd' : d = 0 ∨ d = 1 := by omega
  rcases hd' with rfl | rfl
  · have z : ((0 : Nat) : Int) = 0 := rfl
    by_cases hY : (gi at_ n).Y = (gi at_ i).Y
    · by_cases hX : (gi at_ i).X < (gi at_ n).X
      · have hc : cand at_ i 0 n := ⟨hn, by rw [if_pos rfl]; exact ⟨hY, hX⟩⟩
        rcases hwc with rfl | ⟨j, rfl, hj⟩
        · refine ⟨n, hnew rfl hc, ?_⟩
          simp (disch := omega) only [ZU.s0, z, hY, Z0, ckK64, ckK8, Z1, Z2, ZR, ZG, dec_t, dec_f, Option.bind_some, Int.toNat_natCast, List.length_append, List.length_cons, List.length_nil, Nat.zero_add, if_true, if_false, Bool.false_eq_true, Bool.not_true, Bool.not_false, Bool.true_and, Bool.false_and, Bool.and_true, Bool.and_false, Bool.true_or, Bool.false_or, Bool.or_true, Bool.or_false, decide_true, decide_false, Bool.not_eq_true, Bool.decide_eq_true, Int.reduceToNat]
          try simp (disch := omega) only [Z0, ckK64, ckK8, Z1, Z2, ZR, ZG, dec_t, dec_f, Option.bind_some, Int.toNat_natCast, List.length_append, List.length_cons, List.length_nil, Nat.zero_add, if_true, if_false, Bool.false_eq_true, Bool.not_true, Bool.not_false, Bool.true_and, Bool.false_and, Bool.and_true, Bool.and_false, Bool.true_or, Bool.false_or, Bool.or_true, Bool.or_false, decide_true, decide_false, Bool.not_eq_true, Bool.decide_eq_true, Int.reduceToNat]
        · by_cases hcl : closer at_ 0 j n
          · refine ⟨j, hkeep j rfl hcl, ?_⟩
            have hcl' : (gi at_ j).X ≤ (gi at_ n).X := by simpa [closer] using hcl
            simp (disch := omega) only [ZU.s0, z, hY, Z0, ckK64, ckK8, Z1, Z2, ZR, ZG, dec_t, dec_f, Option.bind_some, Int.toNat_natCast, List.length_append, List.length_cons, List.length_nil, Nat.zero_add, if_true, if_false, Bool.false_eq_true, Bool.not_true, Bool.not_false, Bool.true_and, Bool.false_and, Bool.and_true, Bool.and_false, Bool.true_or, Bool.false_or, Bool.or_true, Bool.or_false, decide_true, decide_false, Bool.not_eq_true, Bool.decide_eq_true, Int.reduceToNat]
            try simp (disch := omega) only [Z0, ckK64, ckK8, Z1, Z2, ZR, ZG, dec_t, dec_f, Option.bind_some, Int.toNat_natCast, List.length_append, List.length_cons, List.length_nil, Nat.zero_add, if_true, if_false, Bool.false_eq_true, Bool.not_true, Bool.not_false, Bool.true_and, Bool.false_and, Bool.and_true, Bool.and_false, Bool.true_or, Bool.false_or, Bool.or_true, Bool.or_false, decide_true, decide_false, Bool.not_eq_true, Bool.decide_eq_true, Int.reduceToNat]
          · refine ⟨n, hturn j rfl hcl hc, ?_⟩
            have hcl' : ¬ (gi at_ j).X ≤ (gi at_ n).X := by simpa [closer] using hcl
            simp (disch := omega) only [ZU.s0, z, hY, Z0, ckK64, ckK8, Z1, Z2, ZR, ZG, dec_t, dec_f, Option.bind_some, Int.toNat_natCast, List.length_append, List.length_cons, List.length_nil, Nat.zero_add, if_true, if_false, Bool.false_eq_true, Bool.not_true, Bool.not_false, Bool.true_and, Bool.false_and, Bool.and_true, Bool.and_false, Bool.true_or, Bool.false_or, Bool.or_true, Bool.or_false, decide_true, decide_false, Bool.not_eq_true, Bool.decide_eq_true, Int.reduceToNat]
            try simp (disch := omega) only [Z0, ckK64, ckK8, Z1, Z2, ZR, ZG, dec_t, dec_f, Option.bind_some, Int.toNat_natCast, List.length_append, List.length_cons, List.length_nil, Nat.zero_add, if_true, if_false, Bool.false_eq_true, Bool.not_true, Bool.not_false, Bool.true_and, Bool.false_and, Bool.and_true, Bool.and_false, Bool.true_or, Bool.false_or, Bool.or_true, Bool.or_false, decide_true, decide_false, Bool.not_eq_true, Bool.decide_eq_true, Int.reduceToNat]
      · refine ⟨w, hlow (fun hc => hX (by have := hc.2; rw [if_pos rfl] at this; exact this.2)), ?_⟩
        simp (disch := omega) only [ZU.s0, z, hY, Z0, ckK64, ckK8, Z1, Z2, ZR, ZG, dec_t, dec_f, Option.bind_some, Int.toNat_natCast, List.length_append, List.length_cons, List.length_nil, Nat.zero_add, if_true, if_false, Bool.false_eq_true, Bool.not_true, Bool.not_false, Bool.true_and, Bool.false_and, Bool.and_true, Bool.and_false, Bool.true_or, Bool.false_or, Bool.or_true, Bool.or_false, decide_true, decide_false, Bool.not_eq_true, Bool.decide_eq_true, Int.reduceToNat]
        try simp (disch := omega) only [Z0, ckK64, ckK8, Z1, Z2, ZR, ZG, dec_t, dec_f, Option.bind_some, Int.toNat_natCast, List.length_append, List.length_cons, List.length_nil, Nat.zero_add, if_true, if_false, Bool.false_eq_true, Bool.not_true, Bool.not_false, Bool.true_and, Bool.false_and, Bool.and_true, Bool.and_false, Bool.true_or, Bool.false_or, Bool.or_true, Bool.or_false, decide_true, decide_false, Bool.not_eq_true, Bool.decide_eq_true, Int.reduceToNat]
    · refine ⟨w, hlow (fun hc => hY (by have := hc.2; rw [if_pos rfl] at this; exact this.1)), ?_⟩
      simp (disch := omega) only [ZU.s0, z, hY, Z0, ckK64, ckK8, Z1, Z2, ZR, ZG, dec_t, dec_f, Option.bind_some, Int.toNat_natCast, List.length_append, List.length_cons, List.length_nil, Nat.zero_add, if_true, if_false, Bool.false_eq_true, Bool.not_true, Bool.not_false, Bool.true_and, Bool.false_and, Bool.and_true, Bool.and_false, Bool.true_or, Bool.false_or, Bool.or_true, Bool.or_false, decide_true, decide_false, Bool.not_eq_true, Bool.decide_eq_true, Int.reduceToNat]
      try simp (disch := omega) only [Z0, ckK64, ckK8, Z1, Z2, ZR, ZG, dec_t, dec_f, Option.bind_some, Int.toNat_natCast, List.length_append, List.length_cons, List.length_nil, Nat.zero_add, if_true, if_false, Bool.false_eq_true, Bool.not_true, Bool.not_false, Bool.true_and, Bool.false_and, Bool.and_true, Bool.and_false, Bool.true_or, Bool.false_or, Bool.or_true, Bool.or_false, decide_true, decide_false, Bool.not_eq_true, Bool.decide_eq_true, Int.reduceToNat]
  · have z : ((1 : Nat) : Int) = 1 := rfl
    by_cases hY : (gi at_ n).X = (gi at_ i).X
    · by_cases hX : (gi at_ i).Y < (gi at_ n).Y
      · have hc : cand at_ i 1 n := ⟨hn, by rw [if_neg (by decide)]; exact ⟨hY, hX⟩⟩
        rcases hwc with rfl | ⟨j, rfl, hj⟩
        · refine ⟨n, hnew rfl hc, ?_⟩
          simp (disch := omega) only [ZU.s0, z, hY, Z0, ckK64, ckK8, Z1, Z2, ZR, ZG, dec_t, dec_f, Option.bind_some, Int.toNat_natCast, List.length_append, List.length_cons, List.length_nil, Nat.zero_add, if_true, if_false, Bool.false_eq_true, Bool.not_true, Bool.not_false, Bool.true_and, Bool.false_and, Bool.and_true, Bool.and_false, Bool.true_or, Bool.false_or, Bool.or_true, Bool.or_false, decide_true, decide_false, Bool.not_eq_true, Bool.decide_eq_true, Int.reduceToNat]
          try simp (disch := omega) only [Z0, ckK64, ckK8, Z1, Z2, ZR, ZG, dec_t, dec_f, Option.bind_some, Int.toNat_natCast, List.length_append, List.length_cons, List.length_nil, Nat.zero_add, if_true, if_false, Bool.false_eq_true, Bool.not_true, Bool.not_false, Bool.true_and, Bool.false_and, Bool.and_true, Bool.and_false, Bool.true_or, Bool.false_or, Bool.or_true, Bool.or_false, decide_true, decide_false, Bool.not_eq_true, Bool.decide_eq_true, Int.reduceToNat]
        · by_cases hcl : closer at_ 1 j n
          · refine ⟨j, hkeep j rfl hcl, ?_⟩
            have hcl' : (gi at_ j).Y ≤ (gi at_ n).Y := by simpa [closer] using hcl
            simp (disch := omega) only [ZU.s0, z, hY, Z0, ckK64, ckK8, Z1, Z2, ZR, ZG, dec_t, dec_f, Option.bind_some, Int.toNat_natCast, List.length_append, List.length_cons, List.length_nil, Nat.zero_add, if_true, if_false, Bool.false_eq_true, Bool.not_true, Bool.not_false, Bool.true_and, Bool.false_and, Bool.and_true, Bool.and_false, Bool.true_or, Bool.false_or, Bool.or_true, Bool.or_false, decide_true, decide_false, Bool.not_eq_true, Bool.decide_eq_true, Int.reduceToNat]
            try simp (disch := omega) only [Z0, ckK64, ckK8, Z1, Z2, ZR, ZG, dec_t, dec_f, Option.bind_some, Int.toNat_natCast, List.length_append, List.length_cons, List.length_nil, Nat.zero_add, if_true, if_false, Bool.false_eq_true, Bool.not_true, Bool.not_false, Bool.true_and, Bool.false_and, Bool.and_true, Bool.and_false, Bool.true_or, Bool.false_or, Bool.or_true, Bool.or_false, decide_true, decide_false, Bool.not_eq_true, Bool.decide_eq_true, Int.reduceToNat]
          · refine ⟨n, hturn j rfl hcl hc, ?_⟩
            have hcl' : ¬ (gi at_ j).Y ≤ (gi at_ n).Y := by simpa [closer] using hcl
            simp (disch := omega) only [ZU.s0, z, hY, Z0, ckK64, ckK8, Z1, Z2, ZR, ZG, dec_t, dec_f, Option.bind_some, Int.toNat_natCast, List.length_append, List.length_cons, List.length_nil, Nat.zero_add, if_true, if_false, Bool.false_eq_true, Bool.not_true, Bool.not_false, Bool.true_and, Bool.false_and, Bool.and_true, Bool.and_false, Bool.true_or, Bool.false_or, Bool.or_true, Bool.or_false, decide_true, decide_false, Bool.not_eq_true, Bool.decide_eq_true, Int.reduceToNat]
            try simp (disch := omega) only [Z0, ckK64, ckK8, Z1, Z2, ZR, ZG, dec_t, dec_f, Option.bind_some, Int.toNat_natCast, List.length_append, List.length_cons, List.length_nil, Nat.zero_add, if_true, if_false, Bool.false_eq_true, Bool.not_true, Bool.not_false, Bool.true_and, Bool.false_and, Bool.and_true, Bool.and_false, Bool.true_or, Bool.false_or, Bool.or_true, Bool.or_false, decide_true, decide_false, Bool.not_eq_true, Bool.decide_eq_true, Int.reduceToNat]
      · refine ⟨w, hlow (fun hc => hX (by have := hc.2; rw [if_neg (by decide)] at this; exact this.2)), ?_⟩
        simp (disch := omega) only [ZU.s0, z, hY, Z0, ckK64, ckK8, Z1, Z2, ZR, ZG, dec_t, dec_f, Option.bind_some, Int.toNat_natCast, List.length_append, List.length_cons, List.length_nil, Nat.zero_add, if_true, if_false, Bool.false_eq_true, Bool.not_true, Bool.not_false, Bool.true_and, Bool.false_and, Bool.and_true, Bool.and_false, Bool.true_or, Bool.false_or, Bool.or_true, Bool.or_false, decide_true, decide_false, Bool.not_eq_true, Bool.decide_eq_true, Int.reduceToNat]
        try simp (disch := omega) only [Z0, ckK64, ckK8, Z1, Z2, ZR, ZG, dec_t, dec_f, Option.bind_some, Int.toNat_natCast, List.length_append, List.length_cons, List.length_nil, Nat.zero_add, if_true, if_false, Bool.false_eq_true, Bool.not_true, Bool.not_false, Bool.true_and, Bool.false_and, Bool.and_true, Bool.and_false, Bool.true_or, Bool.false_or, Bool.or_true, Bool.or_false, decide_true, decide_false, Bool.not_eq_true, Bool.decide_eq_true, Int.reduceToNat]
    · refine ⟨w, hlow (fun hc => hY (by have := hc.2; rw [if_neg (by decide)] at this; exact this.1)), ?_⟩
      simp (disch := omega) only [ZU.s0, z, hY, Z0, ckK64, ckK8, Z1, Z2, ZR, ZG, dec_t, dec_f, Option.bind_some, Int.toNat_natCast, List.length_append, List.length_cons, List.length_nil, Nat.zero_add, if_true, if_false, Bool.false_eq_true, Bool.not_true, Bool.not_false, Bool.true_and, Bool.false_and, Bool.and_true, Bool.and_false, Bool.true_or, Bool.false_or, Bool.or_true, Bool.or_false, decide_true, decide_false, Bool.not_eq_true, Bool.decide_eq_true, Int.reduceToNat]
      try simp (disch := omega) only [Z0, ckK64, ckK8, Z1, Z2, ZR, ZG, dec_t, dec_f, Option.bind_some, Int.toNat_natCast, List.length_append, List.length_cons, List.length_nil, Nat.zero_add, if_true, if_false, Bool.false_eq_true, Bool.not_true, Bool.not_false, Bool.true_and, Bool.false_and, Bool.and_true, Bool.and_false, Bool.true_or, Bool.false_or, Bool.or_true, Bool.or_false, decide_true, decide_false, Bool.not_eq_true, Bool.decide_eq_true, Int.reduceToNat]
/-- A loop that keeps something. -/
theorem loop_inv {σ ρ : Type} {step : σ → Option (σ ⊕ ρ)} {n : Nat} (I : Nat → σ → Prop) {s0 : σ} {R : ρ → Prop} (hn : n < big) (h0 : I 0 s0) (hs : ∀ i s, i < n → I i s → ∃ s', step s = some (.inl s') ∧ I (i + 1) s') (he : ∀ s, I n s → ∃ r, step s = some (.inr r) ∧ R r) : ∃ r, loopF step big s0 = some r ∧ R r := by
  have key : ∀ k i s, i + k = n → I i s → ∃ r, loopF step (k + 1) s = some r ∧ R r := by
    intro k
    induction k with
    | zero =>
      intro i s hi hI
      obtain rfl : i = n := by omega
      obtain ⟨r, hr, hR⟩ := he s hI
      exact ⟨r, by simp only [loopF, hr], hR⟩
    | succ k ih =>
      intro i s hi hI
      obtain ⟨s', hs', hI'⟩ := hs i s (by omega) hI
      obtain ⟨r, hr, hR⟩ := ih (i + 1) s' (by omega) hI'
      exact ⟨r, by rw [loopF, hs']; exact hr, hR⟩
  obtain ⟨r, hr, hR⟩ := key n 0 s0 (by omega) h0
  exact ⟨r, loopF_le hr (by unfold big at *; omega), hR⟩
theorem mNear {at_ : List Zu} {i d : Nat} (hl : at_.length ≤ 1000) (hi : i < at_.length) (hd : d < 2) : ∃ w, ZU at_ i d = some w ∧ NearTo at_ i d at_.length w := by
  obtain ⟨r, hr, hR⟩ := loop_inv (step := ZU.s0 at_ i d) (n := at_.length) (I := fun n (s : Int × Int) => s.2 = n ∧ NearTo at_ i d n s.1) (s0 := ((-1 : Int), (0 : Int))) (R := NearTo at_ i d at_.length) (big_lt (by omega)) ⟨rfl, .inl ⟨rfl, fun k hk => by omega⟩⟩ (fun n (s : Int × Int) hn hs => by
    obtain ⟨w, m⟩ := s
    obtain ⟨rfl, hw⟩ := hs
    obtain ⟨w', h1, h2⟩ := mNear_step hl hi hd hn hw
    exact ⟨_, h2, rfl, h1⟩) (fun (s : Int × Int) hs => by
    obtain ⟨w, m⟩ := s
    obtain ⟨rfl, hw⟩ := hs
    exact ⟨w, by simp only [ZU.s0]; rw [Z2 (by omega)], hw⟩)
  exact ⟨r, by unfold ZU; rw [hr]; rfl, hR⟩
end Mu
/- Layer 10: crossed, with, make. -/
set_option linter.unusedVariables false
set_option linter.unusedSimpArgs false
set_option maxRecDepth 10000
namespace Mu

theorem zE {α : Type} {x : Int} {o : Option α} (h : -9223372036854775808 ≤ x ∧ x ≤ 9223372036854775807) : ck (in64 x) o = o := Z0 h
/-- Does the edge from a in direction d cross the line from i to w? -/
def crossE (at_ : List Zu) (l : List Zk) (i w a d : Nat) : Bool :=
  let p := gi at_ a
  let q := gi at_ (nx l a d).toNat
  let s := gi at_ i
  let t := gi at_ w
  decide (0 ≤ nx l a d) && ((decide (p.Y = q.Y) && decide (s.X = t.X) && decide (p.X < s.X) && decide (s.X < q.X) && decide (s.Y < p.Y) && decide (p.Y < t.Y)) || (decide (p.X = q.X) && decide (s.Y = t.Y) && decide (s.X < p.X) && decide (p.X < t.X) && decide (p.Y < s.Y) && decide (s.Y < q.Y)))
theorem and_if {a : Bool} {b : Bool} : (if a = true then some b else some false) = some (a && b) := by cases a <;> rfl
theorem mCross1 {at_ : List Zu} {l : List Zk} {i w a d : Nat} (hl : at_.length = l.length) (hi : i < l.length) (hw : w < l.length) (ha : a < l.length) (hd : d < 2) (hn : nx l a d < l.length) : ZT.s1 at_ l i w a d = some (if crossE at_ l i w a d = true then .inr (.inr ()) else .inl ((d : Int) + 1)) := by
  unfold ZT.s1
  rw [Z1 (by omega), Z0 (by omega), Z0 (by omega), Int.toNat_natCast]
  have e : ((gi l a).Next).get (d : Int) = nx l a d := rfl
  rw [e]
  unfold crossE
  by_cases h0 : nx l a d < 0
  · rw [Z1 h0, zE (by omega), dec_f (show ¬ 0 ≤ nx l a d by omega)]
    simp
  · rw [Z2 h0, Z0 (by omega), Z0 (by omega), dec_t (show 0 ≤ nx l a d by omega)]
    have k1 : ∀ (α : Type) (o : Option α), ck ((0 : Int) ≤ (i : Int) ∧ (i : Int) < (at_.length : Int)) o = o := fun _ _ => Z0 (by omega)
    have k2 : ∀ (α : Type) (o : Option α), ck ((0 : Int) ≤ (w : Int) ∧ (w : Int) < (at_.length : Int)) o = o := fun _ _ => Z0 (by omega)
    have k3 : ∀ (α : Type) (o : Option α), ck (in64 ((d : Int) + 1)) o = o := fun _ _ => zE (by omega)
    simp only [k1, k2, k3, Int.toNat_natCast, Option.bind_some, and_if, Bool.true_and]
    generalize (decide ((gi at_ a).Y = (gi at_ (nx l a d).toNat).Y) && decide ((gi at_ i).X = (gi at_ w).X) && decide ((gi at_ a).X < (gi at_ i).X) && decide ((gi at_ i).X < (gi at_ (nx l a d).toNat).X) && decide ((gi at_ i).Y < (gi at_ a).Y) && decide ((gi at_ a).Y < (gi at_ w).Y)) = A
    generalize (decide ((gi at_ a).X = (gi at_ (nx l a d).toNat).X) && decide ((gi at_ i).Y = (gi at_ w).Y) && decide ((gi at_ i).X < (gi at_ a).X) && decide ((gi at_ a).X < (gi at_ w).X) && decide ((gi at_ a).Y < (gi at_ i).Y) && decide ((gi at_ i).Y < (gi at_ (nx l a d).toNat).Y)) = B
    cases A <;> cases B <;> rfl
def crossA (at_ : List Zu) (l : List Zk) (i w a : Nat) : Bool := crossE at_ l i w a 0 || crossE at_ l i w a 1
def crossP (at_ : List Zu) (l : List Zk) (i w : Nat) : Bool := (List.range l.length).any fun a => crossA at_ l i w a
theorem mCrossA {at_ : List Zu} {l : List Zk} {i w a : Nat} (hl : at_.length = l.length) (hi : i < l.length) (hw : w < l.length) (hn : ∀ a d, a < l.length → d < 2 → nx l a d < l.length) (ha : a < l.length) : loopF (ZT.s1 at_ l i w a) big 0 = some (if crossA at_ l i w a = true then .inr () else .inl ()) := by
  have h : loopF (ZT.s1 at_ l i w a) big 0 = some (match (List.range 2).find? (fun d => crossE at_ l i w a d) with | some i => .inr ((fun _ => ()) i) | none => .inl ()) := by
    refine loop_find (big_lt (by omega)) (fun d hd => ?_) ?_
    · exact mCross1 hl hi hw ha hd (hn a d ha hd)
    · simp only [ZT.s1]
      rw [Z2 (by omega)]
  rw [h]
  have e : (List.range 2).find? (fun d => crossE at_ l i w a d) = if crossE at_ l i w a 0 = true then some 0 else if crossE at_ l i w a 1 = true then some 1 else none := by
    have : List.range 2 = [0, 1] := by decide
    rw [this]
    cases c0 : crossE at_ l i w a 0 <;> cases c1 : crossE at_ l i w a 1 <;> simp [c0, c1]
  rw [e]
  unfold crossA
  cases c0 : crossE at_ l i w a 0 <;> cases c1 : crossE at_ l i w a 1 <;> simp
theorem mCross0 {at_ : List Zu} {l : List Zk} {i w a : Nat} (hl : at_.length = l.length) (h1000 : l.length ≤ 1000) (hi : i < l.length) (hw : w < l.length) (hn : ∀ a d, a < l.length → d < 2 → nx l a d < l.length) (ha : a < l.length) : ZT.s0 at_ l i w a = some (if crossA at_ l i w a = true then .inr (.inr ()) else .inl ((a : Int) + 1)) := by
  simp only [ZT.s0]
  rw [Z1 (by omega), mCrossA hl hi hw hn ha, Option.bind_some]
  by_cases c : crossA at_ l i w a = true
  · rw [if_pos c, if_pos c]
  · rw [if_neg c, if_neg c]
    dsimp only
    rw [zE (by omega)]
theorem mCrossN {at_ : List Zu} {l : List Zk} {i w : Nat} : ZT.s0 at_ l i w l.length = some (.inr (.inl ())) := by
  simp only [ZT.s0]
  rw [Z2 (by omega)]
theorem any_find {n : Nat} {P : Nat → Bool} : ((List.range n).any P) = ((List.range n).find? P).isSome := by
  rw [Bool.eq_iff_iff, List.find?_isSome, List.any_eq_true]
theorem mCrossL {at_ : List Zu} {l : List Zk} {i w : Nat} (hl : at_.length = l.length) (h1000 : l.length ≤ 1000) (hi : i < l.length) (hw : w < l.length) (hn : ∀ a d, a < l.length → d < 2 → nx l a d < l.length) : loopF (ZT.s0 at_ l i w) big 0 = some (match (List.range l.length).find? (fun a => crossA at_ l i w a) with | some i => .inr ((fun _ => ()) i) | none => .inl ()) :=
  loop_find (big_lt (by omega)) (fun a ha => mCross0 hl h1000 hi hw hn ha) mCrossN
theorem mCrossed {at_ : List Zu} {l : List Zk} {i w : Nat} (hl : at_.length = l.length) (h1000 : l.length ≤ 1000) (hi : i < l.length) (hw : w < l.length) (hn : ∀ a d, a < l.length → d < 2 → nx l a d < l.length) : ZT at_ l i w = some (crossP at_ l i w) := by
  have h0 := mCrossL hl h1000 hi hw hn
  unfold ZT
  rw [h0]
  unfold crossP
  rw [any_find]
  cases h : (List.range l.length).find? fun a => crossA at_ l i w a with
  | none => simp
  | some j => simp

/-! with -/
def wC1 (c : Zk) (d w o : Int) : Zk := ⟨c.Next.set d w, c.Owner.set d o⟩
def wC (l : List Zk) (v d w o : Int) (i : Nat) : Zk :=
  let c := if (i : Int) = v then wC1 (gi l i) d w o else gi l i
  if (i : Int) = w then wC1 c ((d + 2).tmod 4) v o else c
def wth (l : List Zk) (v d w o : Int) : List Zk := (List.range l.length).map (wC l v d w o)
theorem wth_length {l : List Zk} {v d w o : Int} : (wth l v d w o).length = l.length := by simp [wth]
theorem mWith {l : List Zk} {v d w o : Int} (hl : l.length ≤ 100000) (hd : 0 ≤ d ∧ d < 4) : zO l v d w o = some (wth l v d w o) := by
  unfold zO
  rw [bd_eq (x := wth l v d w o)]
  refine loop_to (fun n : Nat => ((List.range n).map (wC l v d w o), (n : Int))) (n := l.length) (big_lt (by omega)) rfl (fun n hn => ?_) ?_
  · have hm : ((List.range n).map (wC l v d w o)).length = n := by simp
    have t := Int.tmod_nonneg 4 (show (0 : Int) ≤ d + 2 by omega)
    have t2 := Int.tmod_lt_of_pos (d + 2) (show (0 : Int) < 4 by omega)
    rw [List.range_succ, List.map_append, List.map_cons, List.map_nil]
    simp only [zO.s0]
    rw [Z1 (by omega), Z0 (by omega), Int.toNat_natCast]
    unfold wC
    by_cases c1 : (n : Int) = v
    · rw [Z1 c1, Z0 hd, Option.bind_some]
      by_cases c2 : (n : Int) = w
      · rw [Z1 c2, zE (by omega), Z0 (by omega), Z0 (by simp; omega), zE (by omega), if_pos c1, if_pos c2]
        rfl
      · rw [Z2 c2, Z0 (by simp; omega), zE (by omega), if_pos c1, if_neg c2]
        rfl
    · rw [Z2 c1, Option.bind_some]
      by_cases c2 : (n : Int) = w
      · rw [Z1 c2, zE (by omega), Z0 (by omega), Z0 (by simp; omega), zE (by omega), if_neg c1, if_pos c2]
        rfl
      · rw [Z2 c2, Z0 (by simp; omega), zE (by omega), if_neg c1, if_neg c2]
        rfl
  · simp only [zO.s0]
    rw [Z2 (by omega)]
    rfl
/-- An edge from v to w in direction d, as it is read. -/
theorem nx_wth {l : List Zk} {v w d i e : Nat} {o : Int} (hv : v < l.length) (hw : w < l.length) (hvw : v ≠ w) (hd : d < 4) (hi : i < l.length) (he : e < 4) : nx (wth l v d w o) i e = (if i = v ∧ e = d then (w : Int) else if i = w ∧ e = (d + 2) % 4 then (v : Int) else nx l i e) ∧ ow (wth l v d w o) i e = (if i = v ∧ e = d then o else if i = w ∧ e = (d + 2) % 4 then o else ow l i e) := by
  have hb : (((d : Int) + 2).tmod 4) = (((d + 2) % 4 : Nat) : Int) := by
    match d, hd with
    | 0, _ | 1, _ | 2, _ | 3, _ => rfl
  have g : gi (wth l v d w o) i = wC l v d w o i := gi_map_range hi
  unfold nx ow
  rw [g]
  unfold wC
  rw [hb]
  by_cases c1 : i = v
  · subst c1
    rw [if_pos rfl, if_neg (show ¬ ((i : Nat) : Int) = (w : Int) by omega)]
    simp only [wC1]
    rw [A4_get_set hd he, A4_get_set hd he]
    have : ¬ (i = w) := hvw
    simp [this]
  · rw [if_neg (show ¬ ((i : Nat) : Int) = (v : Int) by omega)]
    by_cases c2 : i = w
    · subst c2
      rw [if_pos rfl]
      simp only [wC1]
      rw [A4_get_set (by omega) he, A4_get_set (by omega) he]
      simp [c1]
    · rw [if_neg (show ¬ ((i : Nat) : Int) = (w : Int) by omega)]
      simp [c1, c2]

/-! What may be. -/
structure Ck (l : List Zk) : Prop where
  s : ∀ v d, v < l.length → d < 4 → (nx l v d = -1 ∧ ow l v d = 0) ∨ ∃ w : Nat, nx l v d = w ∧ w < l.length ∧ w ≠ v ∧ nx l w ((d + 2) % 4) = v ∧ ow l w ((d + 2) % 4) = ow l v d ∧ -2 ≤ ow l v d
theorem Ck.new (n : Nat) : Ck (List.replicate n noC) := ⟨fun v d hv hd => .inl (by
  have : gi (List.replicate n noC) v = noC := by rw [gi_eq hv]; simp
  unfold nx ow; rw [this]
  match d, hd with
  | 0, _ | 1, _ | 2, _ | 3, _ => exact ⟨rfl, rfl⟩)⟩
theorem Ck.wth {l : List Zk} (h : Ck l) {v w d : Nat} {o : Int} (hv : v < l.length) (hw : w < l.length) (hvw : v ≠ w) (hd : d < 4) (h1 : nx l v d = -1) (h2 : nx l w ((d + 2) % 4) = -1) (ho : -2 ≤ o) : Ck (wth l v d w o) := by
  refine ⟨fun i e hi he => ?_⟩
  rw [wth_length] at hi ⊢
  have n1 := fun i e hi he => (nx_wth (o := o) hv hw hvw hd (i := i) (e := e) hi he).1
  have n2 := fun i e hi he => (nx_wth (o := o) hv hw hvw hd (i := i) (e := e) hi he).2
  rw [n1 i e hi he, n2 i e hi he]
  by_cases c1 : i = v ∧ e = d
  · rw [if_pos c1, if_pos c1]
    refine .inr ⟨w, rfl, hw, by omega, ?_, ?_, ho⟩
    · rw [n1 w _ hw (by omega), if_neg (by omega), if_pos ⟨rfl, by rw [c1.2]⟩, c1.1]
    · rw [n2 w _ hw (by omega), if_neg (by omega), if_pos ⟨rfl, by rw [c1.2]⟩]
  · rw [if_neg c1, if_neg c1]
    by_cases c2 : i = w ∧ e = (d + 2) % 4
    · rw [if_pos c2, if_pos c2]
      refine .inr ⟨v, rfl, hv, by omega, ?_, ?_, ho⟩
      · rw [n1 v _ hv (by omega), if_pos ⟨rfl, by omega⟩, c2.1]
      · rw [n2 v _ hv (by omega), if_pos ⟨rfl, by omega⟩]
    · rw [if_neg c2, if_neg c2]
      rcases h.s i e hi he with hh | ⟨x, x1, x2, x3, x4, x5, x6⟩
      · exact .inl hh
      · refine .inr ⟨x, x1, x2, x3, ?_, ?_, x6⟩
        · rw [n1 x _ x2 (by omega)]
          rw [if_neg (fun c => by
            have : nx l x ((e + 2) % 4) = -1 := by rw [c.1, c.2]; exact h1
            omega)]
          rw [if_neg (fun c => by
            have : nx l x ((e + 2) % 4) = -1 := by rw [c.1, c.2]; exact h2
            omega)]
          exact x4
        · rw [n2 x _ x2 (by omega)]
          rw [if_neg (fun c => by
            have : nx l x ((e + 2) % 4) = -1 := by rw [c.1, c.2]; exact h1
            omega)]
          rw [if_neg (fun c => by
            have : nx l x ((e + 2) % 4) = -1 := by rw [c.1, c.2]; exact h2
            omega)]
          exact x5
end Mu
/- Layer 10: make. -/
set_option linter.unusedVariables false
set_option linter.unusedSimpArgs false
set_option maxRecDepth 10000
namespace Mu

theorem loop_meas {σ ρ : Type} {step : σ → Option (σ ⊕ ρ)} (μ : σ → Nat) (I : σ → Prop) {s0 : σ} {R : ρ → Prop} (hn : μ s0 < big) (h0 : I s0) (hs : ∀ s, I s → (∃ s', step s = some (.inl s') ∧ I s' ∧ μ s' < μ s) ∨ ∃ r, step s = some (.inr r) ∧ R r) : ∃ r, loopF step big s0 = some r ∧ R r := by
  have key : ∀ k s, μ s ≤ k → I s → ∃ r, loopF step (k + 1) s = some r ∧ R r := by
    intro k
    induction k with
    | zero =>
      intro s hk hI
      rcases hs s hI with ⟨s', h1, h2, h3⟩ | ⟨r, h1, h2⟩
      · omega
      · exact ⟨r, by simp only [loopF, h1], h2⟩
    | succ k ih =>
      intro s hk hI
      rcases hs s hI with ⟨s', h1, h2, h3⟩ | ⟨r, h1, h2⟩
      · obtain ⟨r, hr, hR⟩ := ih s' (by omega) h2
        exact ⟨r, by rw [loopF, h1]; exact hr, hR⟩
      · exact ⟨r, by rw [loopF, h1], h2⟩
  obtain ⟨r, hr, hR⟩ := key (μ s0) s0 (Nat.le_refl _) h0
  exact ⟨r, loopF_le hr (by omega), hR⟩

/-- The points. -/
structure Pts (at_ : List Zu) : Prop where
  b : ∀ i, i < at_.length → 0 ≤ (gi at_ i).X ∧ (gi at_ i).X < 8 ∧ 0 ≤ (gi at_ i).Y ∧ (gi at_ i).Y < 8
  d : ∀ i j, i < at_.length → j < at_.length → gi at_ i = gi at_ j → i = j
theorem Pts.nil : Pts [] := ⟨fun i h => by simp at h, fun i j h => by simp at h⟩
theorem Pts.app {at_ : List Zu} (h : Pts at_) {p : Zu} (hp : 0 ≤ p.X ∧ p.X < 8 ∧ 0 ≤ p.Y ∧ p.Y < 8) (hn : ∀ k, k < at_.length → gi at_ k ≠ p) : Pts (at_ ++ [p]) := by
  have g1 : ∀ i, i < at_.length → gi (at_ ++ [p]) i = gi at_ i := fun i hi => gi_append_left hi
  have g2 : gi (at_ ++ [p]) at_.length = p := by
    have := gi_append_right (l := at_) (m := [p]) (i := 0)
    rw [Nat.add_zero] at this
    rw [this]; rfl
  refine ⟨fun i hi => ?_, fun i j hi hj hij => ?_⟩
  · simp only [List.length_append, List.length_cons, List.length_nil] at hi
    by_cases c : i < at_.length
    · rw [g1 i c]; exact h.b i c
    · rw [show i = at_.length by omega, g2]; exact hp
  · simp only [List.length_append, List.length_cons, List.length_nil] at hi hj
    by_cases c : i < at_.length <;> by_cases c2 : j < at_.length
    · rw [g1 i c, g1 j c2] at hij; exact h.d i j c c2 hij
    · rw [g1 i c, show j = at_.length by omega, g2] at hij; exact absurd hij (hn i c)
    · rw [g1 j c2, show i = at_.length by omega, g2] at hij; exact absurd hij.symm (hn j c2)
    · omega
theorem near_inj {at_ : List Zu} (hp : Pts at_) {i j d : Nat} {w : Nat} (hi : i < at_.length) (hj : j < at_.length) (hd : d < 2) (h1 : NearTo at_ i d at_.length w) (h2 : NearTo at_ j d at_.length w) : i = j := by
  rcases h1 with ⟨h, _⟩ | ⟨w1, e1, l1, c1, m1⟩
  · omega
  rcases h2 with ⟨h, _⟩ | ⟨w2, e2, l2, c2, m2⟩
  · omega
  obtain rfl : w = w1 := by omega
  obtain rfl : w = w2 := by omega
  apply hp.d i j hi hj
  have x1 := m1 j hj
  have x2 := m2 i hi
  have c1 := c1.2
  have c2 := c2.2
  unfold cand closer at x1 x2
  by_cases z : d = 0
  · simp only [if_pos z] at *
    have hX : (gi at_ i).X = (gi at_ j).X := by
      by_cases q1 : (gi at_ i).X < (gi at_ j).X
      · have := x1 ⟨hj, by omega, q1⟩; omega
      · by_cases q2 : (gi at_ j).X < (gi at_ i).X
        · have := x2 ⟨hi, by omega, q2⟩; omega
        · omega
    have hY : (gi at_ i).Y = (gi at_ j).Y := by omega
    generalize gi at_ i = p at *
    generalize gi at_ j = q at *
    obtain ⟨a, b⟩ := p
    obtain ⟨a', b'⟩ := q
    simp only at hX hY
    rw [hX, hY]
  · simp only [if_neg z] at *
    have hX : (gi at_ i).Y = (gi at_ j).Y := by
      by_cases q1 : (gi at_ i).Y < (gi at_ j).Y
      · have := x1 ⟨hj, by omega, q1⟩; omega
      · by_cases q2 : (gi at_ j).Y < (gi at_ i).Y
        · have := x2 ⟨hi, by omega, q2⟩; omega
        · omega
    have hY : (gi at_ i).X = (gi at_ j).X := by omega
    generalize gi at_ i = p at *
    generalize gi at_ j = q at *
    obtain ⟨a, b⟩ := p
    obtain ⟨a', b'⟩ := q
    simp only at hX hY
    rw [hX, hY]
/-- What is kept while edges are laid. -/
structure Mk (at_ : List Zu) (l : List Zk) (i d : Nat) : Prop where
  len : l.length = at_.length
  ck : Ck l
  near : ∀ v e, v < l.length → e < 2 → nx l v e = -1 ∨ ((v < i ∨ v = i ∧ e < d) ∧ NearTo at_ v e at_.length (nx l v e))
  own : ∀ v e, v < l.length → e < 4 → -2 ≤ ow l v e ∧ ow l v e ≤ 1000
theorem Mk.step {at_ : List Zu} {l : List Zk} {i d : Nat} (h : Mk at_ l i d) : Mk at_ l i (d + 1) :=
  ⟨h.len, h.ck, fun v e hv he => (h.near v e hv he).imp id (fun ⟨a, b⟩ => ⟨by omega, b⟩), h.own⟩
theorem Mk.next {at_ : List Zu} {l : List Zk} {i : Nat} (h : Mk at_ l i 2) : Mk at_ l (i + 1) 0 :=
  ⟨h.len, h.ck, fun v e hv he => (h.near v e hv he).imp id (fun ⟨a, b⟩ => ⟨by omega, b⟩), h.own⟩
theorem Ck.lt {l : List Zk} (h : Ck l) {v d : Nat} (hv : v < l.length) (hd : d < 4) : -1 ≤ nx l v d ∧ nx l v d < l.length := by
  rcases h.s v d hv hd with ⟨a, _⟩ | ⟨w, a, b, _⟩ <;> omega
theorem Mk.lay {at_ : List Zu} (hp : Pts at_) {l : List Zk} {i d w : Nat} {o : Int} (h : Mk at_ l i d) (hi : i < l.length) (hd : d < 2) (hw : NearTo at_ i d at_.length w) (ho : -2 ≤ o ∧ o ≤ 1000) : Mk at_ (wth l i d w o) i (d + 1) := by
  have hl := h.len
  have hwl : w < l.length ∧ cand at_ i d w := by
    rcases hw with ⟨e, _⟩ | ⟨j, e, h1, h2, _⟩
    · omega
    · have : w = j := by omega
      subst this; exact ⟨by omega, h2⟩
  have hne : i ≠ w := by
    rintro rfl
    have := hwl.2.2
    split at this <;> omega
  have n1 : nx l i d = -1 := by
    rcases h.near i d hi (by omega) with e | ⟨e, _⟩
    · exact e
    · omega
  have n2 : nx l w ((d + 2) % 4) = -1 := by
    rcases h.ck.s w ((d + 2) % 4) hwl.1 (by omega) with ⟨e, _⟩ | ⟨x, e1, e2, e3, e4, e5, e6⟩
    · exact e
    · rw [show ((d + 2) % 4 + 2) % 4 = d by omega] at e4
      rcases h.near x d e2 hd with e | ⟨e, e7⟩
      · omega
      · rw [e4] at e7
        have := near_inj hp (by omega) (by omega) hd e7 hw
        subst this
        omega
  have m1 := fun v e hv he => (nx_wth (o := o) hi hwl.1 hne (show d < 4 by omega) (i := v) (e := e) hv he).1
  have m2 := fun v e hv he => (nx_wth (o := o) hi hwl.1 hne (show d < 4 by omega) (i := v) (e := e) hv he).2
  refine ⟨by rw [wth_length]; exact hl, h.ck.wth hi hwl.1 hne (by omega) n1 n2 ho.1, fun v e hv he => ?_, fun v e hv he => ?_⟩
  · rw [wth_length] at hv
    rw [m1 v e hv (by omega)]
    by_cases c : v = i ∧ e = d
    · rw [if_pos c]
      right
      refine ⟨by omega, ?_⟩
      rw [c.1, c.2]; exact hw
    · rw [if_neg c]
      rw [if_neg (fun c2 => by omega)]
      exact (h.near v e hv he).imp id (fun ⟨a, b⟩ => ⟨by omega, b⟩)
  · rw [wth_length] at hv
    rw [m2 v e hv he]
    by_cases c : v = i ∧ e = d
    · rw [if_pos c]; exact ho
    · rw [if_neg c]
      by_cases c2 : v = w ∧ e = (d + 2) % 4
      · rw [if_pos c2]; exact ho
      · rw [if_neg c2]; exact h.own v e hv he
/-- One cell's edges. -/
theorem mMake3 {at_ : List Zu} (hp : Pts at_) (h1000 : at_.length ≤ 1000) {l : List Zk} {i : Nat} {b o : Int} (h : Mk at_ l i 0) (hi : i < l.length) (ho : -2 ≤ o ∧ o ≤ 1000) : ∃ l', loopF (ZF.s3 i b at_ o) big (l, 0) = some l' ∧ Mk at_ l' i 2 ∧ i < l'.length := by
  refine loop_inv (n := 2) (I := fun n (s : List Zk × Int) => s.2 = n ∧ Mk at_ s.1 i n ∧ i < s.1.length) (R := fun l' => Mk at_ l' i 2 ∧ i < l'.length) (big_lt (by omega)) ⟨rfl, h, hi⟩ ?_ ?_
  · rintro d ⟨l, x⟩ hd ⟨hx, hM, hi⟩
    dsimp only at hx hM hi
    subst hx
    have hl := hM.len
    obtain ⟨w, hw, hN⟩ := mNear (at_ := at_) (i := i) (d := d) h1000 (by omega) hd
    simp only [ZF.s3]
    rw [Z1 (by omega), hw, Option.bind_some, Z0 (by omega), zE (by omega)]
    by_cases c : ((decide (ari_and .u8 (sh_shr .u8 b d) 1 = 0)) || (decide (w < 0))) = true
    · rw [if_pos c]
      exact ⟨_, rfl, rfl, hM.step, hi⟩
    · rw [if_neg c]
      have hw0 : ¬ w < 0 := by
        intro hh
        apply c
        simp [hh]
      obtain ⟨wn, rfl⟩ : ∃ wn : Nat, w = wn := ⟨w.toNat, by omega⟩
      have hwl : wn < l.length := by
        rcases hN with ⟨e, _⟩ | ⟨j, e, h1, h2, _⟩
        · omega
        · omega
      rw [mCrossed hl.symm (by omega) hi hwl (fun a e ha he => (hM.ck.lt ha (by omega)).2), Option.bind_some, mWith (by omega) (by omega)]
      by_cases c2 : (!crossP at_ l i wn) = true
      · rw [if_pos c2, Option.bind_some, zE (by omega)]
        exact ⟨_, rfl, rfl, hM.lay hp hi hd hN ho, by rw [wth_length]; exact hi⟩
      · rw [if_neg c2]
        exact ⟨_, rfl, rfl, hM.step, hi⟩
  · rintro ⟨l, x⟩ ⟨hx, hM, hi⟩
    dsimp only at hx hM hi
    subst hx
    simp only [ZF.s3]
    rw [Z2 (by omega)]
    exact ⟨_, rfl, hM, hi⟩

/-- All edges. -/
theorem mMake2 {z : zn} {at_ : List Zu} (hp : Pts at_) (h1000 : at_.length ≤ 1000) (hown : ∀ y ∈ z.Own, Wf .i8 y) {l : List Zk} (h : Mk at_ l 0 0) : ∃ r : List Zu × List Zk, loopF (ZF.s2 z) big (at_, l, 0) = some r ∧ r.1 = at_ ∧ Mk at_ r.2 at_.length 0 := by
  refine loop_inv (n := at_.length) (I := fun n (s : List Zu × List Zk × Int) => s.1 = at_ ∧ s.2.2 = n ∧ Mk at_ s.2.1 n 0) (s0 := (at_, l, (0 : Int))) (R := fun r : List Zu × List Zk => r.1 = at_ ∧ Mk at_ r.2 at_.length 0) (big_lt (by omega)) ⟨rfl, rfl, h⟩ ?_ ?_
  · rintro i ⟨a, l, x⟩ hi ⟨ha, hx, hM⟩
    dsimp only at ha hx hM
    subst ha hx
    have hb : ∃ b, (if decide ((i : Int) < (z.Bits.length : Int)) = true then ck ((0 : Int) ≤ (i : Int) ∧ (i : Int) < (z.Bits.length : Int)) (some (a, l, gi z.Bits (i : Int).toNat)) else some (a, l, 3)) = some (a, l, b) := by
      by_cases c : (i : Int) < (z.Bits.length : Int)
      · exact ⟨gi z.Bits i, by rw [Z1 c, Z0 (by omega)]; rfl⟩
      · exact ⟨3, by rw [Z2 c]⟩
    have ho : ∃ o : Int, (-2 ≤ o ∧ o ≤ 1000) ∧ (if decide ((i : Int) < (z.Own.length : Int)) = true then ck ((0 : Int) ≤ (i : Int) ∧ (i : Int) < (z.Own.length : Int)) (ck (inK .i64 (gi z.Own (i : Int).toNat)) (if decide ((gi z.Own (i : Int).toNat) < (-2)) = true then ck (in64 (-(gi z.Own (i : Int).toNat))) (some (a, l, -(gi z.Own (i : Int).toNat))) else some (a, l, gi z.Own (i : Int).toNat))) else some (a, l, (i : Int))) = some (a, l, o) := by
      by_cases c : (i : Int) < (z.Own.length : Int)
      · have hw := (hown _ (gi_mem (show i < z.Own.length by omega))).i8
        rw [Z1 c, Z0 (by omega), Int.toNat_natCast, ckK64 (by omega)]
        by_cases c2 : gi z.Own i < -2
        · exact ⟨-(gi z.Own i), by omega, by rw [Z1 c2, zE (by omega)]⟩
        · exact ⟨gi z.Own i, by omega, by rw [Z2 c2]⟩
      · exact ⟨i, by omega, by rw [Z2 c]⟩
    obtain ⟨b, hb⟩ := hb
    obtain ⟨o, ho1, ho⟩ := ho
    have hl := hM.len
    obtain ⟨l', h1, h2, h3⟩ := mMake3 (b := b) hp h1000 hM (by omega) ho1
    simp only [ZF.s2]
    rw [Z1 (by omega), hb, Option.bind_some]
    dsimp only
    rw [ho, Option.bind_some]
    dsimp only
    rw [h1, Option.bind_some, zE (by omega)]
    exact ⟨_, rfl, rfl, rfl, h2.next⟩
  · rintro ⟨a, l, x⟩ ⟨ha, hx, hM⟩
    dsimp only at ha hx hM
    subst ha hx
    simp only [ZF.s2]
    rw [Z2 (by omega)]
    exact ⟨_, rfl, rfl, hM⟩
/-- Is the place taken? -/
theorem mMake1 {z : zn} {at_ : List Zu} {i : Nat} (h1000 : at_.length ≤ 1000) : ∃ m : Bool, loopF (ZF.s1 z at_ i) big (false, 0) = some (at_, m) ∧ (m = false → ∀ k, k < at_.length → gi at_ k ≠ (⟨(gi z.At i).tmod 8, ((gi z.At i).tdiv 8).tmod 8⟩ : Zu)) := by
  obtain ⟨r, h1, h2, h3⟩ := loop_inv (step := ZF.s1 z at_ i) (s0 := ((false : Bool), (0 : Int))) (n := at_.length) (I := fun n (s : Bool × Int) => s.2 = n ∧ (s.1 = false → ∀ k, k < n → gi at_ k ≠ (⟨(gi z.At i).tmod 8, ((gi z.At i).tdiv 8).tmod 8⟩ : Zu))) (R := fun r : List Zu × Bool => r.1 = at_ ∧ (r.2 = false → ∀ k, k < at_.length → gi at_ k ≠ (⟨(gi z.At i).tmod 8, ((gi z.At i).tdiv 8).tmod 8⟩ : Zu))) (big_lt (by omega)) ⟨rfl, fun _ k hk => by omega⟩ (by
    rintro n ⟨m, x⟩ hn ⟨hx, hm⟩
    dsimp only at hx hm
    subst hx
    simp only [ZF.s1]
    rw [Z1 (by omega)]
    cases m with
    | true =>
      rw [if_pos rfl, Option.bind_some, zE (by omega)]
      exact ⟨_, rfl, rfl, fun h => by cases h⟩
    | false =>
      rw [if_neg (by decide), Z0 (by omega), Option.bind_some, zE (by omega), Int.toNat_natCast, Int.toNat_natCast]
      refine ⟨_, rfl, rfl, fun h k hk => ?_⟩
      rcases Nat.lt_succ_iff_lt_or_eq.1 hk with h' | rfl
      · exact hm rfl k h'
      · simpa using h) (by
    rintro ⟨m, x⟩ ⟨hx, hm⟩
    dsimp only at hx hm
    subst hx
    simp only [ZF.s1]
    rw [Z2 (by omega)]
    exact ⟨_, rfl, rfl, hm⟩)
  obtain ⟨a, m⟩ := r
  dsimp only at h2 h3
  subst h2
  exact ⟨m, h1, h3⟩
theorem mMake0 {z : zn} {most : Int} (hm : 0 ≤ most ∧ most ≤ 1000) (hlen : z.At.length ≤ 9223372036854775807) (hat : ∀ y ∈ z.At, Wf .u8 y) : ∃ a, loopF (ZF.s0 z most) big (([] : List Zu), 0) = some a ∧ Pts a ∧ (a.length : Int) ≤ most := by
  refine loop_meas (μ := fun s : List Zu × Int => ((z.At.length : Int) - s.2).toNat) (I := fun s => 0 ≤ s.2 ∧ Pts s.1 ∧ (s.1.length : Int) ≤ most) (R := fun a => Pts a ∧ (a.length : Int) ≤ most) (big_lt (by omega)) ⟨by decide, Pts.nil, by simpa using hm.1⟩ ?_
  rintro ⟨a, i⟩ ⟨h1, h2, h3⟩
  dsimp only at h1 h2 h3
  obtain ⟨n, rfl⟩ : ∃ n : Nat, i = n := ⟨i.toNat, by omega⟩
  simp only [ZF.s0]
  by_cases c : ((decide ((n : Int) < (z.At.length : Int))) && (decide ((a.length : Int) < most))) = true
  · left
    rw [if_pos c]
    rw [Bool.and_eq_true, decide_eq_true_iff, decide_eq_true_iff] at c
    have hu := (hat _ (gi_mem (show n < z.At.length by omega))).u8
    obtain ⟨m, e1, e2⟩ := mMake1 (z := z) (at_ := a) (i := n) (by omega)
    have hdv : 0 ≤ (gi z.At n).tdiv 8 ∧ (gi z.At n).tdiv 8 ≤ 255 := by
      rw [Int.tdiv_eq_ediv_of_nonneg hu.1]; omega
    rw [Z0 (by omega), Int.toNat_natCast, ckK64 (by omega), Z0 ⟨by omega, by constructor <;> omega⟩, e1, Option.bind_some]
    dsimp only
    cases m with
    | false =>
      rw [if_pos (by decide), Z0 (by simp; omega), zE (by omega)]
      refine ⟨_, rfl, ⟨by omega, h2.app ?_ (e2 rfl), by simp; omega⟩, by dsimp only; omega⟩
      have a1 := Int.tmod_nonneg 8 hu.1
      have a2 := Int.tmod_lt_of_pos (gi z.At n) (show (0 : Int) < 8 by omega)
      have a3 := Int.tmod_nonneg 8 hdv.1
      have a4 := Int.tmod_lt_of_pos ((gi z.At n).tdiv 8) (show (0 : Int) < 8 by omega)
      exact ⟨a1, a2, a3, a4⟩
    | true =>
      rw [if_neg (by decide), zE (by omega)]
      exact ⟨_, rfl, ⟨by dsimp only; omega, h2, h3⟩, by dsimp only; omega⟩
  · right
    rw [if_neg c]
    exact ⟨_, rfl, h2, h3⟩
/-- What Make gives. -/
structure Made (l : List Zk) (at_ : List Zu) : Prop where
  pts : Pts at_
  len : l.length = at_.length
  ck : Ck l
  near : ∀ v e, v < l.length → e < 2 → nx l v e = -1 ∨ NearTo at_ v e at_.length (nx l v e)
  own : ∀ v e, v < l.length → e < 4 → -2 ≤ ow l v e ∧ ow l v e ≤ 1000
structure OkZ (z : zn) : Prop where
  a : z.At.length ≤ 9223372036854775807
  b : ∀ y ∈ z.At, Wf .u8 y
  o : ∀ y ∈ z.Own, Wf .i8 y
theorem mMake {z : zn} {most : Int} (hz : OkZ z) (hm : 0 ≤ most ∧ most ≤ 1000) : ∃ l at_, ZF z most = some (l, at_) ∧ Made l at_ ∧ (l.length : Int) ≤ most := by
  obtain ⟨a, h1, hp, hl⟩ := mMake0 hm hz.a hz.b
  have hM : Mk a (List.replicate a.length noC) 0 0 := ⟨by simp, Ck.new _, fun v e hv he => .inl (by
      have : gi (List.replicate a.length noC) v = noC := by rw [gi_eq hv]; simp
      unfold nx; rw [this]
      match e, he with
      | 0, _ | 1, _ => rfl), fun v e hv he => by
      have : gi (List.replicate a.length noC) v = noC := by rw [gi_eq hv]; simp
      unfold ow; rw [this]
      match e, he with
      | 0, _ | 1, _ | 2, _ | 3, _ => decide⟩
  obtain ⟨⟨a', l⟩, h2, h3, h4⟩ := mMake2 (z := z) hp (by omega) hz.o hM
  dsimp only at h3 h4
  subst h3
  refine ⟨l, a', ?_, ⟨hp, h4.len, h4.ck, fun v e hv he => (h4.near v e hv he).imp id (·.2), h4.own⟩, by rw [h4.len]; exact hl⟩
  unfold ZF
  rw [h1, Option.bind_some, mNew (by omega), Option.bind_some, h2, Option.bind_some]
end Mu
/- Layer 10: check. -/
set_option linter.unusedVariables false
set_option linter.unusedSimpArgs false
set_option maxRecDepth 10000
namespace Mu

def sideP (l : List Zk) (v d : Nat) : Int :=
  if nx l v d = -1 then (if ow l v d = 0 then 0 else 9)
  else if nx l v d < 0 ∨ (l.length : Int) ≤ nx l v d ∨ nx l v d = v then 3
  else if nx l (nx l v d).toNat ((d + 2) % 4) = v ∧ ow l (nx l v d).toNat ((d + 2) % 4) = ow l v d ∧ ¬ ow l v d < -2 then 0 else 9
theorem mLeft {d : Nat} (hd : d < 4) : Zal d 2 = some (((d + 2) % 4 : Nat) : Int) := by
  match d, hd with
  | 0, _ | 1, _ | 2, _ | 3, _ => decide
theorem tm2 {d : Nat} (hd : d < 4) : ((d : Int) + 2).tmod 4 = (((d + 2) % 4 : Nat) : Int) := by
  match d, hd with
  | 0, _ | 1, _ | 2, _ | 3, _ => rfl
theorem mSide {l : List Zk} {v d : Nat} (hv : v < l.length) (hd : d < 4) : ZaB l v d = some (sideP l v d) := by
  unfold ZaB sideP
  have e : ((gi l v).Next).get (d : Int) = nx l v d := rfl
  have e2 : ((gi l v).Owner).get (d : Int) = ow l v d := rfl
  rw [Z0 (by omega), Z0 (by omega), Int.toNat_natCast, e, e2]
  by_cases c : nx l v d = -1
  · rw [Z1 c, if_pos c]
    by_cases c2 : ow l v d = 0
    · rw [ZG c2, if_pos c2]
    · rw [ZR c2, if_neg c2]
  · rw [Z2 c, if_neg c]
    by_cases c2 : nx l v d < 0 ∨ (l.length : Int) ≤ nx l v d ∨ nx l v d = v
    · rw [if_pos c2, if_pos (by simpa [or_assoc] using c2)]
    · rw [if_neg c2, if_neg (by simpa [or_assoc] using c2), mLeft hd, Option.bind_some, Z0 (by omega), Z0 (by omega)]
      have e3 : ((gi l (nx l v d).toNat).Next).get (((d + 2) % 4 : Nat) : Int) = nx l (nx l v d).toNat ((d + 2) % 4) := rfl
      have e4 : ((gi l (nx l v d).toNat).Owner).get (((d + 2) % 4 : Nat) : Int) = ow l (nx l v d).toNat ((d + 2) % 4) := rfl
      rw [e3, e4]
      by_cases q1 : nx l (nx l v d).toNat ((d + 2) % 4) = v <;> by_cases q2 : ow l (nx l v d).toNat ((d + 2) % 4) = ow l v d <;> by_cases q3 : ow l v d < -2 <;> simp [q1, q2, q3]
def rowP (l : List Zk) (v : Nat) : Int := match (List.range 4).find? (fun d => decide (sideP l v d ≠ 0)) with | some d => sideP l v d | none => 0
def chkP (l : List Zk) : Int := if 4096 < l.length then 6 else match (List.range l.length).find? (fun v => decide (rowP l v ≠ 0)) with | some v => rowP l v | none => 0
theorem find_none {n : Nat} {f : Nat → Int} : (match (List.range n).find? (fun d => decide (f d ≠ 0)) with | some d => f d | none => 0) = 0 ↔ ∀ d, d < n → f d = 0 := by
  cases h : (List.range n).find? (fun d => decide (f d ≠ 0)) with
  | none =>
    rw [List.find?_range_eq_none] at h
    simp only [true_iff]
    intro d hd
    have := h d hd
    simpa using this
  | some j =>
    rw [List.find?_range_eq_some] at h
    have h1 : f j ≠ 0 := by simpa using h.1
    have h2 : j < n := by simpa using h.2.1
    constructor
    · intro h3; exact absurd h3 h1
    · intro h3; exact h3 j h2
theorem rowP_zero {l : List Zk} {v : Nat} : rowP l v = 0 ↔ ∀ d, d < 4 → sideP l v d = 0 := find_none
theorem chkP_zero {l : List Zk} : chkP l = 0 ↔ l.length ≤ 4096 ∧ ∀ v, v < l.length → ∀ d, d < 4 → sideP l v d = 0 := by
  unfold chkP
  by_cases c : 4096 < l.length
  · rw [if_pos c]; constructor
    · intro h; omega
    · intro h; omega
  · rw [if_neg c, find_none]
    constructor
    · intro h; exact ⟨by omega, fun v hv => rowP_zero.1 (h v hv)⟩
    · intro h v hv; exact rowP_zero.2 (h.2 v hv)
theorem sideP_zero {l : List Zk} {v d : Nat} : sideP l v d = 0 ↔ (nx l v d = -1 ∧ ow l v d = 0) ∨ ∃ w : Nat, nx l v d = w ∧ w < l.length ∧ w ≠ v ∧ nx l w ((d + 2) % 4) = v ∧ ow l w ((d + 2) % 4) = ow l v d ∧ -2 ≤ ow l v d := by
  unfold sideP
  by_cases c : nx l v d = -1
  · rw [if_pos c]
    by_cases c2 : ow l v d = 0
    · simp [c, c2]
    · rw [if_neg c2]
      constructor
      · intro h; omega
      · rintro (⟨_, h⟩ | ⟨w, h, _⟩)
        · exact absurd h c2
        · omega
  · rw [if_neg c]
    by_cases c2 : nx l v d < 0 ∨ (l.length : Int) ≤ nx l v d ∨ nx l v d = v
    · rw [if_pos c2]
      constructor
      · intro h; omega
      · rintro (⟨h, _⟩ | ⟨w, h, h1, h2, _⟩)
        · exact absurd h c
        · omega
    · rw [if_neg c2]
      constructor
      · intro h
        split at h
        · rename_i q
          exact .inr ⟨(nx l v d).toNat, by omega, by omega, by omega, q.1, q.2.1, by omega⟩
        · omega
      · rintro (⟨h, _⟩ | ⟨w, h, h1, h2, h3, h4, h5⟩)
        · exact absurd h c
        · have : (nx l v d).toNat = w := by omega
          rw [this, if_pos ⟨h3, h4, by omega⟩]
theorem Ck_iff {l : List Zk} : chkP l = 0 ↔ l.length ≤ 4096 ∧ Ck l := by
  rw [chkP_zero]
  constructor
  · intro h; exact ⟨h.1, ⟨fun v d hv hd => sideP_zero.1 (h.2 v hv d hd)⟩⟩
  · intro h; exact ⟨h.1, fun v hv d hd => sideP_zero.2 (h.2.s v d hv hd)⟩
theorem find_out {n : Nat} {f : Nat → Int} : ((match (List.range n).find? (fun d => decide (f d ≠ 0)) with | some d => (.inr (f d) : Unit ⊕ Int) | none => .inl ())) = if (match (List.range n).find? (fun d => decide (f d ≠ 0)) with | some d => f d | none => 0) = 0 then .inl () else .inr (match (List.range n).find? (fun d => decide (f d ≠ 0)) with | some d => f d | none => 0) := by
  cases h : (List.range n).find? (fun d => decide (f d ≠ 0)) with
  | none => simp
  | some j =>
    rw [List.find?_range_eq_some] at h
    have h1 : f j ≠ 0 := by simpa using h.1
    rw [if_neg h1]
theorem mRow {l : List Zk} {v : Nat} (hv : v < l.length) : loopF (z4.s1 l v) big 0 = some (if rowP l v = 0 then .inl () else .inr (rowP l v)) := by
  have h : loopF (z4.s1 l v) big 0 = some (match (List.range 4).find? (fun d => decide (sideP l v d ≠ 0)) with | some d => .inr (sideP l v d) | none => .inl ()) := by
    refine loop_find (big_lt (by omega)) (fun d hd => ?_) ?_
    · simp only [z4.s1]
      rw [Z1 (by omega), mSide hv hd, Option.bind_some]
      by_cases c : sideP l v d = 0
      · rw [ZG c, if_neg (by simpa using c), zE (by omega)]
      · rw [ZR c, if_pos (by simpa using c)]
    · simp only [z4.s1]
      rw [Z2 (by omega)]
  rw [h, find_out]; rfl
theorem mCheck {l : List Zk} (hl : l.length ≤ 1000000000000) : z4 l = some (chkP l) := by
  unfold z4 chkP
  by_cases c : 4096 < l.length
  · rw [if_pos c, Z1 (by omega)]
  · rw [if_neg c, Z2 (by omega)]
    have h : loopF (z4.s0 l) big 0 = some (match (List.range l.length).find? (fun v => decide (rowP l v ≠ 0)) with | some v => .inr (rowP l v) | none => .inl ()) := by
      refine loop_find (big_lt (by omega)) (fun v hv => ?_) ?_
      · simp only [z4.s0]
        rw [Z1 (by omega), mRow hv, Option.bind_some]
        by_cases c : rowP l v = 0
        · rw [if_pos c, if_neg (by simpa using c)]
          dsimp only
          rw [zE (by omega)]
        · rw [if_neg c, if_pos (by simpa using c)]
      · simp only [z4.s0]
        rw [Z2 (by omega)]
    rw [h]
    cases (List.range l.length).find? (fun v => decide (rowP l v ≠ 0)) <;> simp
theorem rSide {l : List Zk} {v d : Nat} (hv : v < l.length) (hd : d < 4) : zd.s1 l v d = some (if decide (sideP l v d ≠ 0) = true then .inr (.inr (sideP l v d)) else .inl ((d : Int) + 1)) := by
  unfold zd.s1
  have e : ((gi l v).Next).get (d : Int) = nx l v d := rfl
  have e2 : ((gi l v).Owner).get (d : Int) = ow l v d := rfl
  rw [Z1 (by omega), Z0 (by omega), Z0 (by omega), Int.toNat_natCast, e, e2]
  unfold sideP
  by_cases c : nx l v d = -1
  · rw [Z1 c, if_pos c]
    by_cases c2 : ow l v d = 0
    · rw [ZG c2, if_pos c2, zE (by omega)]; rfl
    · rw [ZR c2, if_neg c2]; rfl
  · rw [Z2 c, if_neg c]
    by_cases c2 : nx l v d < 0 ∨ (l.length : Int) ≤ nx l v d ∨ nx l v d = v
    · rw [if_pos c2, if_pos (by simpa [or_assoc] using c2)]; rfl
    · rw [if_neg c2, if_neg (by simpa [or_assoc] using c2), zE (by omega), Z0 (by omega), tm2 hd, Z0 (by omega), zE (by omega)]
      have e3 : ((gi l (nx l v d).toNat).Next).get (((d + 2) % 4 : Nat) : Int) = nx l (nx l v d).toNat ((d + 2) % 4) := rfl
      have e4 : ((gi l (nx l v d).toNat).Owner).get (((d + 2) % 4 : Nat) : Int) = ow l (nx l v d).toNat ((d + 2) % 4) := rfl
      rw [e3, e4]
      by_cases q1 : nx l (nx l v d).toNat ((d + 2) % 4) = v <;> by_cases q2 : ow l (nx l v d).toNat ((d + 2) % 4) = ow l v d <;> by_cases q3 : ow l v d < -2 <;> simp [q1, q2, q3]
theorem rCheck {l : List Zk} (hl : l.length ≤ 1000000000000) : zd l = some (chkP l) := by
  unfold zd chkP
  by_cases c : 4096 < l.length
  · rw [if_pos c, Z1 (by omega)]
  · rw [if_neg c, Z2 (by omega)]
    have hrow : ∀ v, v < l.length → loopF (zd.s1 l v) big 0 = some (if rowP l v = 0 then .inl () else .inr (rowP l v)) := by
      intro v hv
      have h : loopF (zd.s1 l v) big 0 = some (match (List.range 4).find? (fun d => decide (sideP l v d ≠ 0)) with | some d => .inr (sideP l v d) | none => .inl ()) := by
        refine loop_find (big_lt (by omega)) (fun d hd => rSide hv hd) ?_
        simp only [zd.s1]
        rw [Z2 (by omega)]
      rw [h, find_out]; rfl
    have h : loopF (zd.s0 l) big 0 = some (match (List.range l.length).find? (fun v => decide (rowP l v ≠ 0)) with | some v => .inr (rowP l v) | none => .inl ()) := by
      refine loop_find (big_lt (by omega)) (fun v hv => ?_) ?_
      · simp only [zd.s0]
        rw [Z1 (by omega), hrow v hv, Option.bind_some]
        by_cases c : rowP l v = 0
        · rw [if_pos c, if_neg (by simpa using c)]
          dsimp only
          rw [zE (by omega)]
        · rw [if_neg c, if_pos (by simpa using c)]
      · simp only [zd.s0]
        rw [Z2 (by omega)]
    rw [h]
    cases (List.range l.length).find? (fun v => decide (rowP l v ≠ 0)) <;> simp
end Mu
/- Layer 10: a grid's cells, played with. -/
set_option linter.unusedVariables false
set_option linter.unusedSimpArgs false
set_option maxRecDepth 10000
namespace Mu
/-- Each edge leads to a cell. -/
structure Rg (l : List Zk) : Prop where
  len : l.length ≤ 4096
  nx : ∀ v d : Nat, v < l.length → d < 4 → nx l v d = -1 ∨ (0 ≤ nx l v d ∧ nx l v d < l.length)
theorem Rg.wth {l : List Zk} {v w d : Nat} {o : Int} (h : Rg l) (hv : v < l.length) (hw : w < l.length) (hvw : v ≠ w) (hd : d < 4) : Rg (wth l v d w o) := by
  refine ⟨by rw [wth_length]; exact h.len, fun i e hi he => ?_⟩
  rw [wth_length] at hi ⊢
  rw [(nx_wth hv hw hvw hd hi he).1]
  split
  · omega
  · split
    · omega
    · exact h.nx i e hi he
theorem nx_noC {d : Nat} (h : d < 4) : noC.Next.get (d : Int) = -1 ∧ noC.Owner.get (d : Int) = 0 := by
  match d, h with
  | 0, _ | 1, _ | 2, _ | 3, _ => exact ⟨rfl, rfl⟩
theorem Rg.add {l : List Zk} (h : Rg l) (hl : l.length < 4096) : Rg (l ++ [noC]) := by
  refine ⟨by simp; omega, fun i e hi he => ?_⟩
  rw [List.length_append, List.length_singleton] at hi ⊢
  unfold Mu.nx
  by_cases c : i < l.length
  · rw [gi_append_left c]
    have := h.nx i e c he
    unfold Mu.nx at this
    omega
  · rw [show i = l.length + 0 by omega, gi_append_right]
    exact .inl (nx_noC he).1
end Mu
/- Layer 10: GridPlays. -/
set_option linter.unusedVariables false
set_option linter.unusedSimpArgs false
set_option maxRecDepth 10000
namespace Mu
theorem Rg.start {n : Nat} (h : n ≤ 4096) : Rg (List.replicate n noC) := by
  refine ⟨by simpa using h, fun v d hv hd => ?_⟩
  simp only [List.length_replicate] at hv
  have : gi (List.replicate n noC) v = noC := by rw [gi_eq (by simpa using hv)]; simp
  unfold Mu.nx
  rw [this]
  exact .inl (nx_noC hd).1
end Mu
/- Layer 10: a split edge. -/
set_option linter.unusedVariables false
set_option linter.unusedSimpArgs false
set_option maxRecDepth 10000
namespace Mu
end Mu
/- Layer 10: turned cells; what Split and Of answer. -/
set_option linter.unusedVariables false
set_option linter.unusedSimpArgs false
set_option maxRecDepth 10000
namespace Mu
end Mu
/- Layer 13: what hangs together, by steps. -/
set_option linter.unusedVariables false
set_option linter.unusedSimpArgs false
set_option maxRecDepth 10000
namespace Mu

theorem giTake {α : Type} [Inhabited α] {l : List α} {n i : Nat} (h : i < n) : gi (l.take n) i = gi l i := by
  unfold gi
  simp [List.getElem?_take, h]
theorem mMul1 {n : Nat} (h : n ≤ 1200) : ZaF 1 n = some (0, (n : Int)) := by
  have key : ∀ n : Fin 1201, ZaF 1 ((n : Nat) : Int) = some (0, ((n : Nat) : Int)) := by decide +kernel
  exact key ⟨n, by omega⟩
theorem mRepeat {n : Nat} (h : n ≤ 1200) : zB [-1] n = some (List.replicate n (-1)) := by
  have L : ∃ r, loopF zB.s0 big (([-1] : List Int).take (List.replicate n (0 : Int)).length ++ (List.replicate n (0 : Int)).drop ([-1] : List Int).length, ((min ([-1] : List Int).length (List.replicate n (0 : Int)).length : Nat) : Int)) = some r ∧ (r.length = n ∧ ∀ i, i < n → gi r i = -1) := by
    refine loop_meas (μ := fun s => ((n : Int) - s.2).toNat) (I := fun s => s.1.length = n ∧ (0 ≤ s.2 ∧ s.2 ≤ (n : Int)) ∧ (0 < n → 0 < s.2) ∧ ∀ i : Nat, (i : Int) < s.2 → gi s.1 i = -1) (by dsimp only; unfold big; omega) ?_ ?_
    · cases n with
      | zero => exact ⟨rfl, by simp, by simp, fun i hi => by simp at hi; omega⟩
      | succ n =>
        refine ⟨by simp, by simp; omega, fun _ => by simp, fun i hi => ?_⟩
        have : i = 0 := by simp at hi; omega
        subst this
        rfl
    · rintro ⟨x, m⟩ ⟨h1, h2, h3, h4⟩
      dsimp only at h1 h2 h3 h4 ⊢
      obtain ⟨k, rfl⟩ := Int.eq_ofNat_of_zero_le h2.1
      simp only [zB.s0, Int.toNat_natCast]
      by_cases c : (k : Int) < (x.length : Int)
      · refine .inl ?_
        have t1 : (x.take k).length = k := by rw [List.length_take]; omega
        have t2 : (x.drop k).length = n - k := by rw [List.length_drop]; omega
        rw [Z1 c, Z0 (by omega), zE (by omega), t1, t2]
        refine ⟨_, rfl, ⟨by simp; omega, by dsimp only; omega, fun _ => by dsimp only; omega, fun i hi => ?_⟩, by dsimp only; omega⟩
        dsimp only at hi ⊢
        by_cases q : i < k
        · rw [gi_append_left (by rw [t1]; exact q), giTake q]
          exact h4 i (by omega)
        · have e : i = (x.take k).length + (i - k) := by rw [t1]; omega
          rw [e, gi_append_right, gi_append_left (by rw [List.length_take, t1]; omega), giTake (by omega), giTake (by omega)]
          exact h4 _ (by omega)
      · refine .inr ?_
        rw [Z2 c]
        exact ⟨_, rfl, h1, fun i hi => h4 i (by omega)⟩
  obtain ⟨r, e1, e2, e3⟩ := L
  have er : r = List.replicate n (-1) := list_ext (by simp [e2]) fun i hi => by
    rw [e3 i (by omega), gi_eq (by simp; omega)]
    simp
  unfold zB
  rw [Z2 (by omega), Option.bind_some, Z0 (show inK .u64 (([-1] : List Int).length : Int) by decide), Z0 (show inK .u64 (n : Int) from by
    simp only [inK, Go.IntKind.wrap, Go.IntKind.bits, Go.IntKind.signed]
    simp
    omega), show (([-1] : List Int).length : Int) = 1 from rfl, mMul1 h, Option.bind_some]
  dsimp only
  rw [if_neg (by simp; omega), Option.bind_some, ckK64 (by omega), Z0 (by omega), Int.toNat_natCast, e1, Option.bind_some, er]

/-- Is there an edge from a to b? -/
def Adj (l : List Zk) (a b : Nat) : Prop := ∃ d, d < 4 ∧ nx l a d = b
/-- In so many steps. -/
inductive Rch (l : List Zk) (v : Nat) : Nat → Nat → Prop
  | zero : Rch l v 0 v
  | succ {n a b} : Rch l v n a → Adj l a b → Rch l v (n + 1) b
theorem Adj.lt {l : List Zk} (h : Ck l) {a b : Nat} (ha : a < l.length) (hab : Adj l a b) : b < l.length := by
  obtain ⟨d, hd, e⟩ := hab
  have := h.lt ha hd
  omega
theorem Adj.symm {l : List Zk} (h : Ck l) {a b : Nat} (ha : a < l.length) (hab : Adj l a b) : Adj l b a := by
  obtain ⟨d, hd, e⟩ := hab
  rcases h.s a d ha hd with ⟨e2, _⟩ | ⟨w, e2, _, _, e3, _⟩
  · omega
  · have : w = b := by omega
    subst this
    exact ⟨(d + 2) % 4, by omega, e3⟩
theorem Rch.lt {l : List Zk} (h : Ck l) {v n w : Nat} (hv : v < l.length) (hr : Rch l v n w) : w < l.length := by
  induction hr with
  | zero => exact hv
  | succ _ hab ih => exact hab.lt h ih
theorem Rch.trans {l : List Zk} {a b c n m : Nat} (h1 : Rch l a n b) (h2 : Rch l b m c) : Rch l a (n + m) c := by
  induction h2 with
  | zero => exact h1
  | succ _ hab ih => exact .succ ih hab
theorem Rch.symm {l : List Zk} (h : Ck l) {v n w : Nat} (hv : v < l.length) (hr : Rch l v n w) : Rch l w n v := by
  induction hr with
  | zero => exact .zero
  | succ hr hab ih =>
    have ha := hr.lt h hv
    have := (Rch.succ .zero (hab.symm h ha)).trans ih
    rw [Nat.zero_add, Nat.add_comm] at this
    exact this
/-- How far. -/
def Dist (l : List Zk) (v w n : Nat) : Prop := Rch l v n w ∧ ∀ m, Rch l v m w → n ≤ m
theorem Dist.uniq {l : List Zk} {v w n m : Nat} (h1 : Dist l v w n) (h2 : Dist l v w m) : n = m := by
  have := h1.2 m h2.1
  have := h2.2 n h1.1
  omega
theorem Rch.dist {l : List Zk} {v w n : Nat} (h : Rch l v n w) : ∃ m, m ≤ n ∧ Dist l v w m := by
  induction n using Nat.strongRecOn with
  | _ n ih =>
    by_cases c : ∃ m, m < n ∧ Rch l v m w
    · obtain ⟨m, hm, hr⟩ := c
      obtain ⟨k, hk, hd⟩ := ih m hm hr
      exact ⟨k, by omega, hd⟩
    · refine ⟨n, Nat.le_refl _, h, fun m hm => ?_⟩
      by_cases q : n ≤ m
      · exact q
      · exact absurd ⟨m, by omega, hm⟩ c
theorem Dist.symm {l : List Zk} (h : Ck l) {v w n : Nat} (hv : v < l.length) (hd : Dist l v w n) : Dist l w v n :=
  ⟨hd.1.symm h hv, fun m hm => hd.2 m (hm.symm h (hd.1.lt h hv))⟩
/-- One step ahead. -/
theorem Dist.pred {l : List Zk} {v w n : Nat} (hd : Dist l v w (n + 1)) : ∃ a, Dist l v a n ∧ Adj l a w := by
  obtain ⟨h1, h2⟩ := hd
  cases h1 with
  | succ hr hab =>
    refine ⟨_, ⟨hr, fun m hm => ?_⟩, hab⟩
    have := h2 (m + 1) (.succ hm hab)
    omega
/-- Different things, few places. -/
theorem pigeon : ∀ {n m : Nat} (f : Nat → Nat), (∀ i, i < n → f i < m) → (∀ i j, i < n → j < n → f i = f j → i = j) → n ≤ m
  | 0, m, f, _, _ => Nat.zero_le _
  | n + 1, 0, f, h, _ => absurd (h 0 (by omega)) (by omega)
  | n + 1, m + 1, f, h, hi => by
    have := pigeon (n := n) (m := m) (fun i => if f i = m then f n else f i) (fun i hi' => by
      by_cases c : f i = m
      · rw [if_pos c]
        have := h n (by omega)
        by_cases c2 : f n = m
        · have := hi i n (by omega) (by omega) (by omega); omega
        · omega
      · rw [if_neg c]
        have := h i (by omega)
        omega) (fun i j hi' hj' e => by
      by_cases c : f i = m <;> by_cases c2 : f j = m
      · exact hi i j (by omega) (by omega) (by omega)
      · rw [if_pos c, if_neg c2] at e
        have := hi n j (by omega) (by omega) e; omega
      · rw [if_neg c, if_pos c2] at e
        have := hi i n (by omega) (by omega) e; omega
      · rw [if_neg c, if_neg c2] at e
        exact hi i j (by omega) (by omega) e)
    omega
theorem Dist.all {l : List Zk} {v w : Nat} : ∀ n, Dist l v w n → ∀ m, m ≤ n → ∃ a, Dist l v a m
  | 0, h, m, hm => ⟨w, by rw [show m = 0 by omega]; exact h⟩
  | n + 1, h, m, hm => by
    by_cases c : m = n + 1
    · exact ⟨w, by rw [c]; exact h⟩
    · obtain ⟨a, ha, _⟩ := h.pred
      exact Dist.all n ha m (by omega)
/-- No path is longer than there are cells. -/
theorem Dist.lt {l : List Zk} (h : Ck l) {v w n : Nat} (hv : v < l.length) (hd : Dist l v w n) : n < l.length := by
  have hall := fun m (hm : m < n + 1) => hd.all n m (by omega)
  have := pigeon (n := n + 1) (m := l.length) (fun m => if hm : m < n + 1 then (hall m hm).choose else 0) (fun i hi => by
    rw [dif_pos hi]
    exact (hall i hi).choose_spec.1.lt h hv) (fun i j hi hj e => by
    rw [dif_pos hi, dif_pos hj] at e
    have d1 := (hall i hi).choose_spec
    have d2 := (hall j hj).choose_spec
    rw [e] at d1
    exact d1.uniq d2)
  omega
end Mu
/- Layer 13: spread. -/
set_option linter.unusedVariables false
set_option linter.unusedSimpArgs false
set_option maxRecDepth 10000
namespace Mu

theorem count_set_t : ∀ {m : List Bool} {w : Nat}, w < m.length → gi m w = false → (m.set w true).count false + 1 = m.count false
  | [], w, h, _ => by simp at h
  | b :: m, 0, _, hf => by
    have : b = false := hf
    subst this
    simp
  | b :: m, w + 1, h, hf => by
    have := count_set_t (m := m) (w := w) (by simpa using h) hf
    cases b <;> simp [List.count_cons] <;> omega
structure Sb (l : List Zk) (v : Nat) (δ : Nat → Nat) (fr dr : List Int) (mt : List Bool) : Prop where
  lf : fr.length = l.length
  ld : dr.length = l.length
  lm : mt.length = l.length
  mv : gi mt v = true
  dv : δ v = 0
  rc : ∀ a, gi mt a = true → Rch l v (δ a) a
  fm : ∀ a, gi mt a = true → a ≠ v → ∃ p d : Nat, gi fr a = p ∧ gi dr a = d ∧ d < 4 ∧ gi mt p = true ∧ nx l p d = a ∧ δ a = δ p + 1
  un : ∀ a, a < l.length → gi mt a = false → gi dr a = -1
structure So (l : List Zk) (v : Nat) (δ : Nat → Nat) (q : List Int) (mt : List Bool) : Prop where
  el : ∀ x ∈ q, ∃ a : Nat, x = a ∧ a < l.length ∧ gi mt a = true
  so : q.Pairwise fun x y => δ x.toNat ≤ δ y.toNat ∧ δ y.toNat ≤ δ x.toNat + 1
  pr : ∀ a : Nat, gi mt a = true → (a : Int) ∉ q → (∀ x ∈ q, δ a ≤ δ x.toNat) ∧ ∀ b, Adj l a b → gi mt b = true ∧ δ b ≤ δ a + 1
structure Si (l : List Zk) (v h : Nat) (δ : Nat → Nat) (q : List Int) (mt : List Bool) (d : Nat) : Prop where
  hm : gi mt h = true
  el : ∀ x ∈ q, ∃ a : Nat, x = a ∧ a < l.length ∧ gi mt a = true ∧ δ h ≤ δ a ∧ δ a ≤ δ h + 1
  so : q.Pairwise fun x y => δ x.toNat ≤ δ y.toNat
  pr : ∀ a : Nat, gi mt a = true → (a : Int) ∉ q → a ≠ h → δ a ≤ δ h ∧ ∀ b, Adj l a b → gi mt b = true ∧ δ b ≤ δ a + 1
  hd : ∀ e, e < d → ∀ b : Nat, nx l h e = b → gi mt b = true ∧ δ b ≤ δ h + 1
theorem So.open {l : List Zk} {v h : Nat} {δ : Nat → Nat} {t : List Int} {mt : List Bool} (s : So l v δ ((h : Int) :: t) mt) : Si l v h δ t mt 0 := by
  have hs := List.pairwise_cons.1 s.so
  refine ⟨?_, fun x hx => ?_, hs.2.imp (fun h => h.1), fun a ha hn hne => ?_, fun e he => by omega⟩
  · obtain ⟨a, e, _, hh⟩ := s.el _ List.mem_cons_self
    obtain rfl : h = a := by omega
    exact hh
  · obtain ⟨a, e, h1, h2⟩ := s.el x (List.mem_cons_of_mem _ hx)
    have := hs.1 x hx
    subst e
    exact ⟨a, rfl, h1, h2, by simpa using this.1, by simpa using this.2⟩
  · have := s.pr a ha (by
      rw [List.mem_cons]
      rintro (h | h)
      · omega
      · exact hn h)
    exact ⟨by simpa using this.1 _ List.mem_cons_self, this.2⟩
theorem Si.close {l : List Zk} {v h : Nat} {δ : Nat → Nat} {t : List Int} {mt : List Bool} (s : Si l v h δ t mt 4) : So l v δ t mt := by
  have b : ∀ x ∈ t, δ h ≤ δ x.toNat ∧ δ x.toNat ≤ δ h + 1 := by
    intro x hx
    obtain ⟨a, rfl, _, _, h1, h2⟩ := s.el x hx
    exact ⟨h1, h2⟩
  refine ⟨fun x hx => ?_, ?_, fun a ha hn => ?_⟩
  · obtain ⟨a, e, h1, h2, _⟩ := s.el x hx
    exact ⟨a, e, h1, h2⟩
  · refine List.Pairwise.imp_of_mem ?_ s.so
    intro x y hx hy hxy
    have := b x hx
    have := b y hy
    exact ⟨hxy, by omega⟩
  · by_cases c : a = h
    · subst c
      refine ⟨fun x hx => (b x hx).1, ?_⟩
      rintro w ⟨d, hd, e⟩
      exact s.hd d hd w e
    · have := s.pr a ha hn c
      refine ⟨fun x hx => ?_, this.2⟩
      have := b x hx
      omega
/-- A cell is met. -/
theorem Sb.meet {l : List Zk} (hc : Ck l) {v h d w : Nat} {δ : Nat → Nat} {fr dr : List Int} {mt : List Bool} (s : Sb l v δ fr dr mt) (hm : gi mt h = true) (hd : d < 4) (hw : nx l h d = w) (hwl : w < l.length) (hu : gi mt w = false) :
    Sb l v (fun a => if a = w then δ h + 1 else δ a) (fr.set w h) (dr.set w d) (mt.set w true) := by
  have gm : ∀ a, gi (mt.set w true) a = if a = w then true else gi mt a := fun a => gi_set (by rw [s.lm]; exact hwl)
  have gf : ∀ a, gi (fr.set w (h : Int)) a = if a = w then (h : Int) else gi fr a := fun a => gi_set (by rw [s.lf]; exact hwl)
  have gd : ∀ a, gi (dr.set w (d : Int)) a = if a = w then (d : Int) else gi dr a := fun a => gi_set (by rw [s.ld]; exact hwl)
  have hwh : h ≠ w := by rintro rfl; rw [hm] at hu; cases hu
  have hwv : v ≠ w := by rintro rfl; rw [s.mv] at hu; cases hu
  have old : ∀ a, gi mt a = true → a ≠ w := by rintro a ha rfl; rw [ha] at hu; cases hu
  refine ⟨by simpa using s.lf, by simpa using s.ld, by simpa using s.lm, ?_, ?_, fun a ha => ?_, fun a ha hav => ?_, fun a ha hau => ?_⟩
  · rw [gm, s.mv]; simp
  · rw [if_neg hwv]; exact s.dv
  · by_cases c : a = w
    · subst c
      rw [if_pos rfl]
      exact .succ (s.rc h hm) ⟨d, hd, hw⟩
    · rw [if_neg c]
      rw [gm, if_neg c] at ha
      exact s.rc a ha
  · by_cases c : a = w
    · subst c
      refine ⟨h, d, by rw [gf, if_pos rfl], by rw [gd, if_pos rfl], hd, by rw [gm, hm]; simp, hw, ?_⟩
      rw [if_pos rfl, if_neg hwh]
    · rw [gm, if_neg c] at ha
      obtain ⟨p, e, h1, h2, h3, h4, h5, h6⟩ := s.fm a ha hav
      refine ⟨p, e, by rw [gf, if_neg c]; exact h1, by rw [gd, if_neg c]; exact h2, h3, by rw [gm, h4]; simp, h5, ?_⟩
      rw [if_neg c, if_neg (old p h4)]; exact h6
  · rw [gm] at hau
    by_cases c : a = w
    · rw [if_pos c] at hau; cases hau
    · rw [if_neg c] at hau
      rw [gd, if_neg c]
      exact s.un a ha hau
theorem Si.meet {l : List Zk} {v h d w : Nat} {δ : Nat → Nat} {q : List Int} {mt : List Bool} (lm : mt.length = l.length) (s : Si l v h δ q mt d) (hw : nx l h d = w) (hwl : w < l.length) (hu : gi mt w = false) :
    Si l v h (fun a => if a = w then δ h + 1 else δ a) (q ++ [(w : Int)]) (mt.set w true) (d + 1) := by
  have gm : ∀ a, gi (mt.set w true) a = if a = w then true else gi mt a := fun a => gi_set (by rw [lm]; exact hwl)
  have old : ∀ a, gi mt a = true → a ≠ w := by rintro a ha rfl; rw [ha] at hu; cases hu
  have hwh : h ≠ w := old h s.hm
  have keep : ∀ a, gi mt a = true → gi (mt.set w true) a = true := fun a ha => by rw [gm, ha]; simp
  refine ⟨keep h s.hm, fun x hx => ?_, ?_, fun a ha hn hne => ?_, fun e he b hb => ?_⟩
  · rw [List.mem_append, List.mem_singleton] at hx
    rw [if_neg hwh]
    rcases hx with hx | rfl
    · obtain ⟨a, e, h1, h2, h3, h4⟩ := s.el x hx
      exact ⟨a, e, h1, keep a h2, by rw [if_neg (old a h2)]; exact h3, by rw [if_neg (old a h2)]; exact h4⟩
    · exact ⟨w, rfl, hwl, by rw [gm, if_pos rfl], by rw [if_pos rfl]; omega, by rw [if_pos rfl]; omega⟩
  · rw [List.pairwise_append]
    refine ⟨List.Pairwise.imp_of_mem ?_ s.so, List.pairwise_singleton _ _, fun x hx y hy => ?_⟩
    · intro x y hx hy hxy
      obtain ⟨a, rfl, h1, h2, h3, h4⟩ := s.el x hx
      obtain ⟨b, rfl, k1, k2, k3, k4⟩ := s.el y hy
      simp only [Int.toNat_natCast] at hxy ⊢
      rw [if_neg (old a h2), if_neg (old b k2)]
      exact hxy
    · rw [List.mem_singleton] at hy
      subst hy
      obtain ⟨a, rfl, h1, h2, h3, h4⟩ := s.el x hx
      simp only [Int.toNat_natCast]
      rw [if_neg (old a h2)]
      simpa using h4
  · rw [List.mem_append, List.mem_singleton] at hn
    have haw : a ≠ w := fun c => hn (.inr (by omega))
    rw [gm, if_neg haw] at ha
    have := s.pr a ha (fun c => hn (.inl c)) hne
    rw [if_neg haw, if_neg hwh]
    refine ⟨this.1, fun b hb => ?_⟩
    have := this.2 b hb
    exact ⟨keep b this.1, by rw [if_neg (old b this.1)]; exact this.2⟩
  · rw [if_neg hwh]
    by_cases c : e = d
    · subst c
      have : b = w := by omega
      subst this
      exact ⟨by rw [gm, if_pos rfl], by rw [if_pos rfl]; omega⟩
    · have := s.hd e (by omega) b hb
      exact ⟨keep b this.1, by rw [if_neg (old b this.1)]; exact this.2⟩
theorem Si.skip {l : List Zk} {v h d : Nat} {δ : Nat → Nat} {q : List Int} {mt : List Bool} (s : Si l v h δ q mt d) (hs : ∀ w : Nat, nx l h d = w → gi mt w = true) : Si l v h δ q mt (d + 1) := by
  refine ⟨s.hm, s.el, s.so, s.pr, fun e he b hb => ?_⟩
  by_cases c : e = d
  · subst c
    have hm := hs b hb
    refine ⟨hm, ?_⟩
    by_cases c1 : (b : Int) ∈ q
    · obtain ⟨a, e, _, _, _, h4⟩ := s.el _ c1
      have : b = a := by omega
      subst this; exact h4
    · by_cases c2 : b = h
      · subst c2; omega
      · have := (s.pr b hm c1 c2).1
        omega
  · exact s.hd e (by omega) b hb
end Mu
/- Layer 13: spread, walked. -/
set_option linter.unusedVariables false
set_option linter.unusedSimpArgs false
set_option maxRecDepth 10000
namespace Mu

theorem mSpread1 {l : List Zk} (hc : Ck l) (hl : l.length ≤ 4096) {v h : Nat} {t0 t : List Int} {δ : Nat → Nat} {fr dr : List Int} {mt : List Bool} (hh : h < l.length) (sb : Sb l v δ fr dr mt) (si : Si l v h δ t mt 0) (hn : mt.count false + t.length ≤ l.length) :
    ∃ r : List Int × List Int × List Int × List Bool, loopF (zN.s1 l ((h : Int) :: t0)) big (fr, dr, t, mt, 0) = some r ∧ ∃ δ', Sb l v δ' r.1 r.2.1 r.2.2.2 ∧ Si l v h δ' r.2.2.1 r.2.2.2 4 ∧ r.2.2.2.count false + r.2.2.1.length = mt.count false + t.length := by
  have g0 : ∀ x : List Int, gi ((h : Int) :: x) (0 : Int).toNat = h := fun _ => rfl
  refine loop_inv (n := 4) (I := fun d (s : List Int × List Int × List Int × List Bool × Int) => s.2.2.2.2 = d ∧ ∃ δ', Sb l v δ' s.1 s.2.1 s.2.2.2.1 ∧ Si l v h δ' s.2.2.1 s.2.2.2.1 d ∧ s.2.2.2.1.count false + s.2.2.1.length = mt.count false + t.length) (R := fun r : List Int × List Int × List Int × List Bool => ∃ δ', Sb l v δ' r.1 r.2.1 r.2.2.2 ∧ Si l v h δ' r.2.2.1 r.2.2.2 4 ∧ r.2.2.2.count false + r.2.2.1.length = mt.count false + t.length) (big_lt (by omega)) ⟨rfl, δ, sb, si, rfl⟩ ?_ ?_
  · rintro d ⟨fr', dr', t', mt', x⟩ hd ⟨hx, δ', sb', si', hn'⟩
    dsimp only at hx sb' si' hn'
    subst hx
    simp only [zN.s1]
    rw [Z1 (by omega), g0, Z0 (by omega), Z0 (by omega), Int.toNat_natCast]
    have e : ((gi l h).Next).get (d : Int) = nx l h d := rfl
    rw [e]
    have hlt := hc.lt hh (show d < 4 from hd)
    have lm := sb'.lm
    have lf := sb'.lf
    have ld := sb'.ld
    by_cases c : 0 ≤ nx l h d
    · obtain ⟨w, hw⟩ : ∃ w : Nat, nx l h d = w := ⟨(nx l h d).toNat, by omega⟩
      rw [hw]
      rw [hw] at hlt
      have hwl : w < l.length := by omega
      rw [Z1 (by omega), Z0 (by omega), Option.bind_some, Int.toNat_natCast]
      cases hm : gi mt' w with
      | true =>
        rw [if_neg (by decide), zE (by omega)]
        refine ⟨_, rfl, rfl, δ', sb', si'.skip (fun w' hw' => ?_), hn'⟩
        have : w' = w := by omega
        rw [this]; exact hm
      | false =>
        have hcount := count_set_t (m := mt') (w := w) (by omega) hm
        rw [if_pos (by decide), Z0 (by omega), Z0 (by omega), Z0 (by omega), Z0 (by simp; omega), zE (by omega)]
        refine ⟨_, rfl, rfl, _, sb'.meet hc si'.hm hd hw hwl hm, si'.meet lm hw hwl hm, ?_⟩
        simp only [List.length_append, List.length_cons, List.length_nil]
        omega
    · rw [Z2 (by omega), Option.bind_some, if_neg (by decide), zE (by omega)]
      exact ⟨_, rfl, rfl, δ', sb', si'.skip (fun w' hw' => by omega), hn'⟩
  · rintro ⟨fr', dr', t', mt', x⟩ ⟨hx, δ', sb', si', hn'⟩
    dsimp only at hx sb' si' hn'
    subst hx
    simp only [zN.s1]
    rw [Z2 (by omega)]
    exact ⟨_, rfl, δ', sb', si', hn'⟩
/-- What spread gives: for each cell that can be reached, how far it is. -/
structure Spr (l : List Zk) (v : Nat) (fr dr : List Int) : Prop where
  lf : fr.length = l.length
  ld : dr.length = l.length
  fm : ∀ a n, Dist l v a n → a ≠ v → ∃ p d m : Nat, gi fr a = p ∧ gi dr a = d ∧ d < 4 ∧ nx l p d = a ∧ Dist l v p m ∧ n = m + 1
  un : ∀ a, a < l.length → (∀ n, ¬ Rch l v n a) → gi dr a = -1
theorem spr_of {l : List Zk} (hc : Ck l) {v : Nat} {δ : Nat → Nat} {fr dr : List Int} {mt : List Bool} (hv : v < l.length) (sb : Sb l v δ fr dr mt) (so : So l v δ [] mt) : Spr l v fr dr := by
  have all : ∀ n a, Rch l v n a → gi mt a = true ∧ δ a ≤ n := by
    intro n a h
    induction h with
    | zero => exact ⟨sb.mv, by rw [sb.dv]; omega⟩
    | succ hr hab ih =>
      have := (so.pr _ ih.1 (by simp)).2 _ hab
      exact ⟨this.1, by omega⟩
  have dist : ∀ a, gi mt a = true → Dist l v a (δ a) := fun a ha => ⟨sb.rc a ha, fun m hm => (all m a hm).2⟩
  refine ⟨sb.lf, sb.ld, fun a n hd hav => ?_, fun a ha hu => ?_⟩
  · have hm := (all n a hd.1).1
    obtain ⟨p, d, h1, h2, h3, h4, h5, h6⟩ := sb.fm a hm hav
    refine ⟨p, d, δ p, h1, h2, h3, h5, dist p h4, ?_⟩
    have := (dist a hm).uniq hd
    omega
  · refine sb.un a ha ?_
    cases h : gi mt a with
    | false => rfl
    | true => exact absurd (sb.rc a h) (hu _)
theorem mSpread {l : List Zk} (hc : Ck l) (hl : l.length ≤ 1200) {v : Nat} (hv : v < l.length) : ∃ fr dr, zN l v = some (fr, dr) ∧ Spr l v fr dr := by
  have gr : ∀ a, gi (List.replicate l.length false) a = false := by
    intro a
    by_cases h : a < l.length
    · rw [gi_eq (by simpa using h)]; simp
    · rw [gi_default (by simpa using h)]; rfl
  have gr2 : ∀ a, a < l.length → gi (List.replicate l.length (-1 : Int)) a = -1 := by
    intro a h
    rw [gi_eq (by simpa using h)]; simp
  have gm : ∀ a, gi ((List.replicate l.length false).set v true) a = if a = v then true else false := by
    intro a
    rw [gi_set (by simpa using hv), gr]
  have sb0 : Sb l v (fun _ => 0) (List.replicate l.length (-1)) (List.replicate l.length (-1)) ((List.replicate l.length false).set v true) := by
    refine ⟨by simp, by simp, by simp, by rw [gm, if_pos rfl], rfl, fun a ha => ?_, fun a ha hav => ?_, fun a ha hu => gr2 a ha⟩
    · rw [gm] at ha
      by_cases c : a = v
      · subst c; exact .zero
      · rw [if_neg c] at ha; cases ha
    · rw [gm, if_neg hav] at ha; cases ha
  have so0 : So l v (fun _ => 0) [(v : Int)] ((List.replicate l.length false).set v true) := by
    refine ⟨fun x hx => ?_, List.pairwise_singleton _ _, fun a ha hn => ?_⟩
    · rw [List.mem_singleton] at hx
      exact ⟨v, hx, hv, by rw [gm, if_pos rfl]⟩
    · rw [gm] at ha
      by_cases c : a = v
      · subst c; exact absurd List.mem_cons_self hn
      · rw [if_neg c] at ha; cases ha
  have cnt0 : ((List.replicate l.length false).set v true).count false + 1 = l.length := by
    rw [count_set_t (by simpa using hv) (gr v)]; simp
  obtain ⟨r, h1, h2⟩ := loop_meas (step := zN.s0 l) (s0 := (List.replicate l.length (-1), List.replicate l.length (-1), [(v : Int)], (List.replicate l.length false).set v true)) (μ := fun s : List Int × List Int × List Int × List Bool => s.2.2.2.count false + s.2.2.1.length) (I := fun s => ∃ δ, Sb l v δ s.1 s.2.1 s.2.2.2 ∧ So l v δ s.2.2.1 s.2.2.2 ∧ s.2.2.2.count false + s.2.2.1.length ≤ l.length) (R := fun r : List Int × List Int => Spr l v r.1 r.2) (big_lt (by simp only [List.length_cons, List.length_nil]; omega)) ⟨_, sb0, so0, by simp only [List.length_cons, List.length_nil]; omega⟩ (by
    rintro ⟨fr, dr, q, mt⟩ ⟨δ, sb, so, hn⟩
    dsimp only at sb so hn
    simp only [zN.s0]
    cases q with
    | nil =>
      right
      rw [Z2 (by simp)]
      exact ⟨_, rfl, spr_of hc hv sb so⟩
    | cons x t =>
      left
      obtain ⟨h, rfl, hh, _⟩ := so.el x List.mem_cons_self
      rw [List.length_cons] at hn
      obtain ⟨⟨fr', dr', t', mt'⟩, e1, δ', sb', si', hn'⟩ := mSpread1 (t0 := t) hc (by omega) hh sb so.open (by omega)
      dsimp only at e1 sb' si' hn'
      have hd : List.drop (1 : Int).toNat ((h : Int) :: t) = t := rfl
      rw [Z1 (by simp <;> omega), Z0 (by simp <;> omega), Z0 (by simp <;> omega), hd, e1, Option.bind_some]
      refine ⟨_, rfl, ⟨δ', sb', si'.close, by dsimp only; omega⟩, ?_⟩
      simp only [List.length_cons]
      omega)
  obtain ⟨fr, dr⟩ := r
  refine ⟨fr, dr, ?_, h2⟩
  unfold zN
  rw [mRepeat hl, Option.bind_some, Option.bind_some, Z0 (by omega), Int.toNat_natCast, Z0 (by simp; omega), Int.toNat_natCast, h1, Option.bind_some]
end Mu
/- Layer 13: far. -/
set_option linter.unusedVariables false
set_option linter.unusedSimpArgs false
set_option maxRecDepth 10000
namespace Mu

/-- How far after so many rounds, the cells ahead of i done, of i the directions ahead of d. -/
structure Fa (l : List Zk) (v r i d : Nat) (far : List Int) : Prop where
  lf : far.length = l.length
  so : ∀ a, a < l.length → gi far a = -1 ∨ ∃ n : Nat, gi far a = n ∧ Dist l v a n ∧ n ≤ r + 1
  al : ∀ a n, Dist l v a n → n ≤ r → gi far a = n
  nw : ∀ (a b e : Nat), e < 4 → Dist l v a r → nx l a e = b → (a < i ∨ a = i ∧ e < d) → 0 ≤ gi far b
/-- The distance as a number: -1, where there is none. -/
def IsFar (l : List Zk) (v a : Nat) (x : Int) : Prop := (x = -1 ∧ ∀ n, ¬ Rch l v n a) ∨ ∃ n : Nat, x = n ∧ Dist l v a n
theorem Fa.close {l : List Zk} (hc : Ck l) {v r : Nat} {far : List Int} (hv : v < l.length) (h : Fa l v r l.length 0 far) : Fa l v (r + 1) 0 0 far := by
  refine ⟨h.lf, fun a ha => (h.so a ha).imp id (fun ⟨n, e, d, k⟩ => ⟨n, e, d, by omega⟩), fun a n hd hn => ?_, fun a b e he hd hw hh => by omega⟩
  by_cases c : n ≤ r
  · exact h.al a n hd c
  · obtain rfl : n = r + 1 := by omega
    obtain ⟨p, hp, e, he, hw⟩ := hd.pred
    have hpl := hp.1.lt hc hv
    have := h.nw p a e he hp hw (.inl hpl)
    rcases h.so a (hd.1.lt hc hv) with e1 | ⟨m, e1, e2, e3⟩
    · omega
    · rw [e1, e2.uniq hd]
theorem mFar3 {l : List Zk} (hc : Ck l) (hl : l.length ≤ 4096) {v r i : Nat} {far : List Int} (hv : v < l.length) (hi : i < l.length) (h : Fa l v r i 0 far) (hr : r ≤ 4096) :
    ∃ far', loopF (ZP.s3 l r i) big (far, 0) = some far' ∧ Fa l v r (i + 1) 0 far' := by
  refine loop_inv (n := 4) (I := fun d (s : List Int × Int) => s.2 = d ∧ Fa l v r i d s.1) (R := fun far' => Fa l v r (i + 1) 0 far') (big_lt (by omega)) ⟨rfl, h⟩ ?_ ?_
  · rintro d ⟨f, x⟩ hd ⟨hx, hf⟩
    dsimp only at hx hf
    subst hx
    have lf := hf.lf
    simp only [ZP.s3]
    rw [Z1 (by omega), Z0 (by omega), Z0 (by omega), Z0 (by omega), Int.toNat_natCast]
    have e : ((gi l i).Next).get (d : Int) = nx l i d := rfl
    rw [e]
    have hlt := hc.lt hi (show d < 4 from hd)
    have skip : (Dist l v i r → ∀ b : Nat, nx l i d = b → 0 ≤ gi f b) → Fa l v r i (d + 1) f := fun hs => ⟨hf.lf, hf.so, hf.al, fun a b e he ha hw hh => by
      by_cases c : a = i ∧ e = d
      · obtain ⟨rfl, rfl⟩ := c
        exact hs ha b hw
      · exact hf.nw a b e he ha hw (by omega)⟩
    by_cases c1 : gi f i = r ∧ 0 ≤ nx l i d
    · obtain ⟨w, hw⟩ : ∃ w : Nat, nx l i d = w := ⟨(nx l i d).toNat, by omega⟩
      have hd0 : Dist l v i r := by
        rcases hf.so i hi with q | ⟨n, q, q2, _⟩
        · omega
        · have : n = r := by omega
          subst this; exact q2
      have hmx : max (nx l i d) 0 = (w : Int) := by omega
      rw [if_pos (by simp [c1]), hmx, Z0 (by omega), Option.bind_some, Int.toNat_natCast]
      have hwl : w < l.length := by omega
      by_cases c2 : gi f w < 0
      · rw [Z1 c2, zE (by omega), Z0 (by omega), zE (by omega), hw, Int.toNat_natCast]
        have g : ∀ a, gi (f.set w ((r : Int) + 1)) a = if a = w then (r : Int) + 1 else gi f a := fun a => gi_set (by omega)
        have dw : Dist l v w (r + 1) := by
          refine ⟨.succ hd0.1 ⟨d, hd, hw⟩, fun m hm => ?_⟩
          obtain ⟨k, hk, hdk⟩ := hm.dist
          by_cases q : k ≤ r
          · have := hf.al w k hdk q; omega
          · omega
        refine ⟨_, rfl, rfl, by simpa using hf.lf, fun a ha => ?_, fun a n hdn hn => ?_, fun a b e he ha hw' hh => ?_⟩
        · rw [g]
          by_cases q : a = w
          · rw [if_pos q]; right; exact ⟨r + 1, by omega, by rw [q]; exact dw, by omega⟩
          · rw [if_neg q]; exact hf.so a ha
        · rw [g]
          by_cases q : a = w
          · subst q
            have := hf.al a n hdn hn; omega
          · rw [if_neg q]; exact hf.al a n hdn hn
        · rw [g]
          by_cases q : b = w
          · rw [if_pos q]; omega
          · rw [if_neg q]
            refine hf.nw a b e he ha hw' ?_
            by_cases q2 : a = i ∧ e = d
            · obtain ⟨rfl, rfl⟩ := q2; omega
            · omega
      · rw [Z2 c2, zE (by omega)]
        refine ⟨_, rfl, rfl, skip (fun _ b hb => ?_)⟩
        have : b = w := by omega
        subst this; omega
    · rw [if_neg (by simpa using c1), Option.bind_some, if_neg (by decide), zE (by omega)]
      refine ⟨_, rfl, rfl, skip (fun hd0 b hb => ?_)⟩
      exact absurd ⟨hf.al i r hd0 (Nat.le_refl _), by omega⟩ c1
  · rintro ⟨f, x⟩ ⟨hx, hf⟩
    dsimp only at hx hf
    subst hx
    simp only [ZP.s3]
    rw [Z2 (by omega)]
    exact ⟨_, rfl, hf.lf, hf.so, hf.al, fun a b e he ha hw hh => hf.nw a b e he ha hw (by omega)⟩
theorem mFar2 {l : List Zk} (hc : Ck l) (hl : l.length ≤ 4096) {v r : Nat} {far : List Int} (hv : v < l.length) (h : Fa l v r 0 0 far) (hr : r ≤ 4096) :
    ∃ far', loopF (ZP.s2 l r) big (far, 0) = some far' ∧ Fa l v (r + 1) 0 0 far' := by
  refine loop_inv (n := l.length) (I := fun i (s : List Int × Int) => s.2 = i ∧ Fa l v r i 0 s.1) (R := fun far' => Fa l v (r + 1) 0 0 far') (big_lt (by omega)) ⟨rfl, h⟩ ?_ ?_
  · rintro i ⟨f, x⟩ hi ⟨hx, hf⟩
    dsimp only at hx hf
    subst hx
    obtain ⟨f', e1, e2⟩ := mFar3 hc hl hv hi hf hr
    simp only [ZP.s2]
    rw [Z1 (by omega), e1, Option.bind_some, zE (by omega)]
    exact ⟨_, rfl, rfl, e2⟩
  · rintro ⟨f, x⟩ ⟨hx, hf⟩
    dsimp only at hx hf
    subst hx
    simp only [ZP.s2]
    rw [Z2 (by omega)]
    exact ⟨_, rfl, hf.close hc hv⟩
theorem mFar0 {l : List Zk} (hl : l.length ≤ 4096) : loopF (ZP.s0 l) big (List.replicate l.length 0, 0) = some (List.replicate l.length (-1)) := by
  refine loop_to (fun n : Nat => (List.replicate n (-1) ++ List.replicate (l.length - n) 0, (n : Int))) (n := l.length) (big_lt (by omega)) (by simp) (fun n hn => ?_) ?_
  · simp only [ZP.s0]
    rw [Z1 (by omega), Z0 (by simp; omega), zE (by omega), Int.toNat_natCast, show l.length - n = l.length - (n + 1) + 1 by omega, List.replicate_succ, List.set_append_right _ _ (by simp), List.replicate_succ']
    simp
  · simp only [ZP.s0]
    rw [Z2 (by omega)]
    simp
theorem mFar {l : List Zk} (hc : Ck l) (hl : l.length ≤ 4096) {v : Nat} (hv : v < l.length) : ∃ far, ZP l v = some far ∧ far.length = l.length ∧ ∀ a, a < l.length → IsFar l v a (gi far a) := by
  have gr : ∀ a, a < l.length → gi (List.replicate l.length (-1 : Int)) a = -1 := by
    intro a h
    rw [gi_eq (by simpa using h)]; simp
  have g : ∀ a, gi ((List.replicate l.length (-1 : Int)).set v 0) a = if a = v then 0 else gi (List.replicate l.length (-1 : Int)) a := fun a => gi_set (by simpa using hv)
  have dz : Dist l v v 0 := ⟨.zero, fun m _ => by omega⟩
  have h0 : Fa l v 0 0 0 ((List.replicate l.length (-1 : Int)).set v 0) := by
    refine ⟨by simp, fun a ha => ?_, fun a n hd hn => ?_, fun a b e he hd hw hh => by omega⟩
    · rw [g]
      by_cases c : a = v
      · rw [if_pos c]; right; exact ⟨0, rfl, by rw [c]; exact dz, by omega⟩
      · rw [if_neg c]; exact .inl (gr a ha)
    · obtain rfl : n = 0 := by omega
      have := hd.1
      cases this
      rw [g, if_pos rfl]; rfl
  obtain ⟨far, e1, e2⟩ := loop_inv (step := ZP.s1 l) (s0 := ((List.replicate l.length (-1 : Int)).set v 0, (0 : Int))) (n := l.length) (I := fun r (s : List Int × Int) => s.2 = r ∧ Fa l v r 0 0 s.1) (R := fun far => Fa l v l.length 0 0 far) (big_lt (by omega)) ⟨rfl, h0⟩ (by
    rintro r ⟨f, x⟩ hr ⟨hx, hf⟩
    dsimp only at hx hf
    subst hx
    obtain ⟨f', e1, e2⟩ := mFar2 hc hl hv hf (by omega)
    simp only [ZP.s1]
    rw [Z1 (by omega), e1, Option.bind_some, zE (by omega)]
    exact ⟨_, rfl, rfl, e2⟩) (by
    rintro ⟨f, x⟩ ⟨hx, hf⟩
    dsimp only at hx hf
    subst hx
    simp only [ZP.s1]
    rw [Z2 (by omega)]
    exact ⟨_, rfl, hf⟩)
  refine ⟨far, ?_, e2.lf, fun a ha => ?_⟩
  · unfold ZP
    rw [Z0 (by omega), Int.toNat_natCast, mFar0 hl, Option.bind_some, Z0 (by simp; omega), Int.toNat_natCast, e1, Option.bind_some]
  · by_cases c : ∃ n, Rch l v n a
    · obtain ⟨n, hn⟩ := c
      obtain ⟨m, _, hm⟩ := hn.dist
      have := hm.lt hc hv
      exact .inr ⟨m, e2.al a m hm (by omega), hm⟩
    · left
      refine ⟨?_, fun n hn => c ⟨n, hn⟩⟩
      rcases e2.so a ha with e | ⟨n, e, d, _⟩
      · exact e
      · exact absurd ⟨n, d.1⟩ c
end Mu
/- Layer 13: paths. -/
set_option linter.unusedVariables false
set_option linter.unusedSimpArgs false
set_option maxRecDepth 10000
namespace Mu

end Mu
/- Layer 13: there and back. -/
set_option linter.unusedVariables false
set_option linter.unusedSimpArgs false
set_option maxRecDepth 10000
namespace Mu
theorem okZ {z : zn} (m1 : z.At.length ≤ Go.maxLen) (b1 : ∀ y ∈ z.At, ZaO y) (b3 : ∀ y ∈ z.Own, ZaS y) : OkZ z :=
  ⟨by unfold Go.maxLen at m1; omega, b1, b3⟩
end Mu
/- Layer 13: join's paths. -/
set_option linter.unusedVariables false
set_option linter.unusedSimpArgs false
set_option maxRecDepth 10000
namespace Mu
end Mu
/- Layer 13: join's parts. -/
set_option linter.unusedVariables false
set_option linter.unusedSimpArgs false
set_option maxRecDepth 10000
namespace Mu
/-- Can w be reached from v? -/
noncomputable def rb (l : List Zk) (v w : Nat) : Bool := @decide (∃ n, Rch l v n w) (Classical.propDecidable _)
theorem rb_iff {l : List Zk} {v w : Nat} : rb l v w = true ↔ ∃ n, Rch l v n w := by simp [rb]
noncomputable def partTo (l : List Zk) (v k : Nat) : List Int := ((List.range k).filter (rb l v)).map fun w : Nat => (w : Int)
noncomputable def metTo (l : List Zk) (v : Nat) (met : List Bool) (k : Nat) : List Bool := (List.range l.length).map fun w => if w < k then gi met w || rb l v w else gi met w
theorem metTo_length {l : List Zk} {v k : Nat} {met : List Bool} : (metTo l v met k).length = l.length := by simp [metTo]
theorem gi_metTo {l : List Zk} {v k w : Nat} {met : List Bool} (h : w < l.length) : gi (metTo l v met k) w = if w < k then gi met w || rb l v w else gi met w := gi_map_range h
theorem metTo_zero {l : List Zk} {v : Nat} {met : List Bool} (h : met.length = l.length) : metTo l v met 0 = met :=
  list_ext (by rw [metTo_length, h]) (fun i hi => by rw [metTo_length] at hi; rw [gi_metTo hi, if_neg (by omega)])
theorem metTo_on {l : List Zk} {v k : Nat} {met : List Bool} (hk : k < l.length) (h : rb l v k = true) : (metTo l v met k).set k true = metTo l v met (k + 1) := by
  apply list_ext (by rw [List.length_set, metTo_length, metTo_length])
  intro i hi
  rw [List.length_set, metTo_length] at hi
  rw [gi_set (by rw [metTo_length]; exact hk), gi_metTo hi, gi_metTo hi]
  by_cases c : i = k
  · subst c; rw [if_pos rfl, if_pos (by omega), h]; simp
  · rw [if_neg c]
    by_cases c2 : i < k
    · rw [if_pos c2, if_pos (by omega)]
    · rw [if_neg c2, if_neg (by omega)]
theorem metTo_off {l : List Zk} {v k : Nat} {met : List Bool} (h : rb l v k = false) : metTo l v met k = metTo l v met (k + 1) := by
  apply list_ext (by rw [metTo_length, metTo_length])
  intro i hi
  rw [metTo_length] at hi
  rw [gi_metTo hi, gi_metTo hi]
  by_cases c : i = k
  · subst c; rw [if_neg (by omega), if_pos (by omega), h]; simp
  · by_cases c2 : i < k
    · rw [if_pos c2, if_pos (by omega)]
    · rw [if_neg c2, if_neg (by omega)]
theorem partTo_on {l : List Zk} {v k : Nat} (h : rb l v k = true) : partTo l v (k + 1) = partTo l v k ++ [(k : Int)] := by
  unfold partTo; rw [List.range_succ, List.filter_append]; simp [h]
theorem partTo_off {l : List Zk} {v k : Nat} (h : rb l v k = false) : partTo l v (k + 1) = partTo l v k := by
  unfold partTo; rw [List.range_succ, List.filter_append]; simp [h]
theorem partTo_length {l : List Zk} {v k : Nat} : (partTo l v k).length ≤ k := by
  unfold partTo; rw [List.length_map]
  have := List.length_filter_le (rb l v) (List.range k)
  simpa using this
theorem jpInner {l : List Zk} (hl : l.length ≤ 1200) {v : Nat} {fr dr : List Int} {met : List Bool} (hm : met.length = l.length) (sp : Spr l v fr dr) (hc : Ck l) (hv : v < l.length) : loopF (zR.s1 l v dr) big (met, [], 0) = some (metTo l v met l.length, partTo l v l.length) := by
  have ld := sp.ld
  refine loop_to (fun k : Nat => (metTo l v met k, partTo l v k, (k : Int))) (n := l.length) (big_lt (by omega)) (by rw [metTo_zero hm]; rfl) (fun k hk => ?_) ?_
  · have hp := partTo_length (l := l) (v := v) (k := k)
    have hmt := metTo_length (l := l) (v := v) (k := k) (met := met)
    have t : (if decide ((k : Int) = (v : Int)) = true then some true else ck ((0 : Int) ≤ (k : Int) ∧ (k : Int) < (dr.length : Int)) (some (decide (0 ≤ (gi dr (k : Int).toNat))))) = some (rb l v k) := by
      by_cases c : k = v
      · subst c
        rw [Z1 rfl, (rb_iff).2 ⟨0, .zero⟩]
      · rw [Z2 (by omega), Z0 (by omega), Int.toNat_natCast]
        cases h : rb l v k with
        | true =>
          obtain ⟨n, hn⟩ := rb_iff.1 h
          obtain ⟨m, _, hd⟩ := hn.dist
          obtain ⟨p, d, _, _, e2, _⟩ := sp.fm k m hd c
          rw [dec_t (by omega)]
        | false =>
          have := sp.un k hk (fun n hn => by rw [rb_iff.2 ⟨n, hn⟩] at h; cases h)
          rw [dec_f (by omega)]
    simp only [zR.s1]
    rw [Z1 (by omega), t, Option.bind_some, zE (by omega)]
    cases h : rb l v k with
    | true =>
      rw [if_pos rfl, Z0 (by omega), Z0 (by simp; omega), Int.toNat_natCast, metTo_on hk h, partTo_on h, show ((k + 1 : Nat) : Int) = (k : Int) + 1 by omega]
    | false =>
      rw [if_neg (by decide), zE (by omega), metTo_off h, partTo_off h, show ((k + 1 : Nat) : Int) = (k : Int) + 1 by omega]
  · simp only [zR.s1]
    rw [Z2 (by omega)]
noncomputable def PS (l : List Zk) : Nat → List (List Int) × List Bool
  | 0 => ([], List.replicate l.length false)
  | n + 1 => if gi (PS l n).2 n = true then PS l n else ((PS l n).1 ++ [partTo l n l.length], metTo l n (PS l n).2 l.length)
theorem PS_len {l : List Zk} : ∀ n, (PS l n).1.length ≤ n ∧ (PS l n).2.length = l.length
  | 0 => by simp [PS]
  | n + 1 => by
    have := PS_len (l := l) n
    simp only [PS]
    split
    · exact ⟨by omega, this.2⟩
    · exact ⟨by simp; omega, metTo_length⟩
theorem mJoinParts {l : List Zk} (hc : Ck l) (hl : l.length ≤ 1200) : zR l = some ((PS l l.length).1, 0) := by
  have hk : chkP l = 0 := Ck_iff.2 ⟨by omega, hc⟩
  have h : loopF (zR.s0 l) big (([] : List (List Int)), List.replicate l.length false, 0) = some (PS l l.length).1 := by
    refine loop_to (fun n : Nat => ((PS l n).1, (PS l n).2, (n : Int))) (n := l.length) (big_lt (by omega)) rfl (fun n hn => ?_) ?_
    · have hp := PS_len (l := l) n
      simp only [zR.s0]
      rw [Z1 (by omega), Z0 (by omega), Int.toNat_natCast, zE (by omega)]
      by_cases c : gi (PS l n).2 n = true
      · rw [if_pos c, show PS l (n + 1) = PS l n by rw [PS, if_pos c], show ((n + 1 : Nat) : Int) = (n : Int) + 1 by omega]
      · obtain ⟨fr, dr, e1, sp⟩ := mSpread hc hl hn
        rw [if_neg c, e1, Option.bind_some]
        dsimp only
        rw [jpInner hl hp.2 sp hc hn, Option.bind_some]
        dsimp only
        rw [Z0 (by omega), zE (by omega), show PS l (n + 1) = ((PS l n).1 ++ [partTo l n l.length], metTo l n (PS l n).2 l.length) by rw [PS, if_neg c], show ((n + 1 : Nat) : Int) = (n : Int) + 1 by omega]
    · simp only [zR.s0]
      rw [Z2 (by omega)]
  unfold zR
  rw [mCheck (by omega), Option.bind_some, hk, ZG rfl, Z0 (by omega), Int.toNat_natCast, h, Option.bind_some]
end Mu
/- Layer 13: the document's parts, and the law. -/
set_option linter.unusedVariables false
set_option linter.unusedSimpArgs false
set_option maxRecDepth 10000
namespace Mu
theorem rpInner {l : List Zk} (hl : l.length ≤ 1200) {v : Nat} {far : List Int} {met : List Bool} (hm : met.length = l.length) (lf : far.length = l.length) (hf : ∀ a, a < l.length → IsFar l v a (gi far a)) : loopF (zg.s1 l far) big (met, [], 0) = some (metTo l v met l.length, partTo l v l.length) := by
  refine loop_to (fun k : Nat => (metTo l v met k, partTo l v k, (k : Int))) (n := l.length) (big_lt (by omega)) (by rw [metTo_zero hm]; rfl) (fun k hk => ?_) ?_
  · have hp := partTo_length (l := l) (v := v) (k := k)
    have hmt := metTo_length (l := l) (v := v) (k := k) (met := met)
    have t : decide (0 ≤ gi far k) = rb l v k := by
      rcases hf k hk with ⟨e, h⟩ | ⟨n, e, h⟩
      · have : rb l v k = false := by
          cases q : rb l v k with
          | false => rfl
          | true =>
            obtain ⟨n, hn⟩ := rb_iff.1 q
            exact absurd hn (h n)
        rw [this, dec_f (by omega)]
      · rw [rb_iff.2 ⟨n, h.1⟩, dec_t (by omega)]
    simp only [zg.s1]
    rw [Z1 (by omega), Z0 (by omega), Int.toNat_natCast, t]
    cases h : rb l v k with
    | true =>
      rw [if_pos rfl, Z0 (by omega), Z0 (by simp; omega), zE (by omega), metTo_on hk h, partTo_on h, show ((k + 1 : Nat) : Int) = (k : Int) + 1 by omega]
    | false =>
      rw [if_neg (by decide), zE (by omega), metTo_off h, partTo_off h, show ((k + 1 : Nat) : Int) = (k : Int) + 1 by omega]
  · simp only [zg.s1]
    rw [Z2 (by omega)]
theorem rParts {l : List Zk} (hc : Ck l) (hl : l.length ≤ 1200) : zg l = some (PS l l.length).1 := by
  have h : loopF (zg.s0 l) big (List.replicate l.length false, ([] : List (List Int)), 0) = some (PS l l.length).1 := by
    refine loop_to (fun n : Nat => ((PS l n).2, (PS l n).1, (n : Int))) (n := l.length) (big_lt (by omega)) rfl (fun n hn => ?_) ?_
    · have hp := PS_len (l := l) n
      simp only [zg.s0]
      rw [Z1 (by omega), Z0 (by omega), Int.toNat_natCast]
      by_cases c : gi (PS l n).2 n = true
      · rw [if_pos c, zE (by omega), show PS l (n + 1) = PS l n by rw [PS, if_pos c], show ((n + 1 : Nat) : Int) = (n : Int) + 1 by omega]
      · obtain ⟨far, e1, lf, hf⟩ := mFar hc (by omega) hn
        rw [if_neg c, e1, Option.bind_some, rpInner hl hp.2 lf hf, Option.bind_some]
        dsimp only
        rw [Z0 (by omega), zE (by omega), show PS l (n + 1) = ((PS l n).1 ++ [partTo l n l.length], metTo l n (PS l n).2 l.length) by rw [PS, if_neg c], show ((n + 1 : Nat) : Int) = (n : Int) + 1 by omega]
    · simp only [zg.s0]
      rw [Z2 (by omega)]
  unfold zg
  rw [Z0 (by omega), Int.toNat_natCast, h, Option.bind_some]
theorem mWhole {l : List Zk} (hc : Ck l) (hl : l.length ≤ 1200) : Za8 l = some (decide (((PS l l.length).1.length : Int) = 1)) := by
  unfold Za8
  rw [mJoinParts hc hl, Option.bind_some]
  simp
end Mu
/- Layer 13: JoinTurns. -/
set_option linter.unusedVariables false
set_option linter.unusedSimpArgs false
set_option maxRecDepth 10000
namespace Mu
/-! the split edge -/
def ext (v u : Int) (p : List Int) : List Int := if v ∈ p then p ++ [u] else p
end Mu
/- Layer 12: faces, in the code and in the document, are the same walk. -/
set_option linter.unusedVariables false
set_option linter.unusedSimpArgs false
set_option maxRecDepth 10000
namespace Mu
/-- A dart: a cell, a direction. -/
abbrev Da := Nat × Nat
def dt (p : Da) : Zp := ⟨p.1, p.2⟩
def rt (p : Da) : Zr := ⟨p.1, p.2⟩
def isD (l : List Zk) (p : Da) : Prop := p.1 < l.length ∧ p.2 < 4 ∧ 0 ≤ nx l p.1 p.2
instance {l : List Zk} {p : Da} : Decidable (isD l p) := by unfold isD; infer_instance
/-- The dart behind one. -/
def bh (l : List Zk) (p : Da) : Da :=
  if 0 ≤ nx l (nx l p.1 p.2).toNat ((p.2 + 1) % 4) then ((nx l p.1 p.2).toNat, (p.2 + 1) % 4)
  else if 0 ≤ nx l (nx l p.1 p.2).toNat p.2 then ((nx l p.1 p.2).toNat, p.2)
  else if 0 ≤ nx l (nx l p.1 p.2).toNat ((p.2 + 3) % 4) then ((nx l p.1 p.2).toNat, (p.2 + 3) % 4)
  else ((nx l p.1 p.2).toNat, (p.2 + 2) % 4)
theorem isD.fwd {l : List Zk} (hc : Ck l) {p : Da} (h : isD l p) : (nx l p.1 p.2).toNat < l.length ∧ nx l (nx l p.1 p.2).toNat ((p.2 + 2) % 4) = p.1 := by
  rcases hc.s p.1 p.2 h.1 h.2.1 with ⟨a, _⟩ | ⟨w, a, b, _, c, _⟩
  · have := h.2.2; omega
  · rw [a, Int.toNat_natCast]; exact ⟨b, c⟩
theorem isD.bh {l : List Zk} (hc : Ck l) {p : Da} (h : isD l p) : isD l (bh l p) := by
  have f := h.fwd hc
  have := h.2.1
  unfold Mu.bh
  split
  · rename_i c; exact ⟨f.1, by dsimp only; omega, c⟩
  · split
    · rename_i c; exact ⟨f.1, by dsimp only; omega, c⟩
    · split
      · rename_i c; exact ⟨f.1, by dsimp only; omega, c⟩
      · exact ⟨f.1, by dsimp only; omega, by dsimp only; rw [f.2]; omega⟩
theorem mDIs {l : List Zk} {v d : Int} : Zac ⟨v, d⟩ l = some (decide (0 ≤ v ∧ v < l.length ∧ 0 ≤ d ∧ d < 4 ∧ 0 ≤ nx l v.toNat d.toNat)) := by
  unfold Zac Zad
  dsimp only
  by_cases c1 : 0 ≤ v
  · rw [Z1 c1]
    by_cases c2 : v < l.length
    · rw [Z1 c2, Option.bind_some]
      by_cases c3 : 0 ≤ d ∧ d ≤ 3
      · rw [if_pos (by simp [c3]), Z0 (by omega), Z0 (by omega)]
        have : (gi l v.toNat).Next.get d = nx l v.toNat d.toNat := by unfold nx; rw [show ((d.toNat : Nat) : Int) = d by omega]
        rw [this]
        congr 1
        rw [Bool.eq_iff_iff]
        simp only [decide_eq_true_eq]
        omega
      · rw [if_neg (by simp; omega), dec_f]
        omega
    · rw [Z2 c2, dec_f]
      omega
  · rw [Z2 c1, dec_f]
    omega
theorem mIs' {l : List Zk} {p : Da} : Zac (dt p) l = some (decide (isD l p)) := by
  unfold dt
  rw [mDIs]
  congr 1
  rw [Bool.eq_iff_iff]
  simp only [decide_eq_true_eq, Int.toNat_natCast]
  unfold isD
  omega
theorem mLeftF {d : Nat} (hd : d < 4) {t : Int} (ht : t = 1 ∨ t = 0 ∨ t = -1 ∨ t = 2) : Zal d t = some (if t = 1 then (((d + 1) % 4 : Nat) : Int) else if t = 0 then (d : Int) else if t = -1 then (((d + 3) % 4 : Nat) : Int) else (((d + 2) % 4 : Nat) : Int)) := by
  have : d = 0 ∨ d = 1 ∨ d = 2 ∨ d = 3 := by omega
  rcases this with rfl | rfl | rfl | rfl <;> rcases ht with rfl | rfl | rfl | rfl <;> rfl
theorem loop4 {ρ : Type} {F : Int → Option (Int ⊕ ρ)} {c0 c1 c2 : Prop} [Decidable c0] [Decidable c1] [Decidable c2] {r0 r1 r2 r3 : ρ} (s0 : F ((0 : Nat) : Int) = some (if c0 then .inr r0 else .inl (((0 : Nat) : Int) + 1))) (s1 : F ((1 : Nat) : Int) = some (if c1 then .inr r1 else .inl (((1 : Nat) : Int) + 1))) (s2 : F ((2 : Nat) : Int) = some (if c2 then .inr r2 else .inl (((2 : Nat) : Int) + 1))) (s3 : F ((3 : Nat) : Int) = some (.inr r3)) : loopF F big 0 = some (if c0 then r0 else if c1 then r1 else if c2 then r2 else r3) := by
  refine loopF_le (n := 4) ?_ (by unfold big; omega)
  replace s0 : F 0 = some (if c0 then .inr r0 else .inl 1) := s0
  replace s1 : F 1 = some (if c1 then .inr r1 else .inl 2) := s1
  replace s2 : F 2 = some (if c2 then .inr r2 else .inl 3) := s2
  replace s3 : F 3 = some (.inr r3) := s3
  rw [loopF, s0]
  by_cases h0 : c0
  · rw [if_pos h0, if_pos h0]
  · rw [if_neg h0, if_neg h0]
    dsimp only
    rw [loopF, s1]
    by_cases h1 : c1
    · rw [if_pos h1, if_pos h1]
    · rw [if_neg h1, if_neg h1]
      dsimp only
      rw [loopF, s2]
      by_cases h2 : c2
      · rw [if_pos h2, if_pos h2]
      · rw [if_neg h2, if_neg h2]
        dsimp only
        rw [loopF, s3]
theorem mBehind {l : List Zk} (hc : Ck l) {p : Da} (h : isD l p) : z9 (dt p) l = some (dt (bh l p)) := by
  have f := h.fwd hc
  obtain ⟨h1, h2, h3⟩ := h
  have e : ((gi l p.1).Next).get (p.2 : Int) = nx l p.1 p.2 := rfl
  have st : ∀ (k : Nat) (d' : Nat), k < 4 → d' < 4 → Zal (p.2 : Int) ((⟨1, 0, (-1), 2⟩ : A4 Int).get k) = some (d' : Int) → z9.s0 (dt p) l (k : Int) = some (if 0 ≤ nx l (nx l p.1 p.2).toNat d' then .inr (.inr (dt ((nx l p.1 p.2).toNat, d'))) else .inl ((k : Int) + 1)) := by
    intro k d' hk hd hl
    have i := mDIs (l := l) (v := nx l p.1 p.2) (d := d')
    simp only [z9.s0, dt, Int.toNat_natCast, e]
    rw [Z1 (by omega), Z0 (by omega), hl, Option.bind_some, i, Option.bind_some]
    by_cases c : 0 ≤ nx l (nx l p.1 p.2).toNat d'
    · rw [Z1 (by rw [Int.toNat_natCast]; omega), if_pos c]
      congr 4
      omega
    · rw [Z2 (by rw [Int.toNat_natCast]; omega), zE (by omega), if_neg c]
  have s0 := st 0 ((p.2 + 1) % 4) (by omega) (by omega) ((mLeftF h2 (.inl rfl)).trans rfl)
  have s1 := st 1 p.2 (by omega) h2 ((mLeftF h2 (.inr (.inl rfl))).trans rfl)
  have s2 := st 2 ((p.2 + 3) % 4) (by omega) (by omega) ((mLeftF h2 (.inr (.inr (.inl rfl)))).trans rfl)
  have s3 := st 3 ((p.2 + 2) % 4) (by omega) (by omega) ((mLeftF h2 (.inr (.inr (.inr rfl)))).trans rfl)
  rw [if_pos (by rw [f.2]; omega)] at s3
  have L : loopF (z9.s0 (dt p) l) big 0 = some (.inr (dt (bh l p))) := by
    rw [loop4 s0 s1 s2 s3]
    unfold bh
    by_cases c0 : 0 ≤ nx l (nx l p.1 p.2).toNat ((p.2 + 1) % 4)
    · rw [if_pos c0, if_pos c0]
    · rw [if_neg c0, if_neg c0]
      by_cases c1 : 0 ≤ nx l (nx l p.1 p.2).toNat p.2
      · rw [if_pos c1, if_pos c1]
      · rw [if_neg c1, if_neg c1]
        by_cases c2 : 0 ≤ nx l (nx l p.1 p.2).toNat ((p.2 + 3) % 4)
        · rw [if_pos c2, if_pos c2]
        · rw [if_neg c2, if_neg c2]
  unfold z9
  rw [Z0 (by unfold dt; dsimp only; omega), Z0 (by unfold dt; dsimp only; omega), L, Option.bind_some]
theorem rBehind {l : List Zk} (hc : Ck l) {p : Da} (h : isD l p) : zr l (rt p) = some (rt (bh l p)) := by
  have f := h.fwd hc
  obtain ⟨h1, h2, h3⟩ := h
  have e : ((gi l p.1).Next).get (p.2 : Int) = nx l p.1 p.2 := rfl
  have st : ∀ (k : Nat) (o : Nat), k < 4 → gi ([1, 0, 3, 2] : List Int) k = o → o < 4 → zr.s0 l (rt p) (k : Int) = some (if 0 ≤ nx l (nx l p.1 p.2).toNat ((p.2 + o) % 4) then .inr (.inr (rt ((nx l p.1 p.2).toNat, (p.2 + o) % 4))) else .inl ((k : Int) + 1)) := by
    intro k o hk ho ho4
    have m : ((p.2 : Int) + (o : Int)).tmod 4 = (((p.2 + o) % 4 : Nat) : Int) := by
      rw [Int.tmod_eq_emod_of_nonneg (by omega)]; omega
    have e2 : (gi l (nx l p.1 p.2).toNat).Next.get (((p.2 + o) % 4 : Nat) : Int) = nx l (nx l p.1 p.2).toNat ((p.2 + o) % 4) := rfl
    simp only [zr.s0, rt, Int.toNat_natCast, e, ho, m, e2]
    rw [Z1 (by omega), Z0 (by simp; omega), zE (by omega), Z0 (by omega), Z0 (by omega)]
    by_cases c : 0 ≤ nx l (nx l p.1 p.2).toNat ((p.2 + o) % 4)
    · rw [Z1 c, if_pos c]
      congr 4
      omega
    · rw [Z2 c, zE (by omega), if_neg c]
  have s0 := st 0 1 (by omega) rfl (by omega)
  have s1 := st 1 0 (by omega) rfl (by omega)
  have s2 := st 2 3 (by omega) rfl (by omega)
  have s3 := st 3 2 (by omega) rfl (by omega)
  rw [show (p.2 + 0) % 4 = p.2 by omega] at s1
  rw [if_pos (by rw [f.2]; omega)] at s3
  have L : loopF (zr.s0 l (rt p)) big 0 = some (.inr (rt (bh l p))) := by
    rw [loop4 s0 s1 s2 s3]
    unfold bh
    by_cases c0 : 0 ≤ nx l (nx l p.1 p.2).toNat ((p.2 + 1) % 4)
    · rw [if_pos c0, if_pos c0]
    · rw [if_neg c0, if_neg c0]
      by_cases c1 : 0 ≤ nx l (nx l p.1 p.2).toNat p.2
      · rw [if_pos c1, if_pos c1]
      · rw [if_neg c1, if_neg c1]
        by_cases c2 : 0 ≤ nx l (nx l p.1 p.2).toNat ((p.2 + 3) % 4)
        · rw [if_pos c2, if_pos c2]
        · rw [if_neg c2, if_neg c2]
  unfold zr
  rw [Z0 (by unfold rt; dsimp only; omega), Z0 (by unfold rt; dsimp only; omega), L, Option.bind_some]
/-- The walk from a dart, till one comes to one that was met. -/
def walk (l : List Zk) : Nat → List Da → Da → List Da
  | 0, _, _ => []
  | n + 1, met, x => if x ∈ met then [] else x :: walk l n (met ++ [x]) (bh l x)
/-- Darts that were met. -/
structure Mets (l : List Zk) (met : List Da) : Prop where
  nd : met.Nodup
  is : ∀ p ∈ met, isD l p
theorem Mets.len {l : List Zk} {met : List Da} (h : Mets l met) : met.length ≤ 4 * l.length := by
  have n : (met.map fun p => 4 * p.1 + p.2).Nodup := by
    refine List.pairwise_map.2 (h.nd.imp_of_mem fun {p q} hp hq hne he => hne ?_)
    have a := h.is p hp
    have b := h.is q hq
    unfold isD at a b
    exact Prod.ext (by omega) (by omega)
  have := n.length_le_of_subset (l₂ := List.range (4 * l.length)) (fun x hx => by
    obtain ⟨p, hp, rfl⟩ := List.mem_map.1 hx
    have := h.is p hp
    unfold isD at this
    exact List.mem_range.2 (by omega))
  simpa using this
theorem Mets.nil {l : List Zk} : Mets l [] := ⟨List.nodup_nil, by simp⟩
theorem Mets.snoc {l : List Zk} {met : List Da} (h : Mets l met) {x : Da} (hx : isD l x) (hn : x ∉ met) : Mets l (met ++ [x]) := by
  refine ⟨?_, fun p hp => ?_⟩
  · rw [List.nodup_append]
    exact ⟨h.nd, by simp, fun a ha b hb e => hn (by simp at hb; rw [← hb, ← e]; exact ha)⟩
  · rcases List.mem_append.1 hp with q | q
    · exact h.is p q
    · simp at q; rw [q]; exact hx
theorem Mets.walk {l : List Zk} (hc : Ck l) : ∀ {n : Nat} {met : List Da} {x : Da}, Mets l met → isD l x → Mets l (met ++ walk l n met x)
  | 0, met, x, h, hx => by rw [Mu.walk, List.append_nil]; exact h
  | n + 1, met, x, h, hx => by
    rw [Mu.walk]
    split
    · rw [List.append_nil]; exact h
    · rename_i c
      have := Mets.walk hc (n := n) (h.snoc hx c) (hx.bh hc)
      rwa [List.append_assoc] at this
theorem walk_is {l : List Zk} (hc : Ck l) : ∀ {n : Nat} {met : List Da} {x : Da}, isD l x → ∀ p ∈ walk l n met x, isD l p
  | 0, _, _, _, p, hp => by simp [walk] at hp
  | n + 1, met, x, hx, p, hp => by
    rw [walk] at hp
    split at hp
    · simp at hp
    · rcases List.mem_cons.1 hp with rfl | hp
      · exact hx
      · exact walk_is hc (hx.bh hc) p hp
def mpD (met : List Da) : List (Zp × Bool) := met.map fun p => (dt p, true)
theorem dt_inj {p q : Da} (h : dt p = dt q) : p = q := by
  unfold dt at h
  injection h with a b
  exact Prod.ext (by omega) (by omega)
theorem mpD_get {x : Da} : ∀ {met : List Da}, mpGet false (dt x) (mpD met) = decide (x ∈ met)
  | [] => rfl
  | p :: met => by
    show (if dt x = dt p then true else mpGet false (dt x) (mpD met)) = _
    by_cases c : x = p
    · rw [if_pos (by rw [c]), dec_t (by simp [c])]
    · rw [if_neg fun h => c (dt_inj h), mpD_get]
      rw [Bool.eq_iff_iff]
      simp [c]
theorem mpD_set {x : Da} {met : List Da} (h : x ∉ met) : mpSet (dt x) true (mpD met) = mpD (met ++ [x]) := by
  have : ∀ {m : List Da}, x ∉ m → mpSet (dt x) true (mpD m) = mpD m ++ [(dt x, true)] := by
    intro m
    induction m with
    | nil => intro _; rfl
    | cons p m ih =>
      intro h
      show (if dt x = dt p then _ else (dt p, true) :: mpSet (dt x) true (mpD m)) = _
      rw [if_neg fun e => h (by rw [dt_inj e]; simp), ih fun e => h (by simp [e])]
      rfl
  rw [this h]
  unfold mpD
  rw [List.map_append]
  rfl
theorem mWalk {l : List Zk} (hc : Ck l) (hl : l.length ≤ 5000) : ∀ (n : Nat) (met : List Da) (f : List Zp) (x : Da), Mets l met → isD l x → 4 * l.length < met.length + n → f.length ≤ met.length → loopF (z5.s2 l) n (mpD met, f, dt x) = some (mpD (met ++ walk l n met x), f ++ (walk l n met x).map dt)
  | 0, met, f, x, h, _, hn, _ => by have := h.len; omega
  | n + 1, met, f, x, h, hx, hn, hf => by
    have ml := h.len
    rw [loopF, walk]
    simp only [z5.s2]
    rw [mpD_get]
    by_cases c : x ∈ met
    · rw [ZG c, if_pos c, List.append_nil, List.map_nil, List.append_nil]
    · rw [ZR c, Z0 (by simp; omega), mBehind hc hx, Option.bind_some, if_neg c, mpD_set c]
      dsimp only
      rw [mWalk hc hl n (met ++ [x]) (f ++ [dt x]) (bh l x) (h.snoc hx c) (hx.bh hc) (by simp; omega) (by simp; omega)]
      rw [List.append_assoc, List.append_assoc]
      rfl
/-- The marks of what was met. -/
def Marks (l : List Zk) (met : List Da) (a : List Bool) : Prop := a.length = 4 * l.length ∧ ∀ c e, c < l.length → e < 4 → gi a (4 * c + e) = decide ((c, e) ∈ met)
theorem Marks.set {l : List Zk} {met : List Da} {a : List Bool} (h : Marks l met a) {x : Da} (hx : isD l x) : Marks l (met ++ [x]) (a.set (4 * x.1 + x.2) true) := by
  unfold isD at hx
  refine ⟨by rw [List.length_set]; exact h.1, fun c e hc he => ?_⟩
  rw [gi_set (by have := h.1; omega), h.2 c e hc he]
  by_cases q : (c, e) = x
  · rw [← q]
    rw [if_pos rfl, dec_t (by simp)]
  · rw [if_neg]
    · rw [Bool.eq_iff_iff]; simp [q]
    · intro k
      exact q (Prod.ext (by dsimp only; omega) (by dsimp only; omega))
theorem rWalk {l : List Zk} (hc : Ck l) (hl : l.length ≤ 5000) : ∀ (n : Nat) (met : List Da) (a : List Bool) (f : List Zr) (x : Da), Mets l met → Marks l met a → isD l x → 4 * l.length < met.length + n → f.length ≤ met.length → ∃ a', loopF (ZL.s2 l) n (a, f, rt x) = some (a', f ++ (walk l n met x).map rt) ∧ Marks l (met ++ walk l n met x) a'
  | 0, met, a, f, x, h, _, _, hn, _ => by have := h.len; omega
  | n + 1, met, a, f, x, h, hm, hx, hn, hf => by
    have ml := h.len
    have hx' := hx
    unfold isD at hx'
    have al := hm.1
    rw [loopF, walk, show rt x = (⟨x.1, x.2⟩ : Zr) from rfl]
    simp only [ZL.s2]
    rw [zE (by omega), zE (by omega), Z0 (by omega), show (4 * (x.1 : Int) + (x.2 : Int)).toNat = 4 * x.1 + x.2 by omega, hm.2 x.1 x.2 hx'.1 hx'.2.1]
    by_cases c : x ∈ met
    · rw [ZG c, if_pos c, List.map_nil, List.append_nil, List.append_nil]
      exact ⟨a, rfl, hm⟩
    · rw [ZR c, Z0 (by simp; omega)]
      have rb := rBehind hc hx
      unfold rt at rb
      rw [rb, Option.bind_some, if_neg c]
      dsimp only
      obtain ⟨a', e1, e2⟩ := rWalk hc hl n (met ++ [x]) (a.set (4 * x.1 + x.2) true) (f ++ [rt x]) (bh l x) (h.snoc hx c) (hm.set hx) (hx.bh hc) (by simp; omega) (by simp; omega)
      refine ⟨a', ?_, ?_⟩
      · unfold rt at e1 ⊢
        rw [e1, List.append_assoc]
        rfl
      · rw [List.append_assoc] at e2
        exact e2
/-- A dart's turn: the walk from it, if it wasn't met. -/
def stF (l : List Zk) (s : List Da × List (List Da)) (p : Da) : List Da × List (List Da) :=
  if nx l p.1 p.2 < 0 ∨ p ∈ s.1 then s else (s.1 ++ walk l (4 * l.length + 1) s.1 p, s.2 ++ [walk l (4 * l.length + 1) s.1 p])
def rowF (l : List Zk) (v : Nat) (s : List Da × List (List Da)) : Nat → List Da × List (List Da)
  | 0 => s
  | e + 1 => stF l (rowF l v s e) (v, e)
def FS (l : List Zk) : Nat → List Da × List (List Da)
  | 0 => ([], [])
  | v + 1 => rowF l v (FS l v) 4
/-- The faces. -/
def faces (l : List Zk) : List (List Da) := (FS l l.length).2
structure FI (l : List Zk) (s : List Da × List (List Da)) : Prop where
  m : Mets l s.1
  len : s.2.length ≤ s.1.length
  is : ∀ f ∈ s.2, ∀ p ∈ f, isD l p
  fl : s.2.flatten = s.1
theorem FI.st {l : List Zk} (hc : Ck l) {s : List Da × List (List Da)} (h : FI l s) {p : Da} (h1 : p.1 < l.length) (h2 : p.2 < 4) : FI l (stF l s p) := by
  unfold stF
  split
  · exact h
  · rename_i c
    have hp : isD l p := ⟨h1, h2, by omega⟩
    have hn : p ∉ s.1 := fun q => c (.inr q)
    refine ⟨Mets.walk hc h.m hp, ?_, ?_, ?_⟩
    · dsimp only
      rw [List.length_append, List.length_append, walk, if_neg hn]
      have := h.len
      simp; omega
    · intro f hf q hq
      rcases List.mem_append.1 hf with k | k
      · exact h.is f k q hq
      · simp at k
        subst k
        exact walk_is hc hp q hq
    · dsimp only
      rw [List.flatten_append, h.fl]
      simp
theorem FI.row {l : List Zk} (hc : Ck l) {s : List Da × List (List Da)} (h : FI l s) {v : Nat} (hv : v < l.length) : ∀ e, e ≤ 4 → FI l (rowF l v s e)
  | 0, _ => h
  | e + 1, he => (FI.row hc h hv e (by omega)).st hc hv (by dsimp only; omega)
theorem FS_ok {l : List Zk} (hc : Ck l) : ∀ v, v ≤ l.length → FI l (FS l v)
  | 0, _ => ⟨Mets.nil, by simp [FS], by simp [FS], by simp [FS]⟩
  | v + 1, hv => (FS_ok hc v (by omega)).row hc (by omega) 4 (by omega)
theorem mFaceSt {l : List Zk} (hc : Ck l) (hl : l.length ≤ 5000) {s : List Da × List (List Da)} (h : FI l s) {v e : Nat} (hv : v < l.length) (he : e < 4) : z5.s1 l v (s.2.map (List.map dt), mpD s.1, (e : Int)) = some (.inl ((stF l s (v, e)).2.map (List.map dt), mpD (stF l s (v, e)).1, (e : Int) + 1)) := by
  have i := mIs' (l := l) (p := (v, e))
  have g := mpD_get (x := (v, e)) (met := s.1)
  unfold dt at i g
  dsimp only at i g
  have ml := h.m.len
  have sl := h.len
  simp only [z5.s1]
  rw [Z1 (by omega), i, Option.bind_some, g]
  unfold stF
  dsimp only
  by_cases c : nx l v e < 0 ∨ (v, e) ∈ s.1
  · rw [if_pos c, if_pos, zE (by omega)]
    rcases c with c | c
    · rw [dec_f (show ¬ isD l (v, e) from fun q => by have := q.2.2; dsimp only at this; omega)]; rfl
    · rw [dec_t c, Bool.or_true]
  · have hp : isD l (v, e) := ⟨hv, he, by dsimp only; omega⟩
    have hn : (v, e) ∉ s.1 := fun q => c (.inr q)
    have W := mWalk hc hl (4 * l.length + 1) s.1 [] (v, e) h.m hp (by omega) (by simp)
    unfold dt at W
    dsimp only at W
    rw [if_neg c, if_neg (by rw [dec_t hp, dec_f hn]; decide), loopF_le W (by unfold big; omega), Option.bind_some]
    dsimp only
    rw [Z0 (by rw [List.length_map]; omega), zE (by omega), List.map_append]
    rfl
theorem rFaceSt {l : List Zk} (hc : Ck l) (hl : l.length ≤ 5000) {s : List Da × List (List Da)} (h : FI l s) {a : List Bool} (ha : Marks l s.1 a) {v e : Nat} (hv : v < l.length) (he : e < 4) : ∃ a', ZL.s1 l v (a, s.2.map (List.map rt), (e : Int)) = some (.inl (a', (stF l s (v, e)).2.map (List.map rt), (e : Int) + 1)) ∧ Marks l (stF l s (v, e)).1 a' := by
  have ml := h.m.len
  have sl := h.len
  have al := ha.1
  have en : (gi l v).Next.get (e : Int) = nx l v e := rfl
  simp only [ZL.s1, Int.toNat_natCast, en]
  rw [Z1 (by omega), Z0 (by omega), Z0 (by omega)]
  unfold stF
  dsimp only
  by_cases c0 : nx l v e < 0
  · rw [Z1 c0, Option.bind_some, if_pos rfl, zE (by omega), if_pos (.inl c0)]
    exact ⟨a, rfl, ha⟩
  · rw [Z2 c0, zE (by omega), zE (by omega), Z0 (by omega), Option.bind_some, show (4 * (v : Int) + (e : Int)).toNat = 4 * v + e by omega, ha.2 v e hv he]
    by_cases c1 : (v, e) ∈ s.1
    · rw [Z1 c1, zE (by omega), if_pos (.inr c1)]
      exact ⟨a, rfl, ha⟩
    · have hp : isD l (v, e) := ⟨hv, he, by dsimp only; omega⟩
      obtain ⟨a', W, M⟩ := rWalk hc hl (4 * l.length + 1) s.1 a [] (v, e) h.m ha hp (by omega) (by simp)
      unfold rt at W
      dsimp only at W
      rw [Z2 c1, loopF_le W (by unfold big; omega), Option.bind_some, if_neg (by simp [c0, c1])]
      dsimp only
      rw [Z0 (by rw [List.length_map]; omega), zE (by omega), List.map_append]
      exact ⟨a', rfl, M⟩
theorem mFaces {l : List Zk} (hl : l.length ≤ 4096) (h : chkP l = 0) : z5 l = some ((faces l).map (List.map dt), 0) := by
  have hc := (Ck_iff.1 h).2
  have row : ∀ v, v < l.length → loopF (z5.s1 l v) big ((FS l v).2.map (List.map dt), mpD (FS l v).1, 0) = some ((FS l (v + 1)).2.map (List.map dt), mpD (FS l (v + 1)).1) := by
    intro v hv
    refine loop_to (fun e : Nat => ((rowF l v (FS l v) e).2.map (List.map dt), mpD (rowF l v (FS l v) e).1, (e : Int))) (n := 4) (big_lt (by omega)) rfl (fun e he => ?_) ?_
    · rw [mFaceSt hc (by omega) ((FS_ok hc v (by omega)).row hc hv e (by omega)) hv he]
      rfl
    · simp only [z5.s1]
      rw [Z2 (by omega)]
      rfl
  unfold z5
  rw [mCheck (by omega), Option.bind_some, ZG h, bd_eq (x := (faces l).map (List.map dt))]
  refine loop_to (fun v : Nat => ((FS l v).2.map (List.map dt), mpD (FS l v).1, (v : Int))) (n := l.length) (big_lt (by omega)) rfl (fun v hv => ?_) ?_
  · simp only [z5.s0]
    rw [Z1 (by omega), row v hv, Option.bind_some]
    dsimp only
    rw [zE (by omega), show ((v + 1 : Nat) : Int) = (v : Int) + 1 by omega]
  · simp only [z5.s0]
    rw [Z2 (by omega)]
    rfl
theorem rFaces {l : List Zk} (hl : l.length ≤ 4096) (h : chkP l = 0) : ZL l = some ((faces l).map (List.map rt)) := by
  have hc := (Ck_iff.1 h).2
  have row : ∀ v, v < l.length → ∀ a, Marks l (FS l v).1 a → ∃ a', loopF (ZL.s1 l v) big (a, (FS l v).2.map (List.map rt), 0) = some (a', (FS l (v + 1)).2.map (List.map rt)) ∧ Marks l (FS l (v + 1)).1 a' := by
    intro v hv a ha
    have : ∃ r, loopF (ZL.s1 l v) big (a, (FS l v).2.map (List.map rt), 0) = some r ∧ (r.2 = (FS l (v + 1)).2.map (List.map rt) ∧ Marks l (FS l (v + 1)).1 r.1) := by
      refine loop_inv (fun (e : Nat) (s : List Bool × List (List Zr) × Int) => (s.2.1 = (rowF l v (FS l v) e).2.map (List.map rt) ∧ Marks l (rowF l v (FS l v) e).1 s.1) ∧ s.2.2 = e) (n := 4) (big_lt (by omega)) ⟨⟨rfl, ha⟩, rfl⟩ ?_ ?_
      · rintro e ⟨a, o, j⟩ he ⟨⟨h1, h2⟩, h3⟩
        dsimp only at h1 h2 h3 ⊢
        subst h3 h1
        obtain ⟨a', e1, e2⟩ := rFaceSt hc (by omega) ((FS_ok hc v (by omega)).row hc hv e (by omega)) h2 hv he
        exact ⟨_, e1, ⟨rfl, e2⟩, by dsimp only; omega⟩
      · rintro ⟨a, o, j⟩ ⟨⟨h1, h2⟩, h3⟩
        dsimp only at h1 h2 h3 ⊢
        subst h3 h1
        simp only [ZL.s1]
        rw [Z2 (by omega)]
        exact ⟨_, rfl, rfl, h2⟩
    obtain ⟨⟨a', o⟩, e1, e2, e3⟩ := this
    dsimp only at e2 e3
    subst e2
    exact ⟨a', e1, e3⟩
  have M : ∃ r, loopF (ZL.s0 l) big (List.replicate (4 * (l.length : Int)).toNat false, ([] : List (List Zr)), 0) = some r ∧ r = (faces l).map (List.map rt) := by
    refine loop_inv (fun (v : Nat) (s : List Bool × List (List Zr) × Int) => (s.2.1 = (FS l v).2.map (List.map rt) ∧ Marks l (FS l v).1 s.1) ∧ s.2.2 = v) (n := l.length) (big_lt (by omega)) ⟨⟨rfl, by simp; omega, fun c e hc' he => ?_⟩, rfl⟩ ?_ ?_
    · rw [gi_eq (by simp; omega)]
      simp [FS]
    · rintro v ⟨a, o, j⟩ hv ⟨⟨h1, h2⟩, h3⟩
      dsimp only at h1 h2 h3 ⊢
      subst h3 h1
      obtain ⟨a', e1, e2⟩ := row v hv a h2
      simp only [ZL.s0]
      rw [Z1 (by omega), e1, Option.bind_some]
      dsimp only
      rw [zE (by omega)]
      exact ⟨_, rfl, ⟨rfl, e2⟩, by dsimp only; omega⟩
    · rintro ⟨a, o, j⟩ ⟨⟨h1, h2⟩, h3⟩
      dsimp only at h1 h2 h3 ⊢
      subst h3 h1
      simp only [ZL.s0]
      rw [Z2 (by omega)]
      exact ⟨_, rfl, rfl⟩
  obtain ⟨r, e1, e2⟩ := M
  unfold ZL
  rw [zE (by omega), Z0 (by omega), e1, Option.bind_some, e2]
end Mu
/- Layers 12 and 14: turns of faces, rotations, the outer face. -/
set_option linter.unusedVariables false
set_option linter.unusedSimpArgs false
set_option maxRecDepth 10000
namespace Mu
/-- How one turns from a direction to another one. -/
def tn (d e : Nat) : Int := if e = d then 0 else if e = (d + 1) % 4 then 1 else if e = (d + 3) % 4 then -1 else -2
theorem mTurn {d e : Nat} (hd : d < 4) (he : e < 4) : Za0 d e = some (tn d e) := by
  have a : d = 0 ∨ d = 1 ∨ d = 2 ∨ d = 3 := by omega
  have b : e = 0 ∨ e = 1 ∨ e = 2 ∨ e = 3 := by omega
  rcases a with rfl | rfl | rfl | rfl <;> rcases b with rfl | rfl | rfl | rfl <;> rfl
theorem rTurn {d e : Nat} (hd : d < 4) (he : e < 4) : Zao d e = some (tn d e) := by
  have a : d = 0 ∨ d = 1 ∨ d = 2 ∨ d = 3 := by omega
  have b : e = 0 ∨ e = 1 ∨ e = 2 ∨ e = 3 := by omega
  rcases a with rfl | rfl | rfl | rfl <;> rcases b with rfl | rfl | rfl | rfl <;> rfl
theorem tn_rng {d e : Nat} : -2 ≤ tn d e ∧ tn d e ≤ 1 := by unfold tn; split <;> (try split) <;> (try split) <;> omega
/-- A face's turns. -/
def tns (l : List Zk) (f : List Da) : List Int := f.map fun p => tn p.2 (bh l p).2
theorem gi_map {α β : Type} [Inhabited α] [Inhabited β] {f : α → β} {l : List α} {i : Nat} (h : i < l.length) : gi (l.map f) i = f (gi l i) := by
  rw [gi_eq (by simpa using h), gi_eq h, List.getElem_map]
theorem tns_len {l : List Zk} {f : List Da} : (tns l f).length = f.length := by simp [tns]
theorem tns_rng {l : List Zk} {f : List Da} : ∀ i, -2 ≤ gi (tns l f) i ∧ gi (tns l f) i ≤ 1 := by
  intro i
  by_cases h : i < f.length
  · unfold tns
    rw [gi_map h]
    exact tn_rng
  · rw [gi_default (by rw [tns_len]; omega)]
    decide
theorem mTurns {l : List Zk} (hl : l.length ≤ 4096) (h : chkP l = 0) {f : List Da} (hf : ∀ p ∈ f, isD l p) (hn : f.length ≤ 1000000) : Zab l (f.map dt) = some (tns l f) := by
  have hc := (Ck_iff.1 h).2
  have fl : (f.map dt).length = f.length := by simp
  unfold Zab
  rw [Z0 (by rw [fl]; omega), mCheck (by omega), Option.bind_some, ZG h]
  have : ∃ r, loopF (Zab.s0 l (f.map dt)) big (List.replicate (((f.map dt).length : Int)).toNat (0 : Int), 0) = some r ∧ r = tns l f := by
    refine loop_inv (fun (k : Nat) (s : List Int × Int) => (s.1.length = f.length ∧ ∀ i, i < k → gi s.1 i = gi (tns l f) i) ∧ s.2 = k) (n := f.length) (big_lt (by omega)) ⟨⟨by simp, fun i hi => by omega⟩, rfl⟩ ?_ ?_
    · rintro k ⟨r, j⟩ hk ⟨⟨h1, h2⟩, h3⟩
      dsimp only at h1 h2 h3 ⊢
      subst h3
      have hp := hf _ (gi_mem hk)
      have g : gi (f.map dt) k = dt (gi f k) := gi_map hk
      simp only [Zab.s0, Int.toNat_natCast, g]
      have tt : Za0 (dt (gi f k)).Dir (dt (bh l (gi f k))).Dir = some (tn (gi f k).2 (bh l (gi f k)).2) := mTurn hp.2.1 (hp.bh hc).2.1
      rw [Z1 (by rw [fl]; omega), Z0 (by rw [fl]; omega), mIs', Option.bind_some, dec_t hp, if_pos rfl, mBehind hc hp, Option.bind_some, tt, Option.bind_some, Z0 (by omega), zE (by omega)]
      refine ⟨_, rfl, ⟨by dsimp only; rw [List.length_set]; exact h1, fun i hi => ?_⟩, by dsimp only; omega⟩
      dsimp only
      rw [gi_set (by omega)]
      by_cases c : i = k
      · subst c
        rw [if_pos rfl]
        unfold tns
        rw [gi_map hk]
      · rw [if_neg c]
        exact h2 i (by omega)
    · rintro ⟨r, j⟩ ⟨⟨h1, h2⟩, h3⟩
      dsimp only at h1 h2 h3 ⊢
      subst h3
      simp only [Zab.s0]
      rw [Z2 (by rw [fl]; omega)]
      exact ⟨_, rfl, list_ext (by rw [h1, tns_len]) fun i hi => h2 i (by omega)⟩
  obtain ⟨r, e1, e2⟩ := this
  rw [e1, Option.bind_some, e2]
theorem rTurns {l : List Zk} (hl : l.length ≤ 4096) (h : chkP l = 0) {f : List Da} (hf : ∀ p ∈ f, isD l p) (hn : f.length ≤ 1000000) : zA l (f.map rt) = some (tns l f) := by
  have hc := (Ck_iff.1 h).2
  have fl : (f.map rt).length = f.length := by simp
  unfold zA
  rw [bd_eq (x := tns l f)]
  refine loop_to (fun n : Nat => ((tns l f).take n, (n : Int))) (n := f.length) (big_lt (by omega)) rfl (fun k hk => ?_) ?_
  · have hp := hf _ (gi_mem hk)
    have g : gi (f.map rt) k = rt (gi f k) := gi_map hk
    simp only [zA.s0, Int.toNat_natCast, g]
    have tt : Zao (rt (gi f k)).Dir (rt (bh l (gi f k))).Dir = some (tn (gi f k).2 (bh l (gi f k)).2) := rTurn hp.2.1 (hp.bh hc).2.1
    rw [Z1 (by rw [fl]; omega), Z0 (by rw [fl]; omega), rBehind hc hp, Option.bind_some, tt, Option.bind_some, Z0 (by simp; omega), zE (by omega), take_gi (by rw [tns_len]; exact hk), show ((k + 1 : Nat) : Int) = (k : Int) + 1 by omega]
    congr 3
    unfold tns
    rw [gi_map hk]
  · simp only [zA.s0]
    rw [Z2 (by rw [fl]; omega), List.take_of_length_le (by rw [tns_len]; omega)]
/-- A sum of turns. -/
theorem sum_take {t : List Int} {n : Nat} (h : n < t.length) : (t.take (n + 1)).sum = (t.take n).sum + gi t n := by
  rw [take_gi h, List.sum_append]
  simp
theorem sum_rng {t : List Int} (h : ∀ i, -2 ≤ gi t i ∧ gi t i ≤ 1) : ∀ n, n ≤ t.length → -2 * (n : Int) ≤ (t.take n).sum ∧ (t.take n).sum ≤ n
  | 0, _ => by simp
  | n + 1, hn => by
    have ih := sum_rng h n (by omega)
    have := h n
    rw [sum_take (by omega)]
    omega
theorem mRotation {t : List Int} (h : ∀ i, -2 ≤ gi t i ∧ gi t i ≤ 1) (hn : t.length ≤ 1000000) : zU t = some t.sum := by
  unfold zU
  rw [bd_eq (x := t.sum)]
  refine loop_to (fun n : Nat => ((t.take n).sum, (n : Int))) (n := t.length) (big_lt (by omega)) rfl (fun k hk => ?_) ?_
  · have a := sum_rng h k (by omega)
    have b := h k
    simp only [zU.s0, Int.toNat_natCast]
    rw [Z1 (by omega), Z0 (by omega), if_pos (by simp; omega), zE (by omega), zE (by omega), sum_take hk, show ((k + 1 : Nat) : Int) = (k : Int) + 1 by omega]
  · simp only [zU.s0]
    rw [Z2 (by omega), List.take_length]
theorem rRotation {t : List Int} (h : ∀ i, -2 ≤ gi t i ∧ gi t i ≤ 1) (hn : t.length ≤ 1000000) : z7 t = some t.sum := by
  unfold z7
  rw [bd_eq (x := t.sum)]
  refine loop_to (fun n : Nat => ((t.take n).sum, (n : Int))) (n := t.length) (big_lt (by omega)) rfl (fun k hk => ?_) ?_
  · have a := sum_rng h k (by omega)
    have b := h k
    simp only [z7.s0, Int.toNat_natCast]
    rw [Z1 (by omega), Z0 (by omega), if_pos (by simp; omega), zE (by omega), zE (by omega), sum_take hk, show ((k + 1 : Nat) : Int) = (k : Int) + 1 by omega]
  · simp only [z7.s0]
    rw [Z2 (by omega), List.take_length]
/-- A face's rotation. -/
def rotF (l : List Zk) (f : List Da) : Int := (tns l f).sum
theorem faces_ok {l : List Zk} (hc : Ck l) : (∀ f ∈ faces l, ∀ p ∈ f, isD l p) ∧ (faces l).length ≤ 4 * l.length ∧ (∀ f ∈ faces l, f.length ≤ 4 * l.length) ∧ (faces l).flatten.Nodup ∧ ∀ p ∈ (faces l).flatten, isD l p := by
  have h := FS_ok hc l.length (by omega)
  have hm := h.m.len
  have hf := h.fl
  refine ⟨h.is, by have := h.len; unfold faces; omega, fun f hf' => ?_, by unfold faces; rw [hf]; exact h.m.nd, fun p hp => by unfold faces at hp; rw [hf] at hp; exact h.m.is p hp⟩
  have : (f).Sublist (faces l).flatten := List.sublist_flatten_of_mem hf'
  have := this.length_le
  unfold faces at this
  rw [hf] at this
  omega
/-- Which face is the outer one: none if two are, or one is neither. -/
def outGo : List Int → Int → Int → Option Int
  | [], _, a => some a
  | r :: R, i, a => if r = 4 then outGo R (i + 1) a else if r = -4 then (if 0 ≤ a then none else outGo R (i + 1) i) else none
def outF (l : List Zk) : Option Int := outGo ((faces l).map (rotF l)) 0 (-1)
theorem outGo_loop {F : Int × Int → Option ((Int × Int) ⊕ (Int ⊕ Unit))} {R : List Int} (hR : R.length ≤ 1000000) (h : ∀ (i : Nat) (a : Int), i < R.length → F (a, (i : Int)) = some (if gi R i = 4 then .inl (a, (i : Int) + 1) else if gi R i = -4 then (if 0 ≤ a then .inr (.inr ()) else .inl ((i : Int), (i : Int) + 1)) else .inr (.inr ()))) (he : ∀ a, F (a, (R.length : Int)) = some (.inr (.inl a))) : loopF F big (-1, 0) = some (match outGo R 0 (-1) with | some a => .inl a | none => .inr ()) := by
  have key : ∀ (m n : Nat) (a : Int), n + m = R.length → loopF F (m + 1) (a, (n : Int)) = some (match outGo (R.drop n) n a with | some a => .inl a | none => .inr ()) := by
    intro m
    induction m with
    | zero =>
      intro n a hn
      have : n = R.length := by omega
      subst this
      rw [loopF, he, List.drop_length]
      rfl
    | succ m ih =>
      intro n a hn
      have hlt : n < R.length := by omega
      have d : R.drop n = gi R n :: R.drop (n + 1) := by rw [gi_eq hlt]; exact List.drop_eq_getElem_cons hlt
      rw [loopF, h n a hlt, d, outGo]
      by_cases c1 : gi R n = 4
      · rw [if_pos c1, if_pos c1]
        dsimp only
        have := ih (n + 1) a (by omega)
        rw [show ((n + 1 : Nat) : Int) = (n : Int) + 1 by omega] at this
        exact this
      · rw [if_neg c1, if_neg c1]
        by_cases c2 : gi R n = -4
        · rw [if_pos c2, if_pos c2]
          by_cases c3 : 0 ≤ a
          · rw [if_pos c3, if_pos c3]
          · rw [if_neg c3, if_neg c3]
            dsimp only
            have := ih (n + 1) n (by omega)
            rw [show ((n + 1 : Nat) : Int) = (n : Int) + 1 by omega] at this
            exact this
        · rw [if_neg c2, if_neg c2]
  have := key R.length 0 (-1) (by omega)
  rw [List.drop_zero] at this
  exact loopF_le this (by unfold big; omega)
theorem mOuter0 {l : List Zk} (hl : l.length ≤ 4096) (h : chkP l = 0) : Zae l = some (match outF l with | some a => (a, decide (0 ≤ a)) | none => (0, false)) := by
  have hc := (Ck_iff.1 h).2
  obtain ⟨o1, o2, o3, _⟩ := faces_ok hc
  have L : loopF (Zae.s0 l ((faces l).map (List.map dt))) big (-1, 0) = some (match outF l with | some a => .inl a | none => .inr ()) := by
    refine outGo_loop (R := (faces l).map (rotF l)) (by simp; omega) (fun i a hi => ?_) fun a => ?_
    · have hi' : i < (faces l).length := by simpa using hi
      have hm := gi_mem hi'
      have fl := o3 _ hm
      simp only [Zae.s0, Int.toNat_natCast]
      rw [Z1 (by simp; omega), Z0 (by simp; omega), gi_map hi', mTurns hl h (o1 _ hm) (by omega), Option.bind_some, mRotation tns_rng (by rw [tns_len]; omega), Option.bind_some, gi_map hi']
      show (if decide (rotF l (gi (faces l) i) = 4) = true then _ else _) = _
      by_cases c1 : rotF l (gi (faces l) i) = 4
      · rw [Z1 c1, if_pos c1, zE (by omega)]
      · rw [Z2 c1, if_neg c1]
        show (if decide (rotF l (gi (faces l) i) = -4) = true then _ else _) = _
        by_cases c2 : rotF l (gi (faces l) i) = -4
        · rw [Z1 c2, if_pos c2]
          by_cases c3 : 0 ≤ a
          · rw [Z1 c3, if_pos c3]
          · rw [Z2 c3, if_neg c3, zE (by omega)]
        · rw [Z2 c2, if_neg c2]
    · simp only [Zae.s0]
      rw [Z2 (by simp)]
  unfold Zae
  rw [mFaces hl h, Option.bind_some]
  dsimp only
  rw [L, Option.bind_some]
  cases outF l <;> rfl
theorem rOuterL {l : List Zk} (hl : l.length ≤ 4096) (h : chkP l = 0) : loopF (zG.s0 l ((faces l).map (List.map rt))) big (-1, 0) = some (match outF l with | some a => .inl a | none => .inr ()) := by
  have hc := (Ck_iff.1 h).2
  obtain ⟨o1, o2, o3, _⟩ := faces_ok hc
  refine outGo_loop (R := (faces l).map (rotF l)) (by simp; omega) (fun i a hi => ?_) fun a => ?_
  · have hi' : i < (faces l).length := by simpa using hi
    have hm := gi_mem hi'
    have fl := o3 _ hm
    simp only [zG.s0, Int.toNat_natCast]
    rw [Z1 (by simp; omega), Z0 (by simp; omega), gi_map hi', rTurns hl h (o1 _ hm) (by omega), Option.bind_some, rRotation tns_rng (by rw [tns_len]; omega), Option.bind_some, gi_map hi']
    show (if (((!(decide (rotF l (gi (faces l) i) = 4))) && (!(decide (rotF l (gi (faces l) i) = (-4))))) || ((decide (rotF l (gi (faces l) i) = (-4))) && (decide (0 ≤ a)))) = true then _ else (if decide (rotF l (gi (faces l) i) = (-4)) = true then _ else _)) = _
    by_cases c1 : rotF l (gi (faces l) i) = 4
    · have c2 : ¬ rotF l (gi (faces l) i) = -4 := by omega
      rw [dec_t c1, dec_f c2, if_pos c1, if_neg (by simp), if_neg (by decide), zE (by omega)]
    · rw [dec_f c1, if_neg c1]
      by_cases c2 : rotF l (gi (faces l) i) = -4
      · rw [dec_t c2, if_pos c2]
        by_cases c3 : 0 ≤ a
        · rw [dec_t c3, if_pos c3, if_pos (by decide)]
        · rw [dec_f c3, if_neg c3, if_neg (by decide), if_pos rfl, zE (by omega)]
      · rw [dec_f c2, if_neg c2, if_pos (by simp)]
  · simp only [zG.s0]
    rw [Z2 (by simp)]
/-- Do cells hang together? -/
def whole (l : List Zk) : Prop := ((PS l l.length).1.length : Int) = 1
noncomputable instance {l : List Zk} : Decidable (whole l) := by unfold whole; infer_instance
/-- What is told of cells. -/
noncomputable def vErr (l : List Zk) : Int :=
  if chkP l = 0 then (if whole l then (if l.length = 1 then 0 else match outF l with | some a => if 0 ≤ a then 0 else 10 | none => 10) else 13) else chkP l
/-- Which face is the outer one. -/
def vOut (l : List Zk) : Int := if l.length = 1 then -1 else match outF l with | some a => a | none => -1
theorem whole_pos {l : List Zk} (h : whole l) : 0 < l.length := by
  cases l with
  | nil => unfold whole at h; simp [PS] at h
  | cons a l => simp
theorem faces_one {l : List Zk} (hc : Ck l) (h : l.length = 1) : faces l = [] := by
  obtain ⟨o1, o2, o3, o4, o5⟩ := faces_ok hc
  have no : ∀ p, ¬ isD l p := by
    intro p hp
    have f := hp.fwd hc
    rcases hc.s p.1 p.2 hp.1 hp.2.1 with ⟨a, _⟩ | ⟨w, a, b, c, _⟩
    · have := hp.2.2; omega
    · have := hp.1; omega
  have : (faces l).flatten = [] := by
    cases q : (faces l).flatten with
    | nil => rfl
    | cons a t => exact absurd (o5 a (by rw [q]; simp)) (no a)
  have len := (FS_ok hc l.length (by omega)).len
  have fl := (FS_ok hc l.length (by omega)).fl
  unfold faces at this ⊢
  rw [fl] at this
  rw [this] at len
  exact List.length_eq_zero_iff.1 (by simpa using len)
theorem mVCheck {l : List Zk} (hl : l.length ≤ 1200) : Za5 l = some (vErr l) := by
  unfold Za5 vErr
  rw [mCheck (by omega), Option.bind_some]
  by_cases h : chkP l = 0
  · have hc := (Ck_iff.1 h).2
    rw [ZG h, if_pos h, mWhole hc hl, Option.bind_some]
    by_cases w : whole l
    · have hp := whole_pos w
      rw [if_pos w, dec_t (show ((PS l l.length).1.length : Int) = 1 from w), if_neg (by decide), mOuter0 (by omega) h, Option.bind_some]
      by_cases c : l.length = 1
      · rw [if_pos c]
        have : outF l = some (-1) := by unfold outF; rw [faces_one hc c]; rfl
        rw [this]
        dsimp only
        rw [if_neg (by simp; omega)]
      · rw [if_neg c]
        cases outF l with
        | none => dsimp only; rw [if_pos (by simp; omega)]
        | some a =>
          dsimp only
          by_cases q : 0 ≤ a
          · rw [if_pos q, if_neg (by simp; omega)]
          · rw [if_neg q, if_pos (by simp; omega)]
    · rw [if_neg w, dec_f (show ¬ ((PS l l.length).1.length : Int) = 1 from w), if_pos (by decide)]
  · rw [ZR h, if_neg h]
theorem rOuter {l : List Zk} (hl : l.length ≤ 1200) : zG l = some (if vErr l = 0 then vOut l else -1, vErr l) := by
  unfold zG
  rw [rCheck (by omega), Option.bind_some]
  by_cases h : chkP l = 0
  · have hc := (Ck_iff.1 h).2
    rw [ZG h, rParts hc hl, Option.bind_some]
    by_cases w : whole l
    · rw [ZG (show ((PS l l.length).1.length : Int) = 1 from w)]
      by_cases c : l.length = 1
      · rw [Z1 (by omega)]
        have e : vErr l = 0 := by unfold vErr; rw [if_pos h, if_pos w, if_pos c]
        rw [e, if_pos rfl]
        unfold vOut
        rw [if_pos c]
      · rw [Z2 (by omega), rFaces (by omega) h, Option.bind_some, rOuterL (by omega) h, Option.bind_some]
        cases q : outF l with
        | none =>
          have e : vErr l = 10 := by unfold vErr; rw [if_pos h, if_pos w, if_neg c, q]
          rw [e]
          rfl
        | some a =>
          dsimp only
          by_cases k : 0 ≤ a
          · have e : vErr l = 0 := by unfold vErr; rw [if_pos h, if_pos w, if_neg c, q]; dsimp only; rw [if_pos k]
            have v : vOut l = a := by unfold vOut; rw [if_neg c, q]
            rw [Z2 (by omega), e, v, if_pos rfl]
          · have e : vErr l = 10 := by unfold vErr; rw [if_pos h, if_pos w, if_neg c, q]; dsimp only; rw [if_neg k]
            rw [Z1 (by omega), e]
            rfl
    · rw [ZR (show ¬ ((PS l l.length).1.length : Int) = 1 from w)]
      have e : vErr l = 13 := by unfold vErr; rw [if_pos h, if_neg w]
      rw [e, if_neg (by decide)]
  · have e : vErr l = chkP l := by unfold vErr; rw [if_neg h]
    rw [ZR h, e, if_neg h]
theorem vErr_ok {l : List Zk} (h : vErr l = 0) : chkP l = 0 ∧ whole l ∧ (l.length ≠ 1 → ∃ a, outF l = some a ∧ 0 ≤ a) := by
  unfold vErr at h
  by_cases c : chkP l = 0
  · rw [if_pos c] at h
    by_cases w : whole l
    · rw [if_pos w] at h
      refine ⟨c, w, fun h1 => ?_⟩
      rw [if_neg h1] at h
      cases q : outF l with
      | none => rw [q] at h; exact absurd h (by decide)
      | some a =>
        rw [q] at h
        dsimp only at h
        by_cases k : 0 ≤ a
        · exact ⟨a, rfl, k⟩
        · rw [if_neg k] at h; exact absurd h (by decide)
    · rw [if_neg w] at h; exact absurd h (by decide)
  · rw [if_neg c] at h; exact absurd h c
end Mu
/- Layer 15, plainly: corners, sums, rotations. -/
set_option linter.unusedVariables false
set_option linter.unusedSimpArgs false
namespace Mu

def knp (x : Int) : Nat := if x = -1 then 1 else if x = -2 then 2 else 0
def kcosTo (t : List Int) : Nat → List (Nat × Nat)
  | 0 => []
  | n + 1 => kcosTo t n ++ (List.range (knp (gi t n))).map fun p => (n, p)
def kcos (t : List Int) : List (Nat × Nat) := kcosTo t t.length
def kC (c : Nat × Nat) : Zd := ⟨c.1, c.2⟩
structure Tn (t : List Int) : Prop where
  l : t.length ≤ 100
  b : ∀ i, -128 ≤ gi t i ∧ gi t i ≤ 127
def Gd (t : List Int) : Prop := ∀ i, -2 ≤ gi t i ∧ gi t i ≤ 1

theorem knp_le (x : Int) : knp x ≤ 2 := by unfold knp; split <;> (try split) <;> omega
theorem kcosTo_length (t : List Int) : ∀ n, (kcosTo t n).length ≤ 2 * n
  | 0 => by simp [kcosTo]
  | n + 1 => by
    have := kcosTo_length t n
    have := knp_le (gi t n)
    simp only [kcosTo, List.length_append, List.length_map, List.length_range]
    omega
theorem kcosTo_mem {t : List Int} {c : Nat × Nat} : ∀ {n}, c ∈ kcosTo t n ↔ c.1 < n ∧ c.2 < knp (gi t c.1)
  | 0 => by simp [kcosTo]
  | n + 1 => by
    simp only [kcosTo, List.mem_append, kcosTo_mem, List.mem_map, List.mem_range]
    constructor
    · rintro (⟨h1, h2⟩ | ⟨p, hp, rfl⟩)
      · exact ⟨by omega, h2⟩
      · exact ⟨by simp, hp⟩
    · rintro ⟨h1, h2⟩
      by_cases h : c.1 < n
      · exact .inl ⟨h, h2⟩
      · have : c.1 = n := by omega
        refine .inr ⟨c.2, by rw [← this]; exact h2, by rw [← this]⟩
theorem kcos_mem {t : List Int} {c : Nat × Nat} : c ∈ kcos t ↔ c.1 < t.length ∧ c.2 < knp (gi t c.1) := kcosTo_mem
theorem kCorners_in {t : List Int} {n : Nat} {l : List Zd} (hl : l.length ≤ 1000) (hx : -2 ≤ gi t n) (hb : gi t n ≤ 127) :
    loopF (zt.s1 t n) big (l, 0) = some (l ++ (List.range (knp (gi t n))).map fun p => kC (n, p)) := by
  have hp : ∀ p : Nat, p < knp (gi t n) ↔ (p : Int) < -gi t n := by
    intro p; unfold knp
    split
    · omega
    · split <;> omega
  have h2 := knp_le (gi t n)
  refine loop_to (fun p : Nat => (l ++ (List.range p).map fun q => kC (n, q), (p : Int))) (n := knp (gi t n)) (big_lt (by omega)) (by simp) (fun p h => ?_) ?_
  · have := (hp p).1 h
    have h3 : (List.map (fun q => kC (n, q)) (List.range p)).length = p := by simp
    simp (disch := omega) only [zt.s1, h3, Z0, ckK64, ckK8, Z1, Z2, ZR, ZG, dec_t, dec_f, Option.bind_some, Int.toNat_natCast, List.length_append, List.length_cons, List.length_nil, Nat.zero_add, if_true, if_false, Bool.false_eq_true, Bool.not_true, Bool.not_false, Bool.true_and, Bool.false_and, Bool.and_true, Bool.and_false, Bool.true_or, Bool.false_or, Bool.or_true, Bool.or_false]
    try simp (disch := omega) only [Z0, ckK64, ckK8, Z1, Z2, ZR, ZG, dec_t, dec_f, Option.bind_some, Int.toNat_natCast, List.length_append, List.length_cons, List.length_nil, Nat.zero_add, if_true, if_false, Bool.false_eq_true, Bool.not_true, Bool.not_false, Bool.true_and, Bool.false_and, Bool.and_true, Bool.and_false, Bool.true_or, Bool.false_or, Bool.or_true, Bool.or_false]
    simp [List.range_succ, kC]
  · have : ¬((knp (gi t n) : Nat) : Int) < -gi t n := fun h => absurd ((hp _).2 h) (by omega)
    simp (disch := omega) only [zt.s1, Z0, ckK64, ckK8, Z1, Z2, ZR, ZG, dec_t, dec_f, Option.bind_some, Int.toNat_natCast, List.length_append, List.length_cons, List.length_nil, Nat.zero_add, if_true, if_false, Bool.false_eq_true, Bool.not_true, Bool.not_false, Bool.true_and, Bool.false_and, Bool.and_true, Bool.and_false, Bool.true_or, Bool.false_or, Bool.or_true, Bool.or_false]
    try simp (disch := omega) only [Z0, ckK64, ckK8, Z1, Z2, ZR, ZG, dec_t, dec_f, Option.bind_some, Int.toNat_natCast, List.length_append, List.length_cons, List.length_nil, Nat.zero_add, if_true, if_false, Bool.false_eq_true, Bool.not_true, Bool.not_false, Bool.true_and, Bool.false_and, Bool.and_true, Bool.and_false, Bool.true_or, Bool.false_or, Bool.or_true, Bool.or_false]
theorem kCorners {t : List Int} (ht : Tn t) : zt t = some ((kcos t).map kC) := by
  unfold zt
  have hlen := ht.l
  rw [bd_eq (x := (kcos t).map kC)]
  refine loop_to (fun n : Nat => ((kcosTo t n).map kC, (n : Int))) (n := t.length) (big_lt (by omega)) (by simp [kcosTo]) (fun n h => ?_) ?_
  · have hb := ht.b n
    have hc := kcosTo_length t n
    by_cases hx : gi t n < -2
    · simp (disch := omega) only [zt.s0, Z0, ckK64, ckK8, Z1, Z2, ZR, ZG, dec_t, dec_f, Option.bind_some, Int.toNat_natCast, List.length_append, List.length_cons, List.length_nil, Nat.zero_add, if_true, if_false, Bool.false_eq_true, Bool.not_true, Bool.not_false, Bool.true_and, Bool.false_and, Bool.and_true, Bool.and_false, Bool.true_or, Bool.false_or, Bool.or_true, Bool.or_false]
      try simp (disch := omega) only [Z0, ckK64, ckK8, Z1, Z2, ZR, ZG, dec_t, dec_f, Option.bind_some, Int.toNat_natCast, List.length_append, List.length_cons, List.length_nil, Nat.zero_add, if_true, if_false, Bool.false_eq_true, Bool.not_true, Bool.not_false, Bool.true_and, Bool.false_and, Bool.and_true, Bool.and_false, Bool.true_or, Bool.false_or, Bool.or_true, Bool.or_false]
      have : knp (gi t n) = 0 := by unfold knp; rw [if_neg (by omega), if_neg (by omega)]
      simp [kcosTo, this]
    · have := kCorners_in (t := t) (n := n) (l := (kcosTo t n).map kC) (by simp; omega) (by omega) hb.2
      simp (disch := omega) only [zt.s0, this, Z0, ckK64, ckK8, Z1, Z2, ZR, ZG, dec_t, dec_f, Option.bind_some, Int.toNat_natCast, List.length_append, List.length_cons, List.length_nil, Nat.zero_add, if_true, if_false, Bool.false_eq_true, Bool.not_true, Bool.not_false, Bool.true_and, Bool.false_and, Bool.and_true, Bool.and_false, Bool.true_or, Bool.false_or, Bool.or_true, Bool.or_false]
      try simp (disch := omega) only [Z0, ckK64, ckK8, Z1, Z2, ZR, ZG, dec_t, dec_f, Option.bind_some, Int.toNat_natCast, List.length_append, List.length_cons, List.length_nil, Nat.zero_add, if_true, if_false, Bool.false_eq_true, Bool.not_true, Bool.not_false, Bool.true_and, Bool.false_and, Bool.and_true, Bool.and_false, Bool.true_or, Bool.false_or, Bool.or_true, Bool.or_false]
      simp [kcosTo, Function.comp_def]
  · simp (disch := omega) only [zt.s0, Z0, ckK64, ckK8, Z1, Z2, ZR, ZG, dec_t, dec_f, Option.bind_some, Int.toNat_natCast, List.length_append, List.length_cons, List.length_nil, Nat.zero_add, if_true, if_false, Bool.false_eq_true, Bool.not_true, Bool.not_false, Bool.true_and, Bool.false_and, Bool.and_true, Bool.and_false, Bool.true_or, Bool.false_or, Bool.or_true, Bool.or_false]
    try simp (disch := omega) only [Z0, ckK64, ckK8, Z1, Z2, ZR, ZG, dec_t, dec_f, Option.bind_some, Int.toNat_natCast, List.length_append, List.length_cons, List.length_nil, Nat.zero_add, if_true, if_false, Bool.false_eq_true, Bool.not_true, Bool.not_false, Bool.true_and, Bool.false_and, Bool.and_true, Bool.and_false, Bool.true_or, Bool.false_or, Bool.or_true, Bool.or_false]
    rfl

/-! right -/
def gdB (t : List Int) : Bool := (List.range t.length).all fun i => !(decide (gi t i < -2) || decide (1 < gi t i))
theorem gdB_iff {t : List Int} : gdB t = true ↔ Gd t := by
  unfold gdB Gd
  rw [List.all_eq_true]
  constructor
  · intro h i
    by_cases hi : i < t.length
    · have := h i (by simpa using hi)
      simp at this
      omega
    · rw [gi_default (by omega)]; exact ⟨by decide, by decide⟩
  · intro h i hi
    have := h i
    simp
    omega
theorem kRight {t : List Int} (ht : t.length ≤ 1000) : Zay t = some (gdB t) := by
  unfold Zay zY zF
  rw [loop_find (n := t.length) (P := fun i => decide (gi t i < -2) || decide (1 < gi t i)) (f := fun i => (i : Int)) (big_lt (by omega))]
  · cases h : (List.range t.length).find? (fun i => decide (gi t i < -2) || decide (1 < gi t i)) with
    | none =>
      rw [List.find?_range_eq_none] at h
      have : gdB t = true := by
        rw [gdB, List.all_eq_true]
        intro i hi
        exact h i (by simpa using hi)
      simp [this]
    | some j =>
      rw [List.find?_range_eq_some] at h
      have : gdB t = false := by
        rw [← Bool.not_eq_true, gdB_iff]
        intro hg
        have h1 := h.1
        have := hg j
        simp at h1
        omega
      simp [this]
  · intro i hi
    simp (disch := omega) only [zF.s0, Za1, Z0, ckK64, ckK8, Z1, Z2, ZR, ZG, dec_t, dec_f, Option.bind_some, Int.toNat_natCast, List.length_append, List.length_cons, List.length_nil, Nat.zero_add, if_true, if_false, Bool.false_eq_true, Bool.not_true, Bool.not_false, Bool.true_and, Bool.false_and, Bool.and_true, Bool.and_false, Bool.true_or, Bool.false_or, Bool.or_true, Bool.or_false]
    try simp (disch := omega) only [Z0, ckK64, ckK8, Z1, Z2, ZR, ZG, dec_t, dec_f, Option.bind_some, Int.toNat_natCast, List.length_append, List.length_cons, List.length_nil, Nat.zero_add, if_true, if_false, Bool.false_eq_true, Bool.not_true, Bool.not_false, Bool.true_and, Bool.false_and, Bool.and_true, Bool.and_false, Bool.true_or, Bool.false_or, Bool.or_true, Bool.or_false]
    split <;> simp_all
  · simp (disch := omega) only [zF.s0, Z0, ckK64, ckK8, Z1, Z2, ZR, ZG, dec_t, dec_f, Option.bind_some, Int.toNat_natCast, List.length_append, List.length_cons, List.length_nil, Nat.zero_add, if_true, if_false, Bool.false_eq_true, Bool.not_true, Bool.not_false, Bool.true_and, Bool.false_and, Bool.and_true, Bool.and_false, Bool.true_or, Bool.false_or, Bool.or_true, Bool.or_false]
    try simp (disch := omega) only [Z0, ckK64, ckK8, Z1, Z2, ZR, ZG, dec_t, dec_f, Option.bind_some, Int.toNat_natCast, List.length_append, List.length_cons, List.length_nil, Nat.zero_add, if_true, if_false, Bool.false_eq_true, Bool.not_true, Bool.not_false, Bool.true_and, Bool.false_and, Bool.and_true, Bool.and_false, Bool.true_or, Bool.false_or, Bool.or_true, Bool.or_false]

/-! contains -/
/-! sums -/
theorem psum_b {t : List Int} (hg : Gd t) : ∀ n : Nat, -2 * (n : Int) ≤ psum t n ∧ psum t n ≤ n
  | 0 => by simp [psum]
  | n + 1 => by
    have := psum_b hg n
    have := hg n
    simp only [psum]
    omega
def psL (t : List Int) (j : Nat) : List Int := (List.range (t.length + 1)).map fun q => if q ≤ j then psum t q else 0
theorem psL_length {t : List Int} {j : Nat} : (psL t j).length = t.length + 1 := by simp [psL]
theorem gi_psL {t : List Int} {j q : Nat} (hq : q < t.length + 1) : gi (psL t j) q = if q ≤ j then psum t q else 0 := by
  rw [gi_eq (by rw [psL_length]; exact hq)]
  simp [psL]
theorem psL_zero {t : List Int} : List.replicate (t.length + 1) 0 = psL t 0 := by
  refine List.ext_getElem (by rw [psL_length]; simp) fun q h1 h2 => ?_
  simp [psL]
  intro h3
  subst h3
  rfl
theorem psL_succ {t : List Int} {j : Nat} : (psL t j).set (j + 1) (psum t j + gi t j) = psL t (j + 1) := by
  refine List.ext_getElem (by simp [psL]) fun q h1 h2 => ?_
  rw [List.getElem_set]
  simp only [psL, List.getElem_map, List.getElem_range]
  by_cases hq : j + 1 = q
  · subst hq
    rw [if_pos rfl, if_pos (Nat.le_refl _)]
    rfl
  · rw [if_neg hq]
    by_cases hq2 : q ≤ j
    · rw [if_pos hq2, if_pos (by omega)]
    · rw [if_neg hq2, if_neg (by omega)]
theorem kSums {t : List Int} (ht : t.length ≤ 1000) (hg : Gd t) : Zag t = some (psL t t.length) := by
  unfold Zag
  have e : ((t.length : Int) + 1).toNat = t.length + 1 := by omega
  rw [e, psL_zero]
  simp (disch := omega) only [Z0, ckK64, ckK8, Z1, Z2, ZR, ZG, dec_t, dec_f, Option.bind_some, Int.toNat_natCast, List.length_append, List.length_cons, List.length_nil, Nat.zero_add, if_true, if_false, Bool.false_eq_true, Bool.not_true, Bool.not_false, Bool.true_and, Bool.false_and, Bool.and_true, Bool.and_false, Bool.true_or, Bool.false_or, Bool.or_true, Bool.or_false]
  rw [bd_eq (x := psL t t.length)]
  refine loop_to (fun n : Nat => (psL t n, (n : Int))) (n := t.length) (big_lt (by omega)) (by simp [kcosTo]) (fun n h => ?_) ?_
  · have h1 := psL_length (t := t) (j := n)
    have h2 := psum_b hg n
    have h3 := hg n
    have h4 : gi (psL t n) n = psum t n := by rw [gi_psL (by omega), if_pos (Nat.le_refl _)]
    have h5 : ((n : Int) + 1).toNat = n + 1 := by omega
    simp (disch := omega) only [Zag.s0, h4, h5, psL_succ, Z0, ckK64, ckK8, Z1, Z2, ZR, ZG, dec_t, dec_f, Option.bind_some, Int.toNat_natCast, List.length_append, List.length_cons, List.length_nil, Nat.zero_add, if_true, if_false, Bool.false_eq_true, Bool.not_true, Bool.not_false, Bool.true_and, Bool.false_and, Bool.and_true, Bool.and_false, Bool.true_or, Bool.false_or, Bool.or_true, Bool.or_false]
    try simp (disch := omega) only [Z0, ckK64, ckK8, Z1, Z2, ZR, ZG, dec_t, dec_f, Option.bind_some, Int.toNat_natCast, List.length_append, List.length_cons, List.length_nil, Nat.zero_add, if_true, if_false, Bool.false_eq_true, Bool.not_true, Bool.not_false, Bool.true_and, Bool.false_and, Bool.and_true, Bool.and_false, Bool.true_or, Bool.false_or, Bool.or_true, Bool.or_false]
    rfl
  · simp (disch := omega) only [Zag.s0, Z0, ckK64, ckK8, Z1, Z2, ZR, ZG, dec_t, dec_f, Option.bind_some, Int.toNat_natCast, List.length_append, List.length_cons, List.length_nil, Nat.zero_add, if_true, if_false, Bool.false_eq_true, Bool.not_true, Bool.not_false, Bool.true_and, Bool.false_and, Bool.and_true, Bool.and_false, Bool.true_or, Bool.false_or, Bool.or_true, Bool.or_false]
    try simp (disch := omega) only [Z0, ckK64, ckK8, Z1, Z2, ZR, ZG, dec_t, dec_f, Option.bind_some, Int.toNat_natCast, List.length_append, List.length_cons, List.length_nil, Nat.zero_add, if_true, if_false, Bool.false_eq_true, Bool.not_true, Bool.not_false, Bool.true_and, Bool.false_and, Bool.and_true, Bool.and_false, Bool.true_or, Bool.false_or, Bool.or_true, Bool.or_false]

/-- From a corner to another one. -/
def rotP (t : List Int) (a b : Nat × Nat) : Int := psum t b.1 - b.2 - (psum t a.1 - a.2) + if b.1 < a.1 ∨ (b.1 = a.1 ∧ b.2 < a.2) then psum t t.length else 0
theorem kRotS {t : List Int} (ht : t.length ≤ 1000) (hg : Gd t) {a b : Nat × Nat} (ha : a.1 ≤ t.length) (hb : b.1 ≤ t.length) (ha2 : a.2 ≤ 10) (hb2 : b.2 ≤ 10) : Za3 (psL t t.length) (kC a) (kC b) = some (rotP t a b) := by
  unfold Za3 rotP kC
  have h1 := psL_length (t := t) (j := t.length)
  have g1 : gi (psL t t.length) a.1 = psum t a.1 := by rw [gi_psL (by omega), if_pos ha]
  have g2 : gi (psL t t.length) b.1 = psum t b.1 := by rw [gi_psL (by omega), if_pos hb]
  have g3 : gi (psL t t.length) t.length = psum t t.length := by rw [gi_psL (by omega), if_pos (Nat.le_refl _)]
  have b1 := psum_b hg a.1
  have b2 := psum_b hg b.1
  have b3 := psum_b hg t.length
  have e : (((psL t t.length).length : Int) - 1).toNat = t.length := by rw [h1]; omega
  by_cases c : b.1 < a.1 ∨ (b.1 = a.1 ∧ b.2 < a.2)
  · have hc : (decide ((b.1 : Int) < a.1) || (decide ((b.1 : Int) = a.1) && decide ((b.2 : Int) < a.2))) = true := by
      simp
      omega
    simp (disch := omega) only [g1, g2, g3, hc, e, Z0, ckK64, ckK8, Z1, Z2, ZR, ZG, dec_t, dec_f, Option.bind_some, Int.toNat_natCast, List.length_append, List.length_cons, List.length_nil, Nat.zero_add, if_true, if_false, Bool.false_eq_true, Bool.not_true, Bool.not_false, Bool.true_and, Bool.false_and, Bool.and_true, Bool.and_false, Bool.true_or, Bool.false_or, Bool.or_true, Bool.or_false]
    try simp (disch := omega) only [Z0, ckK64, ckK8, Z1, Z2, ZR, ZG, dec_t, dec_f, Option.bind_some, Int.toNat_natCast, List.length_append, List.length_cons, List.length_nil, Nat.zero_add, if_true, if_false, Bool.false_eq_true, Bool.not_true, Bool.not_false, Bool.true_and, Bool.false_and, Bool.and_true, Bool.and_false, Bool.true_or, Bool.false_or, Bool.or_true, Bool.or_false]
    rw [if_pos c]
  · have hc : (decide ((b.1 : Int) < a.1) || (decide ((b.1 : Int) = a.1) && decide ((b.2 : Int) < a.2))) = false := by
      simp
      omega
    simp (disch := omega) only [g1, g2, g3, e, Z0, ckK64, ckK8, Z1, Z2, ZR, ZG, dec_t, dec_f, Option.bind_some, Int.toNat_natCast, List.length_append, List.length_cons, List.length_nil, Nat.zero_add, if_true, if_false, Bool.false_eq_true, Bool.not_true, Bool.not_false, Bool.true_and, Bool.false_and, Bool.and_true, Bool.and_false, Bool.true_or, Bool.false_or, Bool.or_true, Bool.or_false]
    try simp (disch := omega) only [Z0, ckK64, ckK8, Z1, Z2, ZR, ZG, dec_t, dec_f, Option.bind_some, Int.toNat_natCast, List.length_append, List.length_cons, List.length_nil, Nat.zero_add, if_true, if_false, Bool.false_eq_true, Bool.not_true, Bool.not_false, Bool.true_and, Bool.false_and, Bool.and_true, Bool.and_false, Bool.true_or, Bool.false_or, Bool.or_true, Bool.or_false]
    rw [if_neg (by simp; omega), if_neg c, Int.add_zero]
end Mu
/- Layer 15: the rotation there and back. -/
set_option linter.unusedVariables false
set_option linter.unusedSimpArgs false
namespace Mu

theorem kcos_gi {t : List Int} {i : Nat} (hi : i < (kcos t).length) : gi ((kcos t).map kC) i = kC (gi (kcos t) i) := by
  rw [gi_eq (by simpa using hi), gi_eq hi]; simp
/-- The corners stand in order. -/
def clt (a b : Nat × Nat) : Prop := a.1 < b.1 ∨ (a.1 = b.1 ∧ a.2 < b.2)
end Mu
/- Layer 15: turns of 0, and where one begins. -/
set_option linter.unusedVariables false
set_option linter.unusedSimpArgs false
namespace Mu

/-- Do corners look at one another? -/
def looks (t : List Int) : Prop := ∃ a ∈ kcos t, ∃ b ∈ kcos t, rotP t a b = 2

/-- The first pair. -/
def inP (t : List Int) (i : Nat) : Option Nat := (List.range (kcos t).length).find? fun k => decide (rotP t (gi (kcos t) i) (gi (kcos t) k) = 2)
def outP (t : List Int) : Option Nat := (List.range (kcos t).length).find? fun i => (inP t i).isSome
def pairP (t : List Int) : Option (Nat × Nat) := match outP t with | some i => (match inP t i with | some k => some (i, k) | none => none) | none => none
theorem kPair {t : List Int} (ht : Tn t) (hg : Gd t) : z8 t = some (match pairP t with | some (i, k) => (kC (gi (kcos t) i), kC (gi (kcos t) k), true) | none => (⟨0, 0⟩, ⟨0, 0⟩, false)) := by
  have hl := ht.l
  have hcl : (kcos t).length ≤ 200 := by have := kcosTo_length t t.length; unfold kcos; omega
  unfold z8
  rw [kRight (by omega), gdB_iff.2 hg, Option.bind_some, kCorners ht, Option.bind_some, kSums (by omega) hg, Option.bind_some]
  have hml : ((kcos t).map kC).length = (kcos t).length := by simp
  have inner : ∀ i : Nat, i < (kcos t).length → loopF (z8.s1 ((kcos t).map kC) (psL t t.length) i) big 0 = some (match inP t i with | some k => .inr (kC (gi (kcos t) k)) | none => .inl ()) := by
    intro i hi
    unfold inP
    refine loop_find (n := (kcos t).length) (P := fun k => decide (rotP t (gi (kcos t) i) (gi (kcos t) k) = 2)) (f := fun k => kC (gi (kcos t) k)) (big_lt (by omega)) (fun k hk => ?_) ?_
    · have a1 := kcos_mem.1 (gi_mem hi)
      have b1 := kcos_mem.1 (gi_mem hk)
      have n1 := knp_le (gi t (gi (kcos t) i).1)
      have n2 := knp_le (gi t (gi (kcos t) k).1)
      have e := kRotS (t := t) (by omega) hg (a := gi (kcos t) i) (b := gi (kcos t) k) (by omega) (by omega) (by omega) (by omega)
      by_cases c : rotP t (gi (kcos t) i) (gi (kcos t) k) = 2
      · have c' : decide (rotP t (gi (kcos t) i) (gi (kcos t) k) = 2) = true := by simpa using c
        rw [c', if_pos rfl]
        simp (disch := omega) only [z8.s1, hml, kcos_gi hi, kcos_gi hk, e, c, Z0, ckK64, ckK8, Z1, Z2, ZR, ZG, dec_t, dec_f, Option.bind_some, Int.toNat_natCast, List.length_append, List.length_cons, List.length_nil, Nat.zero_add, if_true, if_false, Bool.false_eq_true, Bool.not_true, Bool.not_false, Bool.true_and, Bool.false_and, Bool.and_true, Bool.and_false, Bool.true_or, Bool.false_or, Bool.or_true, Bool.or_false]
        try simp (disch := omega) only [Z0, ckK64, ckK8, Z1, Z2, ZR, ZG, dec_t, dec_f, Option.bind_some, Int.toNat_natCast, List.length_append, List.length_cons, List.length_nil, Nat.zero_add, if_true, if_false, Bool.false_eq_true, Bool.not_true, Bool.not_false, Bool.true_and, Bool.false_and, Bool.and_true, Bool.and_false, Bool.true_or, Bool.false_or, Bool.or_true, Bool.or_false]
      · have c' : decide (rotP t (gi (kcos t) i) (gi (kcos t) k) = 2) = false := by simpa using c
        rw [c', if_neg (by decide)]
        simp (disch := omega) only [z8.s1, hml, kcos_gi hi, kcos_gi hk, e, Z0, ckK64, ckK8, Z1, Z2, ZR, ZG, dec_t, dec_f, Option.bind_some, Int.toNat_natCast, List.length_append, List.length_cons, List.length_nil, Nat.zero_add, if_true, if_false, Bool.false_eq_true, Bool.not_true, Bool.not_false, Bool.true_and, Bool.false_and, Bool.and_true, Bool.and_false, Bool.true_or, Bool.false_or, Bool.or_true, Bool.or_false]
        try simp (disch := omega) only [Z0, ckK64, ckK8, Z1, Z2, ZR, ZG, dec_t, dec_f, Option.bind_some, Int.toNat_natCast, List.length_append, List.length_cons, List.length_nil, Nat.zero_add, if_true, if_false, Bool.false_eq_true, Bool.not_true, Bool.not_false, Bool.true_and, Bool.false_and, Bool.and_true, Bool.and_false, Bool.true_or, Bool.false_or, Bool.or_true, Bool.or_false]
    · simp (disch := omega) only [z8.s1, hml, Z0, ckK64, ckK8, Z1, Z2, ZR, ZG, dec_t, dec_f, Option.bind_some, Int.toNat_natCast, List.length_append, List.length_cons, List.length_nil, Nat.zero_add, if_true, if_false, Bool.false_eq_true, Bool.not_true, Bool.not_false, Bool.true_and, Bool.false_and, Bool.and_true, Bool.and_false, Bool.true_or, Bool.false_or, Bool.or_true, Bool.or_false]
      try simp (disch := omega) only [Z0, ckK64, ckK8, Z1, Z2, ZR, ZG, dec_t, dec_f, Option.bind_some, Int.toNat_natCast, List.length_append, List.length_cons, List.length_nil, Nat.zero_add, if_true, if_false, Bool.false_eq_true, Bool.not_true, Bool.not_false, Bool.true_and, Bool.false_and, Bool.and_true, Bool.and_false, Bool.true_or, Bool.false_or, Bool.or_true, Bool.or_false]
  have outer : loopF (z8.s0 ((kcos t).map kC) (psL t t.length)) big 0 = some (match outP t with | some i => .inr (kC (gi (kcos t) i), match inP t i with | some k => kC (gi (kcos t) k) | none => ⟨0, 0⟩) | none => .inl ()) := by
    unfold outP
    refine loop_find (n := (kcos t).length) (P := fun i => (inP t i).isSome) (f := fun i => (kC (gi (kcos t) i), match inP t i with | some k => kC (gi (kcos t) k) | none => ⟨0, 0⟩)) (big_lt (by omega)) (fun i hi => ?_) ?_
    · have e := inner i hi
      cases h : inP t i with
      | none =>
        rw [h] at e
        simp (disch := omega) only [z8.s0, hml, e, Z0, ckK64, ckK8, Z1, Z2, ZR, ZG, dec_t, dec_f, Option.bind_some, Int.toNat_natCast, List.length_append, List.length_cons, List.length_nil, Nat.zero_add, if_true, if_false, Bool.false_eq_true, Bool.not_true, Bool.not_false, Bool.true_and, Bool.false_and, Bool.and_true, Bool.and_false, Bool.true_or, Bool.false_or, Bool.or_true, Bool.or_false]
        try simp (disch := omega) only [Z0, ckK64, ckK8, Z1, Z2, ZR, ZG, dec_t, dec_f, Option.bind_some, Int.toNat_natCast, List.length_append, List.length_cons, List.length_nil, Nat.zero_add, if_true, if_false, Bool.false_eq_true, Bool.not_true, Bool.not_false, Bool.true_and, Bool.false_and, Bool.and_true, Bool.and_false, Bool.true_or, Bool.false_or, Bool.or_true, Bool.or_false]
        rfl
      | some k =>
        rw [h] at e
        simp (disch := omega) only [z8.s0, hml, e, kcos_gi hi, Z0, ckK64, ckK8, Z1, Z2, ZR, ZG, dec_t, dec_f, Option.bind_some, Int.toNat_natCast, List.length_append, List.length_cons, List.length_nil, Nat.zero_add, if_true, if_false, Bool.false_eq_true, Bool.not_true, Bool.not_false, Bool.true_and, Bool.false_and, Bool.and_true, Bool.and_false, Bool.true_or, Bool.false_or, Bool.or_true, Bool.or_false]
        try simp (disch := omega) only [Z0, ckK64, ckK8, Z1, Z2, ZR, ZG, dec_t, dec_f, Option.bind_some, Int.toNat_natCast, List.length_append, List.length_cons, List.length_nil, Nat.zero_add, if_true, if_false, Bool.false_eq_true, Bool.not_true, Bool.not_false, Bool.true_and, Bool.false_and, Bool.and_true, Bool.and_false, Bool.true_or, Bool.false_or, Bool.or_true, Bool.or_false]
        rfl
    · simp (disch := omega) only [z8.s0, hml, Z0, ckK64, ckK8, Z1, Z2, ZR, ZG, dec_t, dec_f, Option.bind_some, Int.toNat_natCast, List.length_append, List.length_cons, List.length_nil, Nat.zero_add, if_true, if_false, Bool.false_eq_true, Bool.not_true, Bool.not_false, Bool.true_and, Bool.false_and, Bool.and_true, Bool.and_false, Bool.true_or, Bool.false_or, Bool.or_true, Bool.or_false]
      try simp (disch := omega) only [Z0, ckK64, ckK8, Z1, Z2, ZR, ZG, dec_t, dec_f, Option.bind_some, Int.toNat_natCast, List.length_append, List.length_cons, List.length_nil, Nat.zero_add, if_true, if_false, Bool.false_eq_true, Bool.not_true, Bool.not_false, Bool.true_and, Bool.false_and, Bool.and_true, Bool.and_false, Bool.true_or, Bool.false_or, Bool.or_true, Bool.or_false]
  have hnn : (!true) = false := rfl
  rw [outer]
  simp only [hnn, Bool.false_eq_true, if_false, Option.bind_some]
  unfold pairP
  cases ho : outP t with
  | none => rfl
  | some i =>
    have := ho
    unfold outP at this
    rw [List.find?_range_eq_some] at this
    cases hi : inP t i with
    | none => rw [hi] at this; exact absurd this.1 (by simp)
    | some k => simp [hi]

/-! A list and another one whose turns, but those of 0, stand elsewhere. -/
theorem psum_append {t u : List Int} : ∀ n, psum (t ++ u) (t.length + n) = psum t t.length + psum u n
  | 0 => by
    simp only [Nat.add_zero, psum, Int.add_zero]
    have : ∀ n, n ≤ t.length → psum (t ++ u) n = psum t n := by
      intro n
      induction n with
      | zero => intro _; rfl
      | succ n ih =>
        intro hn
        simp only [psum]
        rw [ih (by omega), gi_append_left (by omega)]
    exact this _ (Nat.le_refl _)
  | n + 1 => by
    show psum (t ++ u) (t.length + n) + gi (t ++ u) (t.length + n) = psum t t.length + (psum u n + gi u n)
    rw [psum_append n, gi_append_right]
    omega
theorem gi_append {α : Type} [Inhabited α] {l m : List α} {i : Nat} : gi (l ++ m) i = if i < l.length then gi l i else gi m (i - l.length) := by
  split
  · rw [gi_append_left (by assumption)]
  · rw [show i = l.length + (i - l.length) by omega, gi_append_right]
    congr 1
    omega
/-! How many corners. -/
end Mu
/- Layer 15: the document's answer. -/
set_option linter.unusedVariables false
set_option linter.unusedSimpArgs false
namespace Mu

def rC (c : Nat × Nat) : Zl := ⟨c.1, c.2⟩
theorem kR_Corners {t : List Int} (ht : Tn t) : zw t = some ((kcos t).map rC) := by
  have hl := ht.l
  unfold zw
  rw [bd_eq (x := (kcos t).map rC)]
  refine loop_to (fun n : Nat => ((kcosTo t n).map rC, (n : Int))) (n := t.length) (big_lt (by omega)) rfl (fun n hn => ?_) ?_
  · have hk := kcosTo_length t n
    have hm : ((kcosTo t n).map rC).length = (kcosTo t n).length := by simp
    have e2 : kcosTo t (n + 1) = kcosTo t n ++ (List.range (knp (gi t n))).map fun p => (n, p) := rfl
    by_cases c1 : gi t n = -1
    · have k1 : knp (gi t n) = 1 := by rw [c1]; rfl
      rw [e2, k1]
      simp (disch := omega) only [zw.s0, c1, hm, Z0, ckK64, ckK8, Z1, Z2, ZR, ZG, dec_t, dec_f, Option.bind_some, Int.toNat_natCast, List.length_append, List.length_cons, List.length_nil, Nat.zero_add, if_true, if_false, Bool.false_eq_true, Bool.not_true, Bool.not_false, Bool.true_and, Bool.false_and, Bool.and_true, Bool.and_false, Bool.true_or, Bool.false_or, Bool.or_true, Bool.or_false]
      try simp (disch := omega) only [Z0, ckK64, ckK8, Z1, Z2, ZR, ZG, dec_t, dec_f, Option.bind_some, Int.toNat_natCast, List.length_append, List.length_cons, List.length_nil, Nat.zero_add, if_true, if_false, Bool.false_eq_true, Bool.not_true, Bool.not_false, Bool.true_and, Bool.false_and, Bool.and_true, Bool.and_false, Bool.true_or, Bool.false_or, Bool.or_true, Bool.or_false]
      simp [rC, List.range_succ]
    · by_cases c2 : gi t n = -2
      · have k1 : knp (gi t n) = 2 := by rw [c2]; rfl
        rw [e2, k1]
        simp (disch := omega) only [zw.s0, c2, hm, Z0, ckK64, ckK8, Z1, Z2, ZR, ZG, dec_t, dec_f, Option.bind_some, Int.toNat_natCast, List.length_append, List.length_cons, List.length_nil, Nat.zero_add, if_true, if_false, Bool.false_eq_true, Bool.not_true, Bool.not_false, Bool.true_and, Bool.false_and, Bool.and_true, Bool.and_false, Bool.true_or, Bool.false_or, Bool.or_true, Bool.or_false]
        try simp (disch := omega) only [Z0, ckK64, ckK8, Z1, Z2, ZR, ZG, dec_t, dec_f, Option.bind_some, Int.toNat_natCast, List.length_append, List.length_cons, List.length_nil, Nat.zero_add, if_true, if_false, Bool.false_eq_true, Bool.not_true, Bool.not_false, Bool.true_and, Bool.false_and, Bool.and_true, Bool.and_false, Bool.true_or, Bool.false_or, Bool.or_true, Bool.or_false]
        simp [rC, List.range_succ]
      · have k1 : knp (gi t n) = 0 := by unfold knp; rw [if_neg c1, if_neg c2]
        rw [e2, k1]
        simp (disch := omega) only [zw.s0, c1, c2, hm, Z0, ckK64, ckK8, Z1, Z2, ZR, ZG, dec_t, dec_f, Option.bind_some, Int.toNat_natCast, List.length_append, List.length_cons, List.length_nil, Nat.zero_add, if_true, if_false, Bool.false_eq_true, Bool.not_true, Bool.not_false, Bool.true_and, Bool.false_and, Bool.and_true, Bool.and_false, Bool.true_or, Bool.false_or, Bool.or_true, Bool.or_false]
        try simp (disch := omega) only [Z0, ckK64, ckK8, Z1, Z2, ZR, ZG, dec_t, dec_f, Option.bind_some, Int.toNat_natCast, List.length_append, List.length_cons, List.length_nil, Nat.zero_add, if_true, if_false, Bool.false_eq_true, Bool.not_true, Bool.not_false, Bool.true_and, Bool.false_and, Bool.and_true, Bool.and_false, Bool.true_or, Bool.false_or, Bool.or_true, Bool.or_false]
        simp [rC, List.range_succ]
  · simp (disch := omega) only [zw.s0, Z0, ckK64, ckK8, Z1, Z2, ZR, ZG, dec_t, dec_f, Option.bind_some, Int.toNat_natCast, List.length_append, List.length_cons, List.length_nil, Nat.zero_add, if_true, if_false, Bool.false_eq_true, Bool.not_true, Bool.not_false, Bool.true_and, Bool.false_and, Bool.and_true, Bool.and_false, Bool.true_or, Bool.false_or, Bool.or_true, Bool.or_false]
    try simp (disch := omega) only [Z0, ckK64, ckK8, Z1, Z2, ZR, ZG, dec_t, dec_f, Option.bind_some, Int.toNat_natCast, List.length_append, List.length_cons, List.length_nil, Nat.zero_add, if_true, if_false, Bool.false_eq_true, Bool.not_true, Bool.not_false, Bool.true_and, Bool.false_and, Bool.and_true, Bool.and_false, Bool.true_or, Bool.false_or, Bool.or_true, Bool.or_false]
    rfl
/-! Single turns. -/
def sPart (x : Int) : List Int := if x = -2 then [-1, -1] else [x]
def sngTo (t : List Int) : Nat → List Int
  | 0 => []
  | n + 1 => sngTo t n ++ sPart (gi t n)
theorem sPart_len (x : Int) : 1 ≤ (sPart x).length ∧ (sPart x).length ≤ 2 := by unfold sPart; split <;> simp
theorem sngTo_len (t : List Int) : ∀ n, (sngTo t n).length ≤ 2 * n
  | 0 => by simp [sngTo]
  | n + 1 => by
    have := sngTo_len t n
    have := sPart_len (gi t n)
    simp only [sngTo, List.length_append]; omega
theorem sngTo_pre {t : List Int} {n : Nat} : ∀ k, ∃ r, sngTo t (n + k) = sngTo t n ++ r
  | 0 => ⟨[], by simp⟩
  | k + 1 => by
    obtain ⟨r, h⟩ := sngTo_pre (t := t) (n := n) k
    exact ⟨r ++ sPart (gi t (n + k)), by rw [← Nat.add_assoc, sngTo, h, List.append_assoc]⟩
theorem sPart_sum (x : Int) : psum (sPart x) (sPart x).length = x := by
  unfold sPart
  split
  · rename_i h; rw [h]; rfl
  · simp [psum, gi]
theorem sngTo_sum (t : List Int) : ∀ n, psum (sngTo t n) (sngTo t n).length = psum t n
  | 0 => rfl
  | n + 1 => by
    simp only [sngTo, List.length_append]
    rw [psum_append, sngTo_sum t n, sPart_sum]
    rfl
def pos (t : List Int) (c : Nat × Nat) : Nat := (sngTo t c.1).length + c.2
theorem sngTo_le {t : List Int} {n m : Nat} (h : n ≤ m) : (sngTo t n).length ≤ (sngTo t m).length := by
  obtain ⟨r, e⟩ := sngTo_pre (t := t) (n := n) (m - n)
  rw [show n + (m - n) = m by omega] at e
  rw [e, List.length_append]; omega
theorem pos_lt {t : List Int} {c : Nat × Nat} (hc : c ∈ kcos t) : pos t c < (sngTo t (c.1 + 1)).length := by
  have h := (kcos_mem.1 hc).2
  simp only [pos, sngTo, List.length_append]
  unfold knp at h
  unfold sPart
  split at h
  · rename_i e; rw [e]; simp; omega
  · split at h
    · rename_i e; rw [if_pos e]; simp; omega
    · omega
theorem pos_all {t : List Int} {c : Nat × Nat} (hc : c ∈ kcos t) : pos t c < (sngTo t t.length).length :=
  Nat.lt_of_lt_of_le (pos_lt hc) (sngTo_le (by have := (kcos_mem.1 hc).1; omega))
theorem pos_mono {t : List Int} {a b : Nat × Nat} (ha : a ∈ kcos t) (h : clt a b) : pos t a < pos t b := by
  rcases h with h | ⟨h1, h2⟩
  · have := pos_lt ha
    have := sngTo_le (t := t) (n := a.1 + 1) (m := b.1) (by omega)
    unfold pos at *; omega
  · unfold pos; rw [h1]; omega
theorem pos_sum {t : List Int} {c : Nat × Nat} (hc : c ∈ kcos t) : psum (sngTo t t.length) (pos t c) = psum t c.1 - c.2 := by
  obtain ⟨h1, h2⟩ := kcos_mem.1 hc
  obtain ⟨r, e⟩ := sngTo_pre (t := t) (n := c.1 + 1) (t.length - (c.1 + 1))
  rw [show c.1 + 1 + (t.length - (c.1 + 1)) = t.length by omega, sngTo, List.append_assoc] at e
  rw [e, pos, psum_append, sngTo_sum]
  have : c.2 = 0 ∨ (c.2 = 1 ∧ gi t c.1 = -2) := by
    unfold knp at h2
    split at h2
    · omega
    · split at h2
      · rename_i e; omega
      · omega
  rcases this with h | ⟨h, h3⟩
  · rw [h]; simp [psum]
  · rw [h, h3]; simp [sPart, psum, gi]; omega
theorem sng_b {t : List Int} (ht : Tn t) : ∀ n i, -128 ≤ gi (sngTo t n) i ∧ gi (sngTo t n) i ≤ 127
  | 0, i => by rw [gi_default (by simp [sngTo])]; exact ⟨by decide, by decide⟩
  | n + 1, i => by
    simp only [sngTo]
    rw [gi_append]
    split
    · exact sng_b ht n i
    · have := ht.b n
      unfold sPart
      generalize i - (sngTo t n).length = j
      split
      · match j with
        | 0 => simp [gi]
        | 1 => simp [gi]
        | j + 2 => rw [gi_default (by simp)]; exact ⟨by decide, by decide⟩
      · match j with
        | 0 => simpa [gi] using this
        | j + 1 => rw [gi_default (by simp)]; exact ⟨by decide, by decide⟩
theorem psum_b8 {s : List Int} (h : ∀ i, -128 ≤ gi s i ∧ gi s i ≤ 127) : ∀ n : Nat, -128 * (n : Int) ≤ psum s n ∧ psum s n ≤ 127 * n
  | 0 => by simp [psum]
  | n + 1 => by
    have := psum_b8 h n
    have := h n
    simp only [psum]
    omega
theorem kR_Rot {t : List Int} (ht : Tn t) {a b : Nat × Nat} (ha : a ∈ kcos t) (hb : b ∈ kcos t) : zj t (rC a) (rC b) = some (rotP t a b) := by
  have hl := ht.l
  have a1 := kcos_mem.1 ha
  have b1 := kcos_mem.1 hb
  have a2 := knp_le (gi t a.1)
  have b2 := knp_le (gi t b.1)
  have first : loopF (zj.s0 t (rC a) (rC b)) big (([] : List Int), 0, 0, 0) = some (sngTo t t.length, (pos t a : Int), (pos t b : Int)) := by
    refine loop_to (fun n : Nat => (sngTo t n, (if a.1 < n then (pos t a : Int) else 0), (if b.1 < n then (pos t b : Int) else 0), (n : Int))) (n := t.length) (big_lt (by omega)) rfl (fun n hn => ?_) ?_
    · have hs := sngTo_len t n
      have e : sngTo t (n + 1) = sngTo t n ++ sPart (gi t n) := rfl
      have key : ∀ c : Nat × Nat, c.2 ≤ 2 → (if decide ((n : Int) = (rC c).At) = true then ck (in64 (((sngTo t n).length : Int) + (rC c).Part)) (some (((sngTo t n).length : Int) + (rC c).Part)) else some (if c.1 < n then (pos t c : Int) else 0)) = some (if c.1 < n + 1 then (pos t c : Int) else 0) := by
        intro c hc
        by_cases h : n = c.1
        · subst h
          rw [Z1 (show ((c.1 : Nat) : Int) = (rC c).At from rfl), zE (by simp only [rC]; omega), if_pos (by omega)]
          simp [rC, pos]
        · rw [Z2 (by simp only [rC]; omega)]
          by_cases h2 : c.1 < n
          · rw [if_pos h2, if_pos (by omega)]
          · rw [if_neg h2, if_neg (by omega)]
      simp only [zj.s0]
      rw [key a (by omega), key b (by omega), e]
      by_cases c : gi t n = -2
      · simp (disch := omega) only [c, sPart, Z0, ckK64, ckK8, Z1, Z2, ZR, ZG, dec_t, dec_f, Option.bind_some, Int.toNat_natCast, List.length_append, List.length_cons, List.length_nil, Nat.zero_add, if_true, if_false, Bool.false_eq_true, Bool.not_true, Bool.not_false, Bool.true_and, Bool.false_and, Bool.and_true, Bool.and_false, Bool.true_or, Bool.false_or, Bool.or_true, Bool.or_false]
        try simp (disch := omega) only [Z0, ckK64, ckK8, Z1, Z2, ZR, ZG, dec_t, dec_f, Option.bind_some, Int.toNat_natCast, List.length_append, List.length_cons, List.length_nil, Nat.zero_add, if_true, if_false, Bool.false_eq_true, Bool.not_true, Bool.not_false, Bool.true_and, Bool.false_and, Bool.and_true, Bool.and_false, Bool.true_or, Bool.false_or, Bool.or_true, Bool.or_false]
        rfl
      · simp (disch := omega) only [c, sPart, Z0, ckK64, ckK8, Z1, Z2, ZR, ZG, dec_t, dec_f, Option.bind_some, Int.toNat_natCast, List.length_append, List.length_cons, List.length_nil, Nat.zero_add, if_true, if_false, Bool.false_eq_true, Bool.not_true, Bool.not_false, Bool.true_and, Bool.false_and, Bool.and_true, Bool.and_false, Bool.true_or, Bool.false_or, Bool.or_true, Bool.or_false]
        try simp (disch := omega) only [Z0, ckK64, ckK8, Z1, Z2, ZR, ZG, dec_t, dec_f, Option.bind_some, Int.toNat_natCast, List.length_append, List.length_cons, List.length_nil, Nat.zero_add, if_true, if_false, Bool.false_eq_true, Bool.not_true, Bool.not_false, Bool.true_and, Bool.false_and, Bool.and_true, Bool.and_false, Bool.true_or, Bool.false_or, Bool.or_true, Bool.or_false]
        rfl
    · simp (disch := omega) only [zj.s0, Z0, ckK64, ckK8, Z1, Z2, ZR, ZG, dec_t, dec_f, Option.bind_some, Int.toNat_natCast, List.length_append, List.length_cons, List.length_nil, Nat.zero_add, if_true, if_false, Bool.false_eq_true, Bool.not_true, Bool.not_false, Bool.true_and, Bool.false_and, Bool.and_true, Bool.and_false, Bool.true_or, Bool.false_or, Bool.or_true, Bool.or_false]
      try simp (disch := omega) only [Z0, ckK64, ckK8, Z1, Z2, ZR, ZG, dec_t, dec_f, Option.bind_some, Int.toNat_natCast, List.length_append, List.length_cons, List.length_nil, Nat.zero_add, if_true, if_false, Bool.false_eq_true, Bool.not_true, Bool.not_false, Bool.true_and, Bool.false_and, Bool.and_true, Bool.and_false, Bool.true_or, Bool.false_or, Bool.or_true, Bool.or_false]
      rw [if_pos a1.1, if_pos b1.1]
  have pa := pos_all ha
  have pb := pos_all hb
  have hL := sngTo_len t t.length
  unfold zj
  rw [first, Option.bind_some]
  dsimp only
  rw [bd_eq (x := rotP t a b)]
  have sa := pos_sum ha
  have sb := pos_sum hb
  have sl := sngTo_sum t t.length
  have bnd := sng_b ht t.length
  have pab : pos t b < pos t a ↔ (b.1 < a.1 ∨ (b.1 = a.1 ∧ b.2 < a.2)) := by
    constructor
    · intro h
      by_cases c : clt b a
      · exact c
      · by_cases c2 : a = b
        · subst c2; omega
        · have : clt a b := by
            unfold clt at *
            rcases Nat.lt_trichotomy a.1 b.1 with h | h | h
            · exact .inl h
            · refine .inr ⟨h, ?_⟩
              rcases Nat.lt_trichotomy a.2 b.2 with h2 | h2 | h2
              · exact h2
              · exact absurd (Prod.ext h h2) c2
              · omega
            · omega
          have := pos_mono ha this
          omega
    · exact fun h => pos_mono hb h
  have hr : rotP t a b = psum (sngTo t t.length) (pos t b) - psum (sngTo t t.length) (pos t a) + if pos t b < pos t a then psum (sngTo t t.length) (sngTo t t.length).length else 0 := by
    unfold rotP
    rw [sa, sb, sl]
    simp only [pab]
  rw [hr]
  generalize pos t a = p at *
  generalize pos t b = q at *
  generalize sngTo t t.length = s at *
  have ps := psum_b8 bnd
  have L0 : s.length ≤ 200 := by omega
  refine loop_to (fun i : Nat => if p + i < s.length then (psum s (p + i) - psum s p, ((p + i : Nat) : Int)) else (psum s s.length - psum s p + psum s (p + i - s.length), ((p + i - s.length : Nat) : Int))) (n := if q < p then s.length - p + q else q - p) (big_lt (by split <;> omega)) (by simp [pa]) (fun i hi => ?_) ?_
  · have b0 := ps p
    have b1 := ps s.length
    by_cases c : p + i < s.length
    · have b2 := ps (p + i)
      have b3 := bnd (p + i)
      have hne : ¬ ((p + i : Nat) : Int) = (q : Int) := by split at hi <;> omega
      rw [if_pos c]
      by_cases c2 : p + (i + 1) < s.length
      · have e : ((p + i : Nat) : Int).toNat = p + i := by omega
        have e2 : (((p + i : Nat) : Int) + 1).tmod (s.length : Int) = ((p + (i + 1) : Nat) : Int) := by
          rw [Int.tmod_eq_of_lt (by omega) (by omega)]; omega
        rw [if_pos c2]
        simp only [zj.s1]
        rw [if_pos (by simpa using hne), Z0 (by omega), zE (by rw [e]; omega), zE (by omega), Z0 (by omega), e, e2]
        have : psum s (p + (i + 1)) = psum s (p + i) + gi s (p + i) := rfl
        rw [show psum s (p + i) - psum s p + gi s (p + i) = psum s (p + (i + 1)) - psum s p by omega]
      · have e : ((p + i : Nat) : Int).toNat = p + i := by omega
        have hL1 : p + i + 1 = s.length := by omega
        have e2 : (((p + i : Nat) : Int) + 1).tmod (s.length : Int) = ((p + (i + 1) - s.length : Nat) : Int) := by
          rw [show ((p + i : Nat) : Int) + 1 = (s.length : Int) by omega, Int.tmod_self]; omega
        rw [if_neg c2]
        simp only [zj.s1]
        rw [if_pos (by simpa using hne), Z0 (by omega), zE (by rw [e]; omega), zE (by omega), Z0 (by omega), e, e2]
        have : psum s s.length = psum s (p + i) + gi s (p + i) := by rw [← hL1]; rfl
        have z : p + (i + 1) - s.length = 0 := by omega
        have z2 : psum s 0 = 0 := rfl
        rw [z, z2, show psum s (p + i) - psum s p + gi s (p + i) = psum s s.length - psum s p + 0 by omega]
    · have hq : q < p := by split at hi <;> omega
      rw [if_pos hq] at hi
      have b2 := ps (p + i - s.length)
      have b3 := bnd (p + i - s.length)
      have hne : ¬ ((p + i - s.length : Nat) : Int) = (q : Int) := by omega
      have e : ((p + i - s.length : Nat) : Int).toNat = p + i - s.length := by omega
      have e2 : (((p + i - s.length : Nat) : Int) + 1).tmod (s.length : Int) = ((p + (i + 1) - s.length : Nat) : Int) := by
        rw [Int.tmod_eq_of_lt (by omega) (by omega)]; omega
      rw [if_neg c, if_neg (show ¬ p + (i + 1) < s.length by omega)]
      simp only [zj.s1]
      rw [if_pos (by simpa using hne), Z0 (by omega), zE (by rw [e]; omega), zE (by omega), Z0 (by omega), e, e2]
      have : psum s (p + (i + 1) - s.length) = psum s (p + i - s.length) + gi s (p + i - s.length) := by
        rw [show p + (i + 1) - s.length = p + i - s.length + 1 by omega]; rfl
      rw [show psum s s.length - psum s p + psum s (p + i - s.length) + gi s (p + i - s.length) = psum s s.length - psum s p + psum s (p + (i + 1) - s.length) by omega]
  · by_cases c : q < p
    · rw [if_pos c, if_neg (by omega)]
      have : p + (s.length - p + q) - s.length = q := by omega
      rw [this, if_pos c, show psum s q - psum s p + psum s s.length = psum s s.length - psum s p + psum s q by omega]
      simp (disch := omega) only [zj.s1, Z0, ckK64, ckK8, Z1, Z2, ZR, ZG, dec_t, dec_f, Option.bind_some, Int.toNat_natCast, List.length_append, List.length_cons, List.length_nil, Nat.zero_add, if_true, if_false, Bool.false_eq_true, Bool.not_true, Bool.not_false, Bool.true_and, Bool.false_and, Bool.and_true, Bool.and_false, Bool.true_or, Bool.false_or, Bool.or_true, Bool.or_false]
      try simp (disch := omega) only [Z0, ckK64, ckK8, Z1, Z2, ZR, ZG, dec_t, dec_f, Option.bind_some, Int.toNat_natCast, List.length_append, List.length_cons, List.length_nil, Nat.zero_add, if_true, if_false, Bool.false_eq_true, Bool.not_true, Bool.not_false, Bool.true_and, Bool.false_and, Bool.and_true, Bool.and_false, Bool.true_or, Bool.false_or, Bool.or_true, Bool.or_false]
      simp
    · rw [if_neg c, if_pos (by omega)]
      have : p + (q - p) = q := by omega
      rw [this, if_neg c, Int.add_zero]
      simp (disch := omega) only [zj.s1, Z0, ckK64, ckK8, Z1, Z2, ZR, ZG, dec_t, dec_f, Option.bind_some, Int.toNat_natCast, List.length_append, List.length_cons, List.length_nil, Nat.zero_add, if_true, if_false, Bool.false_eq_true, Bool.not_true, Bool.not_false, Bool.true_and, Bool.false_and, Bool.and_true, Bool.and_false, Bool.true_or, Bool.false_or, Bool.or_true, Bool.or_false]
      try simp (disch := omega) only [Z0, ckK64, ckK8, Z1, Z2, ZR, ZG, dec_t, dec_f, Option.bind_some, Int.toNat_natCast, List.length_append, List.length_cons, List.length_nil, Nat.zero_add, if_true, if_false, Bool.false_eq_true, Bool.not_true, Bool.not_false, Bool.true_and, Bool.false_and, Bool.and_true, Bool.and_false, Bool.true_or, Bool.false_or, Bool.or_true, Bool.or_false]
      simp
theorem kPairR {t : List Int} (ht : Tn t) : zf t = some (match pairP t with | some (i, k) => (rC (gi (kcos t) i), rC (gi (kcos t) k), true) | none => (⟨0, 0⟩, ⟨0, 0⟩, false)) := by
  have hl := ht.l
  have hcl : (kcos t).length ≤ 200 := by have := kcosTo_length t t.length; unfold kcos; omega
  unfold zf
  rw [kR_Corners ht, Option.bind_some]
  have hml : ((kcos t).map rC).length = (kcos t).length := by simp
  have gr : ∀ {i}, i < (kcos t).length → gi ((kcos t).map rC) i = rC (gi (kcos t) i) := by
    intro i hi
    rw [gi_eq (by simpa using hi), gi_eq hi]; simp
  have inner : ∀ i : Nat, i < (kcos t).length → loopF (zf.s1 t ((kcos t).map rC) i) big 0 = some (match inP t i with | some k => .inr (rC (gi (kcos t) k)) | none => .inl ()) := by
    intro i hi
    unfold inP
    refine loop_find (n := (kcos t).length) (P := fun k => decide (rotP t (gi (kcos t) i) (gi (kcos t) k) = 2)) (f := fun k => rC (gi (kcos t) k)) (big_lt (by omega)) (fun k hk => ?_) ?_
    · have e := kR_Rot ht (gi_mem hi) (gi_mem hk)
      by_cases c : rotP t (gi (kcos t) i) (gi (kcos t) k) = 2
      · have c' : decide (rotP t (gi (kcos t) i) (gi (kcos t) k) = 2) = true := by simpa using c
        rw [c', if_pos rfl]
        simp (disch := omega) only [zf.s1, hml, gr hi, gr hk, e, c, Z0, ckK64, ckK8, Z1, Z2, ZR, ZG, dec_t, dec_f, Option.bind_some, Int.toNat_natCast, List.length_append, List.length_cons, List.length_nil, Nat.zero_add, if_true, if_false, Bool.false_eq_true, Bool.not_true, Bool.not_false, Bool.true_and, Bool.false_and, Bool.and_true, Bool.and_false, Bool.true_or, Bool.false_or, Bool.or_true, Bool.or_false]
        try simp (disch := omega) only [Z0, ckK64, ckK8, Z1, Z2, ZR, ZG, dec_t, dec_f, Option.bind_some, Int.toNat_natCast, List.length_append, List.length_cons, List.length_nil, Nat.zero_add, if_true, if_false, Bool.false_eq_true, Bool.not_true, Bool.not_false, Bool.true_and, Bool.false_and, Bool.and_true, Bool.and_false, Bool.true_or, Bool.false_or, Bool.or_true, Bool.or_false]
      · have c' : decide (rotP t (gi (kcos t) i) (gi (kcos t) k) = 2) = false := by simpa using c
        rw [c', if_neg (by decide)]
        simp (disch := omega) only [zf.s1, hml, gr hi, gr hk, e, Z0, ckK64, ckK8, Z1, Z2, ZR, ZG, dec_t, dec_f, Option.bind_some, Int.toNat_natCast, List.length_append, List.length_cons, List.length_nil, Nat.zero_add, if_true, if_false, Bool.false_eq_true, Bool.not_true, Bool.not_false, Bool.true_and, Bool.false_and, Bool.and_true, Bool.and_false, Bool.true_or, Bool.false_or, Bool.or_true, Bool.or_false]
        try simp (disch := omega) only [Z0, ckK64, ckK8, Z1, Z2, ZR, ZG, dec_t, dec_f, Option.bind_some, Int.toNat_natCast, List.length_append, List.length_cons, List.length_nil, Nat.zero_add, if_true, if_false, Bool.false_eq_true, Bool.not_true, Bool.not_false, Bool.true_and, Bool.false_and, Bool.and_true, Bool.and_false, Bool.true_or, Bool.false_or, Bool.or_true, Bool.or_false]
    · simp (disch := omega) only [zf.s1, hml, Z0, ckK64, ckK8, Z1, Z2, ZR, ZG, dec_t, dec_f, Option.bind_some, Int.toNat_natCast, List.length_append, List.length_cons, List.length_nil, Nat.zero_add, if_true, if_false, Bool.false_eq_true, Bool.not_true, Bool.not_false, Bool.true_and, Bool.false_and, Bool.and_true, Bool.and_false, Bool.true_or, Bool.false_or, Bool.or_true, Bool.or_false]
      try simp (disch := omega) only [Z0, ckK64, ckK8, Z1, Z2, ZR, ZG, dec_t, dec_f, Option.bind_some, Int.toNat_natCast, List.length_append, List.length_cons, List.length_nil, Nat.zero_add, if_true, if_false, Bool.false_eq_true, Bool.not_true, Bool.not_false, Bool.true_and, Bool.false_and, Bool.and_true, Bool.and_false, Bool.true_or, Bool.false_or, Bool.or_true, Bool.or_false]
  have outer : loopF (zf.s0 t ((kcos t).map rC)) big 0 = some (match outP t with | some i => .inr (rC (gi (kcos t) i), match inP t i with | some k => rC (gi (kcos t) k) | none => ⟨0, 0⟩) | none => .inl ()) := by
    unfold outP
    refine loop_find (n := (kcos t).length) (P := fun i => (inP t i).isSome) (f := fun i => (rC (gi (kcos t) i), match inP t i with | some k => rC (gi (kcos t) k) | none => ⟨0, 0⟩)) (big_lt (by omega)) (fun i hi => ?_) ?_
    · have e := inner i hi
      cases h : inP t i with
      | none =>
        rw [h] at e
        simp (disch := omega) only [zf.s0, hml, e, Z0, ckK64, ckK8, Z1, Z2, ZR, ZG, dec_t, dec_f, Option.bind_some, Int.toNat_natCast, List.length_append, List.length_cons, List.length_nil, Nat.zero_add, if_true, if_false, Bool.false_eq_true, Bool.not_true, Bool.not_false, Bool.true_and, Bool.false_and, Bool.and_true, Bool.and_false, Bool.true_or, Bool.false_or, Bool.or_true, Bool.or_false]
        try simp (disch := omega) only [Z0, ckK64, ckK8, Z1, Z2, ZR, ZG, dec_t, dec_f, Option.bind_some, Int.toNat_natCast, List.length_append, List.length_cons, List.length_nil, Nat.zero_add, if_true, if_false, Bool.false_eq_true, Bool.not_true, Bool.not_false, Bool.true_and, Bool.false_and, Bool.and_true, Bool.and_false, Bool.true_or, Bool.false_or, Bool.or_true, Bool.or_false]
        rfl
      | some k =>
        rw [h] at e
        simp (disch := omega) only [zf.s0, hml, e, gr hi, Z0, ckK64, ckK8, Z1, Z2, ZR, ZG, dec_t, dec_f, Option.bind_some, Int.toNat_natCast, List.length_append, List.length_cons, List.length_nil, Nat.zero_add, if_true, if_false, Bool.false_eq_true, Bool.not_true, Bool.not_false, Bool.true_and, Bool.false_and, Bool.and_true, Bool.and_false, Bool.true_or, Bool.false_or, Bool.or_true, Bool.or_false]
        try simp (disch := omega) only [Z0, ckK64, ckK8, Z1, Z2, ZR, ZG, dec_t, dec_f, Option.bind_some, Int.toNat_natCast, List.length_append, List.length_cons, List.length_nil, Nat.zero_add, if_true, if_false, Bool.false_eq_true, Bool.not_true, Bool.not_false, Bool.true_and, Bool.false_and, Bool.and_true, Bool.and_false, Bool.true_or, Bool.false_or, Bool.or_true, Bool.or_false]
        rfl
    · simp (disch := omega) only [zf.s0, hml, Z0, ckK64, ckK8, Z1, Z2, ZR, ZG, dec_t, dec_f, Option.bind_some, Int.toNat_natCast, List.length_append, List.length_cons, List.length_nil, Nat.zero_add, if_true, if_false, Bool.false_eq_true, Bool.not_true, Bool.not_false, Bool.true_and, Bool.false_and, Bool.and_true, Bool.and_false, Bool.true_or, Bool.false_or, Bool.or_true, Bool.or_false]
      try simp (disch := omega) only [Z0, ckK64, ckK8, Z1, Z2, ZR, ZG, dec_t, dec_f, Option.bind_some, Int.toNat_natCast, List.length_append, List.length_cons, List.length_nil, Nat.zero_add, if_true, if_false, Bool.false_eq_true, Bool.not_true, Bool.not_false, Bool.true_and, Bool.false_and, Bool.and_true, Bool.and_false, Bool.true_or, Bool.false_or, Bool.or_true, Bool.or_false]
  rw [outer]
  simp only [Option.bind_some]
  unfold pairP
  cases ho : outP t with
  | none => rfl
  | some i =>
    have := ho
    unfold outP at this
    rw [List.find?_range_eq_some] at this
    cases hi : inP t i with
    | none => rw [hi] at this; exact absurd this.1 (by simp)
    | some k => simp [hi]
end Mu
/- Layer 15: KittyRegular. -/
set_option linter.unusedVariables false
set_option linter.unusedSimpArgs false
set_option maxRecDepth 10000
namespace Mu
theorem kKittyWakes : Zav = some true := by decide +kernel
theorem tns_Tn {l : List Zk} {f : List Da} (h : f.length ≤ 100) : Tn (tns l f) := ⟨by rw [tns_len]; exact h, fun i => by have := tns_rng (l := l) (f := f) i; omega⟩
/-- Do corners of a face look at one another? -/
def looksF (l : List Zk) (i : Nat) : Bool := (pairP (tns l (gi (faces l) i))).isSome
theorem mRegular {l : List Zk} (hl : l.length ≤ 16) : zT l = some (if vErr l = 0 then (!(List.range (faces l).length).any (looksF l), 0) else (false, vErr l)) := by
  unfold zT
  rw [mVCheck (by omega), Option.bind_some]
  by_cases e : vErr l = 0
  · rw [ZG e, if_pos e]
    obtain ⟨k, w, _⟩ := vErr_ok e
    have hc := (Ck_iff.1 k).2
    obtain ⟨o1, o2, o3, _⟩ := faces_ok hc
    rw [mFaces (by omega) k, Option.bind_some]
    dsimp only
    have L : loopF (zT.s0 l ((faces l).map (List.map dt))) big 0 = some (match (List.range (faces l).length).find? (looksF l) with | some i => .inr () | none => .inl ()) := by
      refine loop_find (n := (faces l).length) (P := looksF l) (f := fun i => ()) (big_lt (by omega)) (fun i hi => ?_) ?_
      · have hm := gi_mem hi
        have fl := o3 _ hm
        simp only [zT.s0, Int.toNat_natCast]
        rw [Z1 (by simp; omega), Z0 (by simp; omega), gi_map hi, mTurns (by omega) k (o1 _ hm) (by omega), Option.bind_some, kPair (tns_Tn (by omega)) (fun i => tns_rng i), Option.bind_some]
        unfold looksF
        cases pairP (tns l (gi (faces l) i)) with
        | none => dsimp only; rw [if_neg (by decide), zE (by omega)]; rfl
        | some q => rfl
      · simp only [zT.s0]
        rw [Z2 (by simp)]
    rw [L, Option.bind_some, any_find]
    cases (List.range (faces l).length).find? (looksF l) <;> rfl
  · rw [ZR e, if_neg e]
theorem KittyRegular_main (z : zn) (raw : List Zk) (m1 : z.At.length ≤ Go.maxLen) (b1 : ∀ y ∈ z.At, ZaO y) (m2 : z.Bits.length ≤ Go.maxLen) (b2 : ∀ y ∈ z.Bits, ZaO y) (m3 : z.Own.length ≤ Go.maxLen) (b3 : ∀ y ∈ z.Own, ZaS y) (mr : raw.length ≤ Go.maxLen) (br : ∀ y ∈ raw, ZaK y) : ZK z raw = some true := by
  obtain ⟨l, pts, e1, hM, hlen⟩ := mMake (z := z) (most := 16) (okZ m1 b1 b3) (by omega)
  unfold ZK
  rw [e1, Option.bind_some]
  dsimp only
  rw [Z0 (by omega)]
  have hr : (raw.take (min (raw.length : Int) 4).toNat).length ≤ 16 := by rw [List.length_take]; omega
  have L : loopF (ZK.s0 raw l) big 0 = some (.inl ()) := by
    refine loop_to (fun n : Nat => (n : Int)) (n := 2) (big_lt (by omega)) rfl (fun n hn => ?_) ?_
    · have hx : (gi [l, raw.take (min (raw.length : Int) 4).toNat] n).length ≤ 16 := by
        match n, hn with
        | 0, _ => show l.length ≤ 16; omega
        | 1, _ => exact hr
      have S1 : ∀ o, ZK.s1 raw l (n : Int) o = ZK.s1 raw l (n : Int) o := fun _ => rfl
      simp only [ZK.s0, Int.toNat_natCast]
      obtain ⟨x, ex⟩ : ∃ x, gi [l, raw.take (min (raw.length : Int) 4).toNat] n = x := ⟨_, rfl⟩
      rw [ex] at hx ⊢
      rw [Z1 (by simp; omega), Z0 (by simp; omega), mRegular hx, Option.bind_some]
      by_cases e : vErr x = 0
      · obtain ⟨k, w, _⟩ := vErr_ok e
        have hc := (Ck_iff.1 k).2
        obtain ⟨o1, o2, o3, _⟩ := faces_ok hc
        rw [if_pos e]
        dsimp only
        rw [rOuter (by omega), Option.bind_some]
        dsimp only
        rw [ZG e.symm, Z1 e, rFaces (by omega) k, Option.bind_some, dec_t e]
        have W : loopF (ZK.s1 raw l (n : Int) ((faces x).map (List.map rt))) big (true, 0) = some (!(List.range (faces x).length).any (looksF x)) := by
          refine loop_to (fun k : Nat => (!(List.range k).any (looksF x), (k : Int))) (n := (faces x).length) (big_lt (by omega)) rfl (fun i hi => ?_) ?_
          · have hm := gi_mem hi
            have fl := o3 _ hm
            simp only [ZK.s1, Int.toNat_natCast, ex]
            rw [Z1 (by simp; omega), Z0 (by simp; omega), gi_map hi, rTurns (by omega) k (o1 _ hm) (by omega), Option.bind_some, kPairR (tns_Tn (by omega)), Option.bind_some, List.range_succ, List.any_append]
            have q : looksF x i = (pairP (tns x (gi (faces x) i))).isSome := rfl
            simp only [List.any_cons, List.any_nil, Bool.or_false, q]
            cases pairP (tns x (gi (faces x) i)) with
            | none => dsimp only; rw [if_neg (by decide), zE (by omega), show ((i + 1 : Nat) : Int) = (i : Int) + 1 by omega]; simp
            | some q => dsimp only; rw [if_pos rfl, zE (by omega), show ((i + 1 : Nat) : Int) = (i : Int) + 1 by omega]; simp
          · simp only [ZK.s1]
            rw [Z2 (by simp)]
        rw [W, Option.bind_some, ZG rfl, zE (by omega), show ((n + 1 : Nat) : Int) = (n : Int) + 1 by omega]
      · rw [if_neg e]
        dsimp only
        rw [rOuter (by omega), Option.bind_some]
        dsimp only
        rw [ZG rfl, Z2 e, dec_f e, ZG rfl, zE (by omega), show ((n + 1 : Nat) : Int) = (n : Int) + 1 by omega]
    · simp only [ZK.s0]
      rw [Z2 (by simp)]
  rw [L, Option.bind_some]
  dsimp only
  rw [kKittyWakes, Option.bind_some]
end Mu
