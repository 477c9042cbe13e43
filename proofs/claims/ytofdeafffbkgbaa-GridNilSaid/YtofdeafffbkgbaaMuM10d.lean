/- Layer 10: check. -/
import Derived.Test.YtofdeafffbkgbaaMuM10c
set_option linter.unusedVariables false
set_option linter.unusedSimpArgs false
set_option maxRecDepth 10000
namespace Mu

def sideP (l : List T_api_Cell) (v d : Nat) : Int :=
  if nx l v d = -1 then (if ow l v d = 0 then 0 else 9)
  else if nx l v d < 0 ∨ (l.length : Int) ≤ nx l v d ∨ nx l v d = v then 3
  else if nx l (nx l v d).toNat ((d + 2) % 4) = v ∧ ow l (nx l v d).toNat ((d + 2) % 4) = ow l v d ∧ ¬ ow l v d < -2 then 0 else 9
theorem mLeft {d : Nat} (hd : d < 4) : p_compass_Left d 2 = some (((d + 2) % 4 : Nat) : Int) := by
  match d, hd with
  | 0, _ | 1, _ | 2, _ | 3, _ => decide
theorem tm2 {d : Nat} (hd : d < 4) : ((d : Int) + 2).tmod 4 = (((d + 2) % 4 : Nat) : Int) := by
  match d, hd with
  | 0, _ | 1, _ | 2, _ | 3, _ => rfl
theorem mSide {l : List T_api_Cell} {v d : Nat} (hv : v < l.length) (hd : d < 4) : p_grid_side l v d = some (sideP l v d) := by
  unfold p_grid_side sideP
  have e : ((gi l v).Next).get (d : Int) = nx l v d := rfl
  have e2 : ((gi l v).Owner).get (d : Int) = ow l v d := rfl
  rw [ck_pos (by omega), ck_pos (by omega), Int.toNat_natCast, e, e2]
  by_cases c : nx l v d = -1
  · rw [ifd_pos c, if_pos c]
    by_cases c2 : ow l v d = 0
    · rw [ifn_neg c2, if_pos c2]
    · rw [ifn_pos c2, if_neg c2]
  · rw [ifd_neg c, if_neg c]
    by_cases c2 : nx l v d < 0 ∨ (l.length : Int) ≤ nx l v d ∨ nx l v d = v
    · rw [if_pos c2, if_pos (by simpa [or_assoc] using c2)]
    · rw [if_neg c2, if_neg (by simpa [or_assoc] using c2), mLeft hd, Option.bind_some, ck_pos (by omega), ck_pos (by omega)]
      have e3 : ((gi l (nx l v d).toNat).Next).get (((d + 2) % 4 : Nat) : Int) = nx l (nx l v d).toNat ((d + 2) % 4) := rfl
      have e4 : ((gi l (nx l v d).toNat).Owner).get (((d + 2) % 4 : Nat) : Int) = ow l (nx l v d).toNat ((d + 2) % 4) := rfl
      rw [e3, e4]
      by_cases q1 : nx l (nx l v d).toNat ((d + 2) % 4) = v <;> by_cases q2 : ow l (nx l v d).toNat ((d + 2) % 4) = ow l v d <;> by_cases q3 : ow l v d < -2 <;> simp [q1, q2, q3]
def rowP (l : List T_api_Cell) (v : Nat) : Int := match (List.range 4).find? (fun d => decide (sideP l v d ≠ 0)) with | some d => sideP l v d | none => 0
def chkP (l : List T_api_Cell) : Int := if 4096 < l.length then 6 else match (List.range l.length).find? (fun v => decide (rowP l v ≠ 0)) with | some v => rowP l v | none => 0
theorem find_none {n : Nat} {f : Nat → Int} : (match (List.range n).find? (fun d => decide (f d ≠ 0)) with | some d => f d | none => 0) = 0 ↔ ∀ d, d < n → f d = 0 := by
  cases h : (List.range n).find? (fun d => decide (f d ≠ 0)) with
  | none =>
    rw [List.find?_range_eq_none] at h
    simp only [true_iff]
    intro d hd
    have := h d hd
    simpa using this
  | some j =>
    rw [List.find?_range_eq_some] at h
    have h1 : f j ≠ 0 := by simpa using h.1
    have h2 : j < n := by simpa using h.2.1
    constructor
    · intro h3; exact absurd h3 h1
    · intro h3; exact h3 j h2
theorem rowP_zero {l : List T_api_Cell} {v : Nat} : rowP l v = 0 ↔ ∀ d, d < 4 → sideP l v d = 0 := find_none
theorem chkP_zero {l : List T_api_Cell} : chkP l = 0 ↔ l.length ≤ 4096 ∧ ∀ v, v < l.length → ∀ d, d < 4 → sideP l v d = 0 := by
  unfold chkP
  by_cases c : 4096 < l.length
  · rw [if_pos c]; constructor
    · intro h; omega
    · intro h; omega
  · rw [if_neg c, find_none]
    constructor
    · intro h; exact ⟨by omega, fun v hv => rowP_zero.1 (h v hv)⟩
    · intro h v hv; exact rowP_zero.2 (h.2 v hv)
theorem sideP_zero {l : List T_api_Cell} {v d : Nat} : sideP l v d = 0 ↔ (nx l v d = -1 ∧ ow l v d = 0) ∨ ∃ w : Nat, nx l v d = w ∧ w < l.length ∧ w ≠ v ∧ nx l w ((d + 2) % 4) = v ∧ ow l w ((d + 2) % 4) = ow l v d ∧ -2 ≤ ow l v d := by
  unfold sideP
  by_cases c : nx l v d = -1
  · rw [if_pos c]
    by_cases c2 : ow l v d = 0
    · simp [c, c2]
    · rw [if_neg c2]
      constructor
      · intro h; omega
      · rintro (⟨_, h⟩ | ⟨w, h, _⟩)
        · exact absurd h c2
        · omega
  · rw [if_neg c]
    by_cases c2 : nx l v d < 0 ∨ (l.length : Int) ≤ nx l v d ∨ nx l v d = v
    · rw [if_pos c2]
      constructor
      · intro h; omega
      · rintro (⟨h, _⟩ | ⟨w, h, h1, h2, _⟩)
        · exact absurd h c
        · omega
    · rw [if_neg c2]
      constructor
      · intro h
        split at h
        · rename_i q
          exact .inr ⟨(nx l v d).toNat, by omega, by omega, by omega, q.1, q.2.1, by omega⟩
        · omega
      · rintro (⟨h, _⟩ | ⟨w, h, h1, h2, h3, h4, h5⟩)
        · exact absurd h c
        · have : (nx l v d).toNat = w := by omega
          rw [this, if_pos ⟨h3, h4, by omega⟩]
theorem Ck_iff {l : List T_api_Cell} : chkP l = 0 ↔ l.length ≤ 4096 ∧ Ck l := by
  rw [chkP_zero]
  constructor
  · intro h; exact ⟨h.1, ⟨fun v d hv hd => sideP_zero.1 (h.2 v hv d hd)⟩⟩
  · intro h; exact ⟨h.1, fun v hv d hd => sideP_zero.2 (h.2.s v d hv hd)⟩
theorem find_out {n : Nat} {f : Nat → Int} : ((match (List.range n).find? (fun d => decide (f d ≠ 0)) with | some d => (.inr (f d) : Unit ⊕ Int) | none => .inl ())) = if (match (List.range n).find? (fun d => decide (f d ≠ 0)) with | some d => f d | none => 0) = 0 then .inl () else .inr (match (List.range n).find? (fun d => decide (f d ≠ 0)) with | some d => f d | none => 0) := by
  cases h : (List.range n).find? (fun d => decide (f d ≠ 0)) with
  | none => simp
  | some j =>
    rw [List.find?_range_eq_some] at h
    have h1 : f j ≠ 0 := by simpa using h.1
    rw [if_neg h1]
theorem mRow {l : List T_api_Cell} {v : Nat} (hv : v < l.length) : loopF (p_grid_Check.s1 l v) big 0 = some (if rowP l v = 0 then .inl () else .inr (rowP l v)) := by
  have h : loopF (p_grid_Check.s1 l v) big 0 = some (match (List.range 4).find? (fun d => decide (sideP l v d ≠ 0)) with | some d => .inr (sideP l v d) | none => .inl ()) := by
    refine loop_find (big_lt (by omega)) (fun d hd => ?_) ?_
    · simp only [p_grid_Check.s1]
      rw [ifd_pos (by omega), mSide hv hd, Option.bind_some]
      by_cases c : sideP l v d = 0
      · rw [ifn_neg c, if_neg (by simpa using c), ckI64 (by omega)]
      · rw [ifn_pos c, if_pos (by simpa using c)]
    · simp only [p_grid_Check.s1]
      rw [ifd_neg (by omega)]
  rw [h, find_out]; rfl
theorem mCheck {l : List T_api_Cell} (hl : l.length ≤ 1000000000000) : p_grid_Check l = some (chkP l) := by
  unfold p_grid_Check chkP
  by_cases c : 4096 < l.length
  · rw [if_pos c, ifd_pos (by omega)]
  · rw [if_neg c, ifd_neg (by omega)]
    have h : loopF (p_grid_Check.s0 l) big 0 = some (match (List.range l.length).find? (fun v => decide (rowP l v ≠ 0)) with | some v => .inr (rowP l v) | none => .inl ()) := by
      refine loop_find (big_lt (by omega)) (fun v hv => ?_) ?_
      · simp only [p_grid_Check.s0]
        rw [ifd_pos (by omega), mRow hv, Option.bind_some]
        by_cases c : rowP l v = 0
        · rw [if_pos c, if_neg (by simpa using c)]
          dsimp only
          rw [ckI64 (by omega)]
        · rw [if_neg c, if_pos (by simpa using c)]
      · simp only [p_grid_Check.s0]
        rw [ifd_neg (by omega)]
    rw [h]
    cases (List.range l.length).find? (fun v => decide (rowP l v ≠ 0)) <;> simp
end Mu
