/- Layer 10: crossed, with, make. -/
import Derived.Test.YtofdeafffbkgbaaMuM10
set_option linter.unusedVariables false
set_option linter.unusedSimpArgs false
set_option maxRecDepth 10000
namespace Mu

theorem ckI64 {α : Type} {x : Int} {o : Option α} (h : -9223372036854775808 ≤ x ∧ x ≤ 9223372036854775807) : ck (in64 x) o = o := ck_pos h
/-- Does the edge from a in direction d cross the line from i to w? -/
def crossE (at_ : List T_api_Point) (l : List T_api_Cell) (i w a d : Nat) : Bool :=
  let p := gi at_ a
  let q := gi at_ (nx l a d).toNat
  let s := gi at_ i
  let t := gi at_ w
  decide (0 ≤ nx l a d) && ((decide (p.Y = q.Y) && decide (s.X = t.X) && decide (p.X < s.X) && decide (s.X < q.X) && decide (s.Y < p.Y) && decide (p.Y < t.Y)) || (decide (p.X = q.X) && decide (s.Y = t.Y) && decide (s.X < p.X) && decide (p.X < t.X) && decide (p.Y < s.Y) && decide (s.Y < q.Y)))
theorem and_if {a : Bool} {b : Bool} : (if a = true then some b else some false) = some (a && b) := by cases a <;> rfl
theorem mCross1 {at_ : List T_api_Point} {l : List T_api_Cell} {i w a d : Nat} (hl : at_.length = l.length) (hi : i < l.length) (hw : w < l.length) (ha : a < l.length) (hd : d < 2) (hn : nx l a d < l.length) : p_muntinref10_Crossed.s1 at_ l i w a d = some (if crossE at_ l i w a d = true then .inr (.inr ()) else .inl ((d : Int) + 1)) := by
  unfold p_muntinref10_Crossed.s1
  rw [ifd_pos (by omega), ck_pos (by omega), ck_pos (by omega), Int.toNat_natCast]
  have e : ((gi l a).Next).get (d : Int) = nx l a d := rfl
  rw [e]
  unfold crossE
  by_cases h0 : nx l a d < 0
  · rw [ifd_pos h0, ckI64 (by omega), dec_f (show ¬ 0 ≤ nx l a d by omega)]
    simp
  · rw [ifd_neg h0, ck_pos (by omega), ck_pos (by omega), dec_t (show 0 ≤ nx l a d by omega)]
    have k1 : ∀ (α : Type) (o : Option α), ck ((0 : Int) ≤ (i : Int) ∧ (i : Int) < (at_.length : Int)) o = o := fun _ _ => ck_pos (by omega)
    have k2 : ∀ (α : Type) (o : Option α), ck ((0 : Int) ≤ (w : Int) ∧ (w : Int) < (at_.length : Int)) o = o := fun _ _ => ck_pos (by omega)
    have k3 : ∀ (α : Type) (o : Option α), ck (in64 ((d : Int) + 1)) o = o := fun _ _ => ckI64 (by omega)
    simp only [k1, k2, k3, Int.toNat_natCast, Option.bind_some, and_if, Bool.true_and]
    generalize (decide ((gi at_ a).Y = (gi at_ (nx l a d).toNat).Y) && decide ((gi at_ i).X = (gi at_ w).X) && decide ((gi at_ a).X < (gi at_ i).X) && decide ((gi at_ i).X < (gi at_ (nx l a d).toNat).X) && decide ((gi at_ i).Y < (gi at_ a).Y) && decide ((gi at_ a).Y < (gi at_ w).Y)) = A
    generalize (decide ((gi at_ a).X = (gi at_ (nx l a d).toNat).X) && decide ((gi at_ i).Y = (gi at_ w).Y) && decide ((gi at_ i).X < (gi at_ a).X) && decide ((gi at_ a).X < (gi at_ w).X) && decide ((gi at_ a).Y < (gi at_ i).Y) && decide ((gi at_ i).Y < (gi at_ (nx l a d).toNat).Y)) = B
    cases A <;> cases B <;> rfl
def crossA (at_ : List T_api_Point) (l : List T_api_Cell) (i w a : Nat) : Bool := crossE at_ l i w a 0 || crossE at_ l i w a 1
def crossP (at_ : List T_api_Point) (l : List T_api_Cell) (i w : Nat) : Bool := (List.range l.length).any fun a => crossA at_ l i w a
theorem mCrossA {at_ : List T_api_Point} {l : List T_api_Cell} {i w a : Nat} (hl : at_.length = l.length) (hi : i < l.length) (hw : w < l.length) (hn : ∀ a d, a < l.length → d < 2 → nx l a d < l.length) (ha : a < l.length) : loopF (p_muntinref10_Crossed.s1 at_ l i w a) big 0 = some (if crossA at_ l i w a = true then .inr () else .inl ()) := by
  have h : loopF (p_muntinref10_Crossed.s1 at_ l i w a) big 0 = some (match (List.range 2).find? (fun d => crossE at_ l i w a d) with | some i => .inr ((fun _ => ()) i) | none => .inl ()) := by
    refine loop_find (big_lt (by omega)) (fun d hd => ?_) ?_
    · exact mCross1 hl hi hw ha hd (hn a d ha hd)
    · simp only [p_muntinref10_Crossed.s1]
      rw [ifd_neg (by omega)]
  rw [h]
  have e : (List.range 2).find? (fun d => crossE at_ l i w a d) = if crossE at_ l i w a 0 = true then some 0 else if crossE at_ l i w a 1 = true then some 1 else none := by
    have : List.range 2 = [0, 1] := by decide
    rw [this]
    cases c0 : crossE at_ l i w a 0 <;> cases c1 : crossE at_ l i w a 1 <;> simp [c0, c1]
  rw [e]
  unfold crossA
  cases c0 : crossE at_ l i w a 0 <;> cases c1 : crossE at_ l i w a 1 <;> simp
theorem mCross0 {at_ : List T_api_Point} {l : List T_api_Cell} {i w a : Nat} (hl : at_.length = l.length) (h1000 : l.length ≤ 1000) (hi : i < l.length) (hw : w < l.length) (hn : ∀ a d, a < l.length → d < 2 → nx l a d < l.length) (ha : a < l.length) : p_muntinref10_Crossed.s0 at_ l i w a = some (if crossA at_ l i w a = true then .inr (.inr ()) else .inl ((a : Int) + 1)) := by
  simp only [p_muntinref10_Crossed.s0]
  rw [ifd_pos (by omega), mCrossA hl hi hw hn ha, Option.bind_some]
  by_cases c : crossA at_ l i w a = true
  · rw [if_pos c, if_pos c]
  · rw [if_neg c, if_neg c]
    dsimp only
    rw [ckI64 (by omega)]
theorem mCrossN {at_ : List T_api_Point} {l : List T_api_Cell} {i w : Nat} : p_muntinref10_Crossed.s0 at_ l i w l.length = some (.inr (.inl ())) := by
  simp only [p_muntinref10_Crossed.s0]
  rw [ifd_neg (by omega)]
theorem any_find {n : Nat} {P : Nat → Bool} : ((List.range n).any P) = ((List.range n).find? P).isSome := by
  rw [Bool.eq_iff_iff, List.find?_isSome, List.any_eq_true]
theorem mCrossL {at_ : List T_api_Point} {l : List T_api_Cell} {i w : Nat} (hl : at_.length = l.length) (h1000 : l.length ≤ 1000) (hi : i < l.length) (hw : w < l.length) (hn : ∀ a d, a < l.length → d < 2 → nx l a d < l.length) : loopF (p_muntinref10_Crossed.s0 at_ l i w) big 0 = some (match (List.range l.length).find? (fun a => crossA at_ l i w a) with | some i => .inr ((fun _ => ()) i) | none => .inl ()) :=
  loop_find (big_lt (by omega)) (fun a ha => mCross0 hl h1000 hi hw hn ha) mCrossN
theorem mCrossed {at_ : List T_api_Point} {l : List T_api_Cell} {i w : Nat} (hl : at_.length = l.length) (h1000 : l.length ≤ 1000) (hi : i < l.length) (hw : w < l.length) (hn : ∀ a d, a < l.length → d < 2 → nx l a d < l.length) : p_muntinref10_Crossed at_ l i w = some (crossP at_ l i w) := by
  have h0 := mCrossL hl h1000 hi hw hn
  unfold p_muntinref10_Crossed
  rw [h0]
  unfold crossP
  rw [any_find]
  cases h : (List.range l.length).find? fun a => crossA at_ l i w a with
  | none => simp
  | some j => simp

/-! with -/
def wC1 (c : T_api_Cell) (d w o : Int) : T_api_Cell := ⟨c.Next.set d w, c.Owner.set d o⟩
def wC (l : List T_api_Cell) (v d w o : Int) (i : Nat) : T_api_Cell :=
  let c := if (i : Int) = v then wC1 (gi l i) d w o else gi l i
  if (i : Int) = w then wC1 c ((d + 2).tmod 4) v o else c
def wth (l : List T_api_Cell) (v d w o : Int) : List T_api_Cell := (List.range l.length).map (wC l v d w o)
theorem wth_length {l : List T_api_Cell} {v d w o : Int} : (wth l v d w o).length = l.length := by simp [wth]
theorem mWith {l : List T_api_Cell} {v d w o : Int} (hl : l.length ≤ 100000) (hd : 0 ≤ d ∧ d < 4) : p_muntinref10_with l v d w o = some (wth l v d w o) := by
  unfold p_muntinref10_with
  rw [bd_eq (x := wth l v d w o)]
  refine loop_to (fun n : Nat => ((List.range n).map (wC l v d w o), (n : Int))) (n := l.length) (big_lt (by omega)) rfl (fun n hn => ?_) ?_
  · have hm : ((List.range n).map (wC l v d w o)).length = n := by simp
    have t := Int.tmod_nonneg 4 (show (0 : Int) ≤ d + 2 by omega)
    have t2 := Int.tmod_lt_of_pos (d + 2) (show (0 : Int) < 4 by omega)
    rw [List.range_succ, List.map_append, List.map_cons, List.map_nil]
    simp only [p_muntinref10_with.s0]
    rw [ifd_pos (by omega), ck_pos (by omega), Int.toNat_natCast]
    unfold wC
    by_cases c1 : (n : Int) = v
    · rw [ifd_pos c1, ck_pos hd, Option.bind_some]
      by_cases c2 : (n : Int) = w
      · rw [ifd_pos c2, ckI64 (by omega), ck_pos (by omega), ck_pos (by simp; omega), ckI64 (by omega), if_pos c1, if_pos c2]
        rfl
      · rw [ifd_neg c2, ck_pos (by simp; omega), ckI64 (by omega), if_pos c1, if_neg c2]
        rfl
    · rw [ifd_neg c1, Option.bind_some]
      by_cases c2 : (n : Int) = w
      · rw [ifd_pos c2, ckI64 (by omega), ck_pos (by omega), ck_pos (by simp; omega), ckI64 (by omega), if_neg c1, if_pos c2]
        rfl
      · rw [ifd_neg c2, ck_pos (by simp; omega), ckI64 (by omega), if_neg c1, if_neg c2]
        rfl
  · simp only [p_muntinref10_with.s0]
    rw [ifd_neg (by omega)]
    rfl
/-- An edge from v to w in direction d, as it is read. -/
theorem nx_wth {l : List T_api_Cell} {v w d i e : Nat} {o : Int} (hv : v < l.length) (hw : w < l.length) (hvw : v ≠ w) (hd : d < 4) (hi : i < l.length) (he : e < 4) : nx (wth l v d w o) i e = (if i = v ∧ e = d then (w : Int) else if i = w ∧ e = (d + 2) % 4 then (v : Int) else nx l i e) ∧ ow (wth l v d w o) i e = (if i = v ∧ e = d then o else if i = w ∧ e = (d + 2) % 4 then o else ow l i e) := by
  have hb : (((d : Int) + 2).tmod 4) = (((d + 2) % 4 : Nat) : Int) := by
    match d, hd with
    | 0, _ | 1, _ | 2, _ | 3, _ => rfl
  have g : gi (wth l v d w o) i = wC l v d w o i := gi_map_range hi
  unfold nx ow
  rw [g]
  unfold wC
  rw [hb]
  by_cases c1 : i = v
  · subst c1
    rw [if_pos rfl, if_neg (show ¬ ((i : Nat) : Int) = (w : Int) by omega)]
    simp only [wC1]
    rw [A4_get_set hd he, A4_get_set hd he]
    have : ¬ (i = w) := hvw
    simp [this]
  · rw [if_neg (show ¬ ((i : Nat) : Int) = (v : Int) by omega)]
    by_cases c2 : i = w
    · subst c2
      rw [if_pos rfl]
      simp only [wC1]
      rw [A4_get_set (by omega) he, A4_get_set (by omega) he]
      simp [c1]
    · rw [if_neg (show ¬ ((i : Nat) : Int) = (w : Int) by omega)]
      simp [c1, c2]

/-! What may be. -/
structure Ck (l : List T_api_Cell) : Prop where
  s : ∀ v d, v < l.length → d < 4 → (nx l v d = -1 ∧ ow l v d = 0) ∨ ∃ w : Nat, nx l v d = w ∧ w < l.length ∧ w ≠ v ∧ nx l w ((d + 2) % 4) = v ∧ ow l w ((d + 2) % 4) = ow l v d ∧ -2 ≤ ow l v d
theorem Ck.new (n : Nat) : Ck (List.replicate n noC) := ⟨fun v d hv hd => .inl (by
  have : gi (List.replicate n noC) v = noC := by rw [gi_eq hv]; simp
  unfold nx ow; rw [this]
  match d, hd with
  | 0, _ | 1, _ | 2, _ | 3, _ => exact ⟨rfl, rfl⟩)⟩
theorem Ck.wth {l : List T_api_Cell} (h : Ck l) {v w d : Nat} {o : Int} (hv : v < l.length) (hw : w < l.length) (hvw : v ≠ w) (hd : d < 4) (h1 : nx l v d = -1) (h2 : nx l w ((d + 2) % 4) = -1) (ho : -2 ≤ o) : Ck (wth l v d w o) := by
  refine ⟨fun i e hi he => ?_⟩
  rw [wth_length] at hi ⊢
  have n1 := fun i e hi he => (nx_wth (o := o) hv hw hvw hd (i := i) (e := e) hi he).1
  have n2 := fun i e hi he => (nx_wth (o := o) hv hw hvw hd (i := i) (e := e) hi he).2
  rw [n1 i e hi he, n2 i e hi he]
  by_cases c1 : i = v ∧ e = d
  · rw [if_pos c1, if_pos c1]
    refine .inr ⟨w, rfl, hw, by omega, ?_, ?_, ho⟩
    · rw [n1 w _ hw (by omega), if_neg (by omega), if_pos ⟨rfl, by rw [c1.2]⟩, c1.1]
    · rw [n2 w _ hw (by omega), if_neg (by omega), if_pos ⟨rfl, by rw [c1.2]⟩]
  · rw [if_neg c1, if_neg c1]
    by_cases c2 : i = w ∧ e = (d + 2) % 4
    · rw [if_pos c2, if_pos c2]
      refine .inr ⟨v, rfl, hv, by omega, ?_, ?_, ho⟩
      · rw [n1 v _ hv (by omega), if_pos ⟨rfl, by omega⟩, c2.1]
      · rw [n2 v _ hv (by omega), if_pos ⟨rfl, by omega⟩]
    · rw [if_neg c2, if_neg c2]
      rcases h.s i e hi he with hh | ⟨x, x1, x2, x3, x4, x5, x6⟩
      · exact .inl hh
      · refine .inr ⟨x, x1, x2, x3, ?_, ?_, x6⟩
        · rw [n1 x _ x2 (by omega)]
          rw [if_neg (fun c => by
            have : nx l x ((e + 2) % 4) = -1 := by rw [c.1, c.2]; exact h1
            omega)]
          rw [if_neg (fun c => by
            have : nx l x ((e + 2) % 4) = -1 := by rw [c.1, c.2]; exact h2
            omega)]
          exact x4
        · rw [n2 x _ x2 (by omega)]
          rw [if_neg (fun c => by
            have : nx l x ((e + 2) % 4) = -1 := by rw [c.1, c.2]; exact h1
            omega)]
          rw [if_neg (fun c => by
            have : nx l x ((e + 2) % 4) = -1 := by rw [c.1, c.2]; exact h2
            omega)]
          exact x5
end Mu
