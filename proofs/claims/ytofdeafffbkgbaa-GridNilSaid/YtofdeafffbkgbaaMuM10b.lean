/- Layer 10: crossed, with, make. -/
import Derived.Test.YtofdeafffbkgbaaMuM10
set_option linter.unusedVariables false
set_option linter.unusedSimpArgs false
set_option maxRecDepth 10000
namespace Mu

theorem ckI64 {α : Type} {x : Int} {o : Option α} (h : -9223372036854775808 ≤ x ∧ x ≤ 9223372036854775807) : ck (in64 x) o = o := ck_pos h
theorem and_if {a : Bool} {b : Bool} : (if a = true then some b else some false) = some (a && b) := by cases a <;> rfl
theorem any_find {n : Nat} {P : Nat → Bool} : ((List.range n).any P) = ((List.range n).find? P).isSome := by
  rw [Bool.eq_iff_iff, List.find?_isSome, List.any_eq_true]
/-! with -/
def wC1 (c : T_api_Cell) (d w o : Int) : T_api_Cell := ⟨c.Next.set d w, c.Owner.set d o⟩
def wC (l : List T_api_Cell) (v d w o : Int) (i : Nat) : T_api_Cell :=
  let c := if (i : Int) = v then wC1 (gi l i) d w o else gi l i
  if (i : Int) = w then wC1 c ((d + 2).tmod 4) v o else c
def wth (l : List T_api_Cell) (v d w o : Int) : List T_api_Cell := (List.range l.length).map (wC l v d w o)
theorem wth_length {l : List T_api_Cell} {v d w o : Int} : (wth l v d w o).length = l.length := by simp [wth]
/-- An edge from v to w in direction d, as it is read. -/
theorem nx_wth {l : List T_api_Cell} {v w d i e : Nat} {o : Int} (hv : v < l.length) (hw : w < l.length) (hvw : v ≠ w) (hd : d < 4) (hi : i < l.length) (he : e < 4) : nx (wth l v d w o) i e = (if i = v ∧ e = d then (w : Int) else if i = w ∧ e = (d + 2) % 4 then (v : Int) else nx l i e) ∧ ow (wth l v d w o) i e = (if i = v ∧ e = d then o else if i = w ∧ e = (d + 2) % 4 then o else ow l i e) := by
  have hb : (((d : Int) + 2).tmod 4) = (((d + 2) % 4 : Nat) : Int) := by
    match d, hd with
    | 0, _ | 1, _ | 2, _ | 3, _ => rfl
  have g : gi (wth l v d w o) i = wC l v d w o i := gi_map_range hi
  unfold nx ow
  rw [g]
  unfold wC
  rw [hb]
  by_cases c1 : i = v
  · subst c1
    rw [if_pos rfl, if_neg (show ¬ ((i : Nat) : Int) = (w : Int) by omega)]
    simp only [wC1]
    rw [A4_get_set hd he, A4_get_set hd he]
    have : ¬ (i = w) := hvw
    simp [this]
  · rw [if_neg (show ¬ ((i : Nat) : Int) = (v : Int) by omega)]
    by_cases c2 : i = w
    · subst c2
      rw [if_pos rfl]
      simp only [wC1]
      rw [A4_get_set (by omega) he, A4_get_set (by omega) he]
      simp [c1]
    · rw [if_neg (show ¬ ((i : Nat) : Int) = (w : Int) by omega)]
      simp [c1, c2]

/-! What may be. -/
structure Ck (l : List T_api_Cell) : Prop where
  s : ∀ v d, v < l.length → d < 4 → (nx l v d = -1 ∧ ow l v d = 0) ∨ ∃ w : Nat, nx l v d = w ∧ w < l.length ∧ w ≠ v ∧ nx l w ((d + 2) % 4) = v ∧ ow l w ((d + 2) % 4) = ow l v d ∧ -2 ≤ ow l v d
theorem Ck.new (n : Nat) : Ck (List.replicate n noC) := ⟨fun v d hv hd => .inl (by
  have : gi (List.replicate n noC) v = noC := by rw [gi_eq hv]; simp
  unfold nx ow; rw [this]
  match d, hd with
  | 0, _ | 1, _ | 2, _ | 3, _ => exact ⟨rfl, rfl⟩)⟩
theorem Ck.wth {l : List T_api_Cell} (h : Ck l) {v w d : Nat} {o : Int} (hv : v < l.length) (hw : w < l.length) (hvw : v ≠ w) (hd : d < 4) (h1 : nx l v d = -1) (h2 : nx l w ((d + 2) % 4) = -1) (ho : -2 ≤ o) : Ck (wth l v d w o) := by
  refine ⟨fun i e hi he => ?_⟩
  rw [wth_length] at hi ⊢
  have n1 := fun i e hi he => (nx_wth (o := o) hv hw hvw hd (i := i) (e := e) hi he).1
  have n2 := fun i e hi he => (nx_wth (o := o) hv hw hvw hd (i := i) (e := e) hi he).2
  rw [n1 i e hi he, n2 i e hi he]
  by_cases c1 : i = v ∧ e = d
  · rw [if_pos c1, if_pos c1]
    refine .inr ⟨w, rfl, hw, by omega, ?_, ?_, ho⟩
    · rw [n1 w _ hw (by omega), if_neg (by omega), if_pos ⟨rfl, by rw [c1.2]⟩, c1.1]
    · rw [n2 w _ hw (by omega), if_neg (by omega), if_pos ⟨rfl, by rw [c1.2]⟩]
  · rw [if_neg c1, if_neg c1]
    by_cases c2 : i = w ∧ e = (d + 2) % 4
    · rw [if_pos c2, if_pos c2]
      refine .inr ⟨v, rfl, hv, by omega, ?_, ?_, ho⟩
      · rw [n1 v _ hv (by omega), if_pos ⟨rfl, by omega⟩, c2.1]
      · rw [n2 v _ hv (by omega), if_pos ⟨rfl, by omega⟩]
    · rw [if_neg c2, if_neg c2]
      rcases h.s i e hi he with hh | ⟨x, x1, x2, x3, x4, x5, x6⟩
      · exact .inl hh
      · refine .inr ⟨x, x1, x2, x3, ?_, ?_, x6⟩
        · rw [n1 x _ x2 (by omega)]
          rw [if_neg (fun c => by
            have : nx l x ((e + 2) % 4) = -1 := by rw [c.1, c.2]; exact h1
            omega)]
          rw [if_neg (fun c => by
            have : nx l x ((e + 2) % 4) = -1 := by rw [c.1, c.2]; exact h2
            omega)]
          exact x4
        · rw [n2 x _ x2 (by omega)]
          rw [if_neg (fun c => by
            have : nx l x ((e + 2) % 4) = -1 := by rw [c.1, c.2]; exact h1
            omega)]
          rw [if_neg (fun c => by
            have : nx l x ((e + 2) % 4) = -1 := by rw [c.1, c.2]; exact h2
            omega)]
          exact x5
end Mu
