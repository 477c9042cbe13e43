/- Layer 10: a grid's cells, played with. -/
import Derived.Test.YtofdeafffbkgbaaMuM10d
set_option linter.unusedVariables false
set_option linter.unusedSimpArgs false
set_option maxRecDepth 10000
namespace Mu
theorem mBack {d : Nat} (hd : d < 4) : p_compass_Left (d : Int) 2 = some (((d + 2) % 4 : Nat) : Int) := by
  match d, hd with
  | 0, _ | 1, _ | 2, _ | 3, _ => rfl
theorem mIs {l : List T_api_Cell} {v d : Int} : p_grid_Grid_is ⟨l⟩ v d = some (decide (0 ≤ v ∧ v < l.length ∧ 0 ≤ d ∧ d < 4)) := by
  simp only [p_grid_Grid_is, p_grid_Grid_Len, p_compass_Good, Option.bind_some]
  by_cases c : 0 ≤ v
  · rw [ifd_pos c, Option.bind_some]
    by_cases c2 : v < (l.length : Int)
    · rw [ifd_pos c2, Option.bind_some]
      by_cases c3 : 0 ≤ d ∧ d < 4
      · rw [dec_t c3.1, dec_t (show d ≤ 3 by omega), dec_t (show 0 ≤ v ∧ v < (l.length : Int) ∧ 0 ≤ d ∧ d < 4 by omega)]; rfl
      · rw [dec_f (show ¬ (0 ≤ v ∧ v < (l.length : Int) ∧ 0 ≤ d ∧ d < 4) by omega)]
        by_cases c4 : 0 ≤ d
        · rw [dec_t c4, dec_f (show ¬ d ≤ 3 by omega)]; rfl
        · rw [dec_f c4]; rfl
    · rw [ifd_neg c2, Option.bind_some, dec_f (by omega)]
  · rw [ifd_neg c, Option.bind_some, if_neg (by decide), Option.bind_some, dec_f (by omega)]
theorem gi_set_self {α : Type} [Inhabited α] {l : List α} {i : Nat} {a : α} (h : i < l.length) : gi (l.set i a) i = a := by rw [gi_set h, if_pos rfl]
theorem mLay {l : List T_api_Cell} {v w d : Nat} {o : Int} (hv : v < l.length) (hw : w < l.length) (hd : d < 4) : p_grid_Grid_lay ⟨l⟩ v d w o = some ⟨wth l v d w o⟩ := by
  have hb : (((d : Int) + 2).tmod 4) = (((d + 2) % 4 : Nat) : Int) := by
    match d, hd with
    | 0, _ | 1, _ | 2, _ | 3, _ => rfl
  simp only [p_grid_Grid_lay]
  rw [mBack hd, Option.bind_some]
  simp only [Int.toNat_natCast, List.length_set, gi_set_self hv, List.set_set]
  rw [ck_pos (by omega), ck_pos (by omega), ck_pos (by omega), ck_pos (by omega), ck_pos (by omega), ck_pos (by omega)]
  have hw' : w < (l.set v { Next := (gi l v).Next.set (d : Int) w, Owner := (gi l v).Owner.set (d : Int) o }).length := by rw [List.length_set]; exact hw
  simp only [gi_set_self hw']
  congr 2
  apply list_ext (by simp [wth_length])
  intro i hi
  simp only [List.length_set] at hi
  rw [gi_set hw', gi_set hv, gi_set hv]
  have g : gi (wth l v d w o) i = wC l v d w o i := gi_map_range hi
  rw [g]
  unfold wC wC1
  dsimp only
  rw [hb]
  by_cases c : i = w
  · rw [if_pos c, if_pos (show (i : Int) = (w : Int) by omega)]
    by_cases e : w = v
    · rw [if_pos e, if_pos (show (i : Int) = (v : Int) by omega), c, e]
    · rw [if_neg e, if_neg (show ¬ (i : Int) = (v : Int) by omega), c]
  · rw [if_neg c, if_neg (show ¬ (i : Int) = (w : Int) by omega)]
    by_cases e : i = v
    · rw [if_pos e, if_pos (show (i : Int) = (v : Int) by omega), e]
    · rw [if_neg e, if_neg (show ¬ (i : Int) = (v : Int) by omega)]
/-- Each edge leads to a cell. -/
structure Rg (l : List T_api_Cell) : Prop where
  len : l.length ≤ 4096
  nx : ∀ v d : Nat, v < l.length → d < 4 → nx l v d = -1 ∨ (0 ≤ nx l v d ∧ nx l v d < l.length)
theorem Rg.wth {l : List T_api_Cell} {v w d : Nat} {o : Int} (h : Rg l) (hv : v < l.length) (hw : w < l.length) (hvw : v ≠ w) (hd : d < 4) : Rg (wth l v d w o) := by
  refine ⟨by rw [wth_length]; exact h.len, fun i e hi he => ?_⟩
  rw [wth_length] at hi ⊢
  rw [(nx_wth hv hw hvw hd hi he).1]
  split
  · omega
  · split
    · omega
    · exact h.nx i e hi he
theorem nx_noC {d : Nat} (h : d < 4) : noC.Next.get (d : Int) = -1 ∧ noC.Owner.get (d : Int) = 0 := by
  match d, h with
  | 0, _ | 1, _ | 2, _ | 3, _ => exact ⟨rfl, rfl⟩
theorem Rg.add {l : List T_api_Cell} (h : Rg l) (hl : l.length < 4096) : Rg (l ++ [noC]) := by
  refine ⟨by simp; omega, fun i e hi he => ?_⟩
  rw [List.length_append, List.length_singleton] at hi ⊢
  unfold Mu.nx
  by_cases c : i < l.length
  · rw [gi_append_left c]
    have := h.nx i e c he
    unfold Mu.nx at this
    omega
  · rw [show i = l.length + 0 by omega, gi_append_right]
    exact .inl (nx_noC he).1
theorem mAdd {l : List T_api_Cell} (hl : l.length < 4096) : p_grid_Grid_Add ⟨l⟩ = some ((l.length : Int), 0, ⟨l ++ [noC]⟩) := by
  simp only [p_grid_Grid_Add, p_grid_Grid_Len, p_grid_empty, Option.bind_some]
  rw [ifd_neg (by omega), ck_pos (by simp; omega), ckI64 (by simp; omega)]
  congr 2
  simp
theorem mNext {l : List T_api_Cell} {v d : Nat} (hv : v < l.length) (hd : d < 4) : p_grid_Grid_Next ⟨l⟩ v d = some (if nx l v d = -1 then (0, 0, false) else (nx l v d, ow l v d, true)) := by
  simp only [p_grid_Grid_Next]
  rw [mIs, Option.bind_some, dec_t (by omega), if_neg (by decide), ck_pos (by omega), ck_pos (by omega), Option.bind_some, Int.toNat_natCast]
  by_cases c : nx l v d = -1
  · have c' : (gi l v).Next.get (d : Int) = -1 := c
    rw [ifd_pos c', if_pos c]
  · have c' : ¬ (gi l v).Next.get (d : Int) = -1 := c
    rw [ifd_neg c', if_neg c, ck_pos (by omega), ck_pos (by omega)]; rfl
theorem mNextBad {l : List T_api_Cell} {v d : Int} (h : ¬ (0 ≤ v ∧ v < l.length ∧ 0 ≤ d ∧ d < 4)) : p_grid_Grid_Next ⟨l⟩ v d = some (0, 0, false) := by
  simp only [p_grid_Grid_Next]
  rw [mIs, Option.bind_some, dec_f h, if_pos (by decide), Option.bind_some, if_pos rfl]
theorem wth_none {l : List T_api_Cell} {d o : Int} : wth l (-1) d (-1) o = l := by
  apply list_ext (by rw [wth_length])
  intro i hi
  rw [wth_length] at hi
  have g : gi (wth l (-1) d (-1) o) i = wC l (-1) d (-1) o i := gi_map_range hi
  rw [g]
  unfold wC
  dsimp only
  rw [if_neg (by omega), if_neg (by omega)]
end Mu
