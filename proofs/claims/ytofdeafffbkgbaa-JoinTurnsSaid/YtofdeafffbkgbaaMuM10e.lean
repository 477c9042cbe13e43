/- Layer 10: a grid's cells, played with. -/
import Derived.Test.YtofdeafffbkgbaaMuM10d
set_option linter.unusedVariables false
set_option linter.unusedSimpArgs false
set_option maxRecDepth 10000
namespace Mu
theorem mBack {d : Nat} (hd : d < 4) : p_compass_Left (d : Int) 2 = some (((d + 2) % 4 : Nat) : Int) := by
  match d, hd with
  | 0, _ | 1, _ | 2, _ | 3, _ => rfl
theorem gi_set_self {α : Type} [Inhabited α] {l : List α} {i : Nat} {a : α} (h : i < l.length) : gi (l.set i a) i = a := by rw [gi_set h, if_pos rfl]
/-- Each edge leads to a cell. -/
structure Rg (l : List T_api_Cell) : Prop where
  len : l.length ≤ 4096
  nx : ∀ v d : Nat, v < l.length → d < 4 → nx l v d = -1 ∨ (0 ≤ nx l v d ∧ nx l v d < l.length)
theorem Rg.wth {l : List T_api_Cell} {v w d : Nat} {o : Int} (h : Rg l) (hv : v < l.length) (hw : w < l.length) (hvw : v ≠ w) (hd : d < 4) : Rg (wth l v d w o) := by
  refine ⟨by rw [wth_length]; exact h.len, fun i e hi he => ?_⟩
  rw [wth_length] at hi ⊢
  rw [(nx_wth hv hw hvw hd hi he).1]
  split
  · omega
  · split
    · omega
    · exact h.nx i e hi he
theorem nx_noC {d : Nat} (h : d < 4) : noC.Next.get (d : Int) = -1 ∧ noC.Owner.get (d : Int) = 0 := by
  match d, h with
  | 0, _ | 1, _ | 2, _ | 3, _ => exact ⟨rfl, rfl⟩
theorem Rg.add {l : List T_api_Cell} (h : Rg l) (hl : l.length < 4096) : Rg (l ++ [noC]) := by
  refine ⟨by simp; omega, fun i e hi he => ?_⟩
  rw [List.length_append, List.length_singleton] at hi ⊢
  unfold Mu.nx
  by_cases c : i < l.length
  · rw [gi_append_left c]
    have := h.nx i e c he
    unfold Mu.nx at this
    omega
  · rw [show i = l.length + 0 by omega, gi_append_right]
    exact .inl (nx_noC he).1
theorem wth_none {l : List T_api_Cell} {d o : Int} : wth l (-1) d (-1) o = l := by
  apply list_ext (by rw [wth_length])
  intro i hi
  rw [wth_length] at hi
  have g : gi (wth l (-1) d (-1) o) i = wC l (-1) d (-1) o i := gi_map_range hi
  rw [g]
  unfold wC
  dsimp only
  rw [if_neg (by omega), if_neg (by omega)]
end Mu
