/- Layer 10: turned cells; what Split and Of answer. -/
import Derived.Test.YtofdeafffbkgbaaMuM10g
import Derived.Test.YtofdeafffbkgbaaMuM10f
set_option linter.unusedVariables false
set_option linter.unusedSimpArgs false
set_option maxRecDepth 10000
namespace Mu
def tc (c : T_api_Cell) : T_api_Cell := ⟨⟨c.Next.d, c.Next.a, c.Next.b, c.Next.c⟩, ⟨c.Owner.d, c.Owner.a, c.Owner.b, c.Owner.c⟩⟩
/-- The cells, turned once to the left. -/
def trn (l : List T_api_Cell) : List T_api_Cell := (List.range l.length).map fun v => tc (gi l v)
theorem trn_len {l : List T_api_Cell} : (trn l).length = l.length := by simp [trn]
theorem nx_trn {l : List T_api_Cell} {v e : Nat} (hv : v < l.length) (he : e < 4) : nx (trn l) v e = nx l v ((e + 3) % 4) ∧ ow (trn l) v e = ow l v ((e + 3) % 4) := by
  have g : gi (trn l) v = tc (gi l v) := gi_map_range hv
  unfold nx ow
  rw [g]
  match e, he with
  | 0, _ | 1, _ | 2, _ | 3, _ => exact ⟨rfl, rfl⟩
theorem Ck.turn {l : List T_api_Cell} (h : Ck l) : Ck (trn l) := by
  refine ⟨fun v d hv hd => ?_⟩
  rw [trn_len] at hv ⊢
  rw [(nx_trn hv hd).1, (nx_trn hv hd).2]
  rcases h.s v ((d + 3) % 4) hv (by omega) with h | ⟨w, a, b, c, f, g, k⟩
  · exact .inl h
  · refine .inr ⟨w, a, b, c, ?_, ?_, k⟩
    · rw [(nx_trn b (by omega)).1, show ((d + 2) % 4 + 3) % 4 = ((d + 3) % 4 + 2) % 4 by omega]; exact f
    · rw [(nx_trn b (by omega)).2, show ((d + 2) % 4 + 3) % 4 = ((d + 3) % 4 + 2) % 4 by omega]; exact g
theorem Ck.turnBack {l : List T_api_Cell} (h : Ck (trn l)) : Ck l := by
  refine ⟨fun v d hv hd => ?_⟩
  have hs := h.s v ((d + 1) % 4) (by rw [trn_len]; exact hv) (by omega)
  rw [(nx_trn hv (by omega)).1, (nx_trn hv (by omega)).2, show ((d + 1) % 4 + 3) % 4 = d by omega, trn_len] at hs
  rcases hs with h | ⟨w, a, b, c, f, g, k⟩
  · exact .inl h
  · refine .inr ⟨w, a, b, c, ?_, ?_, k⟩
    · rw [(nx_trn b (by omega)).1, show (((d + 1) % 4 + 2) % 4 + 3) % 4 = (d + 2) % 4 by omega] at f; exact f
    · rw [(nx_trn b (by omega)).2, show (((d + 1) % 4 + 2) % 4 + 3) % 4 = (d + 2) % 4 by omega] at g; exact g
theorem mSplitBad {l : List T_api_Cell} {v d : Int} (h : ¬ (0 ≤ v ∧ v < l.length ∧ 0 ≤ d ∧ d < 4)) : p_grid_Grid_Split ⟨l⟩ v d = some (0, 2, ⟨l⟩) := by
  simp only [p_grid_Grid_Split]
  rw [mIs, Option.bind_some, dec_f h, if_pos (by decide)]
theorem mSplitNo {l : List T_api_Cell} {v d : Nat} (hv : v < l.length) (hd : d < 4) (h : nx l v d = -1) : p_grid_Grid_Split ⟨l⟩ v d = some (0, 9, ⟨l⟩) := by
  simp only [p_grid_Grid_Split]
  rw [mIs, Option.bind_some, dec_t (by omega), if_neg (by decide), mNext hv hd, Option.bind_some, if_pos h]
  rfl
theorem mSplitOk {l : List T_api_Cell} {v d w : Nat} (hl : l.length < 4096) (hv : v < l.length) (hd : d < 4) (hw : nx l v d = w) (hwl : w < l.length) : p_grid_Grid_Split ⟨l⟩ v d = some ((l.length : Int), 0, ⟨spl l v d w (ow l v d)⟩) := by
  have hl1 : (l ++ [noC]).length = l.length + 1 := by simp
  simp only [p_grid_Grid_Split]
  rw [mIs, Option.bind_some, dec_t (by omega), if_neg (by decide), mNext hv hd, Option.bind_some, if_neg (show ¬ nx l v d = -1 by omega)]
  dsimp only
  rw [if_neg (by decide), mAdd (by omega), Option.bind_some]
  dsimp only
  have a := mLay (l := l ++ [noC]) (v := v) (w := l.length) (d := d) (o := ow l v d) (by omega) (by omega) hd
  have b := mLay (l := wth (l ++ [noC]) v d l.length (ow l v d)) (v := l.length) (w := w) (d := d) (o := ow l v d) (by rw [wth_length]; omega) (by rw [wth_length]; omega) hd
  rw [ifn_neg rfl, a, Option.bind_some, hw, b, Option.bind_some]
  rfl
theorem mSplitFull {l : List T_api_Cell} {v d : Nat} (hl : l.length = 4096) (hv : v < l.length) (hd : d < 4) (hw : nx l v d ≠ -1) : p_grid_Grid_Split ⟨l⟩ v d = some (0, 6, ⟨l⟩) := by
  simp only [p_grid_Grid_Split]
  have ha : p_grid_Grid_Add ⟨l⟩ = some (0, 6, ⟨l⟩) := by
    simp only [p_grid_Grid_Add, p_grid_Grid_Len, Option.bind_some]
    rw [ifd_pos (by omega)]
  rw [mIs, Option.bind_some, dec_t (by omega), if_neg (by decide), mNext hv hd, Option.bind_some, if_neg hw]
  dsimp only
  rw [if_neg (by decide), ha, Option.bind_some]
  dsimp only
  rw [ifn_pos (by decide)]
theorem trn_spl {l : List T_api_Cell} {v d w : Nat} {o : Int} (hv : v < l.length) (hw : w < l.length) (hd : d < 4) : trn (spl l v d w o) = spl (trn l) v ((d + 1) % 4) w o := by
  apply list_ext (by rw [trn_len, spl_len, spl_len, trn_len])
  intro i hi
  rw [trn_len, spl_len] at hi
  have hL := trn_len (l := l)
  refine cell_ext fun e he => ?_
  show nx (trn (spl l v d w o)) i e = nx (spl (trn l) v ((d + 1) % 4) w o) i e ∧ ow (trn (spl l v d w o)) i e = ow (spl (trn l) v ((d + 1) % 4) w o) i e
  have a := nx_trn (l := spl l v d w o) (v := i) (e := e) (by rw [spl_len]; omega) he
  have b := nx_spl (l := l) (v := v) (d := d) (w := w) (i := i) (e := (e + 3) % 4) (o := o) hv hw hd (by omega) (by omega)
  have c := nx_spl (l := trn l) (v := v) (d := (d + 1) % 4) (w := w) (i := i) (e := e) (o := o) (by omega) (by omega) (by omega) (by omega) he
  rw [a.1, a.2, b.1, b.2, c.1, c.2, hL]
  by_cases q : i = l.length
  · rw [if_pos q, if_pos q, if_pos q, if_pos q]
    constructor <;> (repeat' split) <;> first | rfl | omega
  · have t := nx_trn (l := l) (v := i) (e := e) (by omega) he
    rw [if_neg q, if_neg q, if_neg q, if_neg q, t.1, t.2]
    constructor <;> (repeat' split) <;> first | rfl | omega
end Mu
