/- Layer 10: a split edge. -/
import Derived.Test.YtofdeafffbkgbaaMuM10e
set_option linter.unusedVariables false
set_option linter.unusedSimpArgs false
set_option maxRecDepth 10000
namespace Mu
/-- The cells with an edge split. -/
def spl (l : List T_api_Cell) (v d w : Nat) (o : Int) : List T_api_Cell := wth (wth (l ++ [noC]) v d l.length o) l.length d w o
theorem spl_len {l : List T_api_Cell} {v d w : Nat} {o : Int} : (spl l v d w o).length = l.length + 1 := by simp [spl, wth_length]
theorem nx_app {l : List T_api_Cell} {i e : Nat} (hi : i ≤ l.length) (he : e < 4) : nx (l ++ [noC]) i e = (if i < l.length then nx l i e else -1) ∧ ow (l ++ [noC]) i e = (if i < l.length then ow l i e else 0) := by
  unfold nx ow
  by_cases c : i < l.length
  · rw [gi_append_left c, if_pos c, if_pos c]; exact ⟨rfl, rfl⟩
  · rw [if_neg c, if_neg c, show i = l.length + 0 by omega, gi_append_right]
    exact nx_noC he
theorem nx_spl {l : List T_api_Cell} {v d w i e : Nat} {o : Int} (hv : v < l.length) (hw : w < l.length) (hd : d < 4) (hi : i ≤ l.length) (he : e < 4) :
    nx (spl l v d w o) i e = (if i = l.length then (if e = d then (w : Int) else if e = (d + 2) % 4 then (v : Int) else -1) else if i = w ∧ e = (d + 2) % 4 then (l.length : Int) else if i = v ∧ e = d then (l.length : Int) else nx l i e) ∧
    ow (spl l v d w o) i e = (if i = l.length then (if e = d then o else if e = (d + 2) % 4 then o else 0) else if i = w ∧ e = (d + 2) % 4 then o else if i = v ∧ e = d then o else ow l i e) := by
  have hl : (l ++ [noC]).length = l.length + 1 := by simp
  have a := nx_wth (l := wth (l ++ [noC]) v d l.length o) (v := l.length) (w := w) (d := d) (i := i) (e := e) (o := o) (by rw [wth_length]; omega) (by rw [wth_length]; omega) (by omega) hd (by rw [wth_length]; omega) he
  have b := nx_wth (l := l ++ [noC]) (v := v) (w := l.length) (d := d) (i := i) (e := e) (o := o) (by omega) (by omega) (by omega) hd (by omega) he
  have c := nx_app hi he
  unfold spl
  rw [a.1, a.2, b.1, b.2, c.1, c.2]
  constructor <;> (repeat' split) <;> first | rfl | omega
theorem Ck.spl {l : List T_api_Cell} (h : Ck l) {v d w : Nat} (hv : v < l.length) (hd : d < 4) (hw : nx l v d = w) : w < l.length ∧ w ≠ v ∧ Ck (spl l v d w (ow l v d)) := by
  have hvd := h.s v d hv hd
  have hh : w < l.length ∧ w ≠ v ∧ nx l w ((d + 2) % 4) = v ∧ ow l w ((d + 2) % 4) = ow l v d ∧ -2 ≤ ow l v d := by
    rcases hvd with ⟨a, _⟩ | ⟨w', a, b⟩
    · omega
    · have : w = w' := by omega
      subst this; exact b
  obtain ⟨w1, w2, w3, w4, w5⟩ := hh
  refine ⟨w1, w2, ⟨fun i e hi he => ?_⟩⟩
  rw [spl_len] at hi ⊢
  have N := fun i e hi he => nx_spl (o := ow l v d) hv w1 hd (i := i) (e := e) hi he
  have hdd : (((d + 2) % 4) + 2) % 4 = d := by omega
  rw [(N i e (by omega) he).1, (N i e (by omega) he).2]
  by_cases q : i = l.length
  · rw [if_pos q, if_pos q]
    by_cases r : e = d
    · rw [if_pos r, if_pos r]
      refine .inr ⟨w, rfl, by omega, by omega, ?_, ?_, w5⟩
      · rw [(N w _ (by omega) (by omega)).1, if_neg (by omega), if_pos ⟨rfl, by rw [r]⟩, q]
      · rw [(N w _ (by omega) (by omega)).2, if_neg (by omega), if_pos ⟨rfl, by rw [r]⟩]
    · rw [if_neg r, if_neg r]
      by_cases t : e = (d + 2) % 4
      · rw [if_pos t, if_pos t]
        refine .inr ⟨v, rfl, by omega, by omega, ?_, ?_, w5⟩
        · rw [(N v _ (by omega) (by omega)).1, if_neg (by omega), if_neg (by omega), if_pos ⟨rfl, by omega⟩, q]
        · rw [(N v _ (by omega) (by omega)).2, if_neg (by omega), if_neg (by omega), if_pos ⟨rfl, by omega⟩]
      · rw [if_neg t, if_neg t]; exact .inl ⟨rfl, rfl⟩
  · rw [if_neg q, if_neg q]
    by_cases r : i = w ∧ e = (d + 2) % 4
    · rw [if_pos r, if_pos r]
      refine .inr ⟨l.length, rfl, by omega, by omega, ?_, ?_, w5⟩
      · rw [(N _ _ (by omega) (by omega)).1, if_pos rfl, if_pos (by omega), r.1]
      · rw [(N _ _ (by omega) (by omega)).2, if_pos rfl, if_pos (by omega)]
    · rw [if_neg r, if_neg r]
      by_cases t : i = v ∧ e = d
      · rw [if_pos t, if_pos t]
        refine .inr ⟨l.length, rfl, by omega, by omega, ?_, ?_, w5⟩
        · rw [(N _ _ (by omega) (by omega)).1, if_pos rfl, if_neg (by omega), if_pos (by rw [t.2]), t.1]
        · rw [(N _ _ (by omega) (by omega)).2, if_pos rfl, if_neg (by omega), if_pos (by rw [t.2])]
      · rw [if_neg t, if_neg t]
        rcases h.s i e (by omega) he with ⟨a, b⟩ | ⟨u, a, b, c, f, g, k⟩
        · exact .inl ⟨a, b⟩
        · have x1 : ¬ (u = w ∧ (e + 2) % 4 = (d + 2) % 4) := by
            rintro ⟨rfl, y⟩
            rw [y] at f
            exact t ⟨by omega, by omega⟩
          have x2 : ¬ (u = v ∧ (e + 2) % 4 = d) := by
            rintro ⟨rfl, y⟩
            rw [y] at f
            exact r ⟨by omega, by omega⟩
          refine .inr ⟨u, a, by omega, c, ?_, ?_, k⟩
          · rw [(N _ _ (by omega) (by omega)).1, if_neg (by omega), if_neg x1, if_neg x2]; exact f
          · rw [(N _ _ (by omega) (by omega)).2, if_neg (by omega), if_neg x1, if_neg x2]; exact g
theorem A4_ext {x y : A4 Int} (h : ∀ e : Nat, e < 4 → x.get (e : Int) = y.get (e : Int)) : x = y := by
  obtain ⟨a, b, c, d⟩ := x
  obtain ⟨a', b', c', d'⟩ := y
  have h0 : a = a' := h 0 (by omega)
  have h1 : b = b' := h 1 (by omega)
  have h2 : c = c' := h 2 (by omega)
  have h3 : d = d' := h 3 (by omega)
  subst h0; subst h1; subst h2; subst h3; rfl
theorem cell_ext {x y : T_api_Cell} (h : ∀ e : Nat, e < 4 → x.Next.get (e : Int) = y.Next.get (e : Int) ∧ x.Owner.get (e : Int) = y.Owner.get (e : Int)) : x = y := by
  obtain ⟨a, b⟩ := x
  obtain ⟨a', b'⟩ := y
  have h1 : a = a' := A4_ext fun e he => (h e he).1
  have h2 : b = b' := A4_ext fun e he => (h e he).2
  rw [h1, h2]
end Mu
