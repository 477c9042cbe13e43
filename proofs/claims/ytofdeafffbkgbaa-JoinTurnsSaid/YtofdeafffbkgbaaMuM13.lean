/- Layer 13: what hangs together, by steps. -/
import Derived.Test.YtofdeafffbkgbaaMuM10d
set_option linter.unusedVariables false
set_option linter.unusedSimpArgs false
set_option maxRecDepth 10000
namespace Mu

theorem mRepeat {n : Nat} (h : n ≤ 64) : p_slices_Repeat_int [-1] n = some (List.replicate n (-1)) := by
  have key : ∀ n : Fin 65, p_slices_Repeat_int [-1] ((n : Nat) : Int) = some (List.replicate (n : Nat) (-1)) := by decide +kernel
  exact key ⟨n, by omega⟩

/-- Is there an edge from a to b? -/
def Adj (l : List T_api_Cell) (a b : Nat) : Prop := ∃ d, d < 4 ∧ nx l a d = b
/-- In so many steps. -/
inductive Rch (l : List T_api_Cell) (v : Nat) : Nat → Nat → Prop
  | zero : Rch l v 0 v
  | succ {n a b} : Rch l v n a → Adj l a b → Rch l v (n + 1) b
theorem Adj.lt {l : List T_api_Cell} (h : Ck l) {a b : Nat} (ha : a < l.length) (hab : Adj l a b) : b < l.length := by
  obtain ⟨d, hd, e⟩ := hab
  have := h.lt ha hd
  omega
theorem Adj.symm {l : List T_api_Cell} (h : Ck l) {a b : Nat} (ha : a < l.length) (hab : Adj l a b) : Adj l b a := by
  obtain ⟨d, hd, e⟩ := hab
  rcases h.s a d ha hd with ⟨e2, _⟩ | ⟨w, e2, _, _, e3, _⟩
  · omega
  · have : w = b := by omega
    subst this
    exact ⟨(d + 2) % 4, by omega, e3⟩
theorem Rch.lt {l : List T_api_Cell} (h : Ck l) {v n w : Nat} (hv : v < l.length) (hr : Rch l v n w) : w < l.length := by
  induction hr with
  | zero => exact hv
  | succ _ hab ih => exact hab.lt h ih
theorem Rch.trans {l : List T_api_Cell} {a b c n m : Nat} (h1 : Rch l a n b) (h2 : Rch l b m c) : Rch l a (n + m) c := by
  induction h2 with
  | zero => exact h1
  | succ _ hab ih => exact .succ ih hab
theorem Rch.symm {l : List T_api_Cell} (h : Ck l) {v n w : Nat} (hv : v < l.length) (hr : Rch l v n w) : Rch l w n v := by
  induction hr with
  | zero => exact .zero
  | succ hr hab ih =>
    have ha := hr.lt h hv
    have := (Rch.succ .zero (hab.symm h ha)).trans ih
    rw [Nat.zero_add, Nat.add_comm] at this
    exact this
/-- How far. -/
def Dist (l : List T_api_Cell) (v w n : Nat) : Prop := Rch l v n w ∧ ∀ m, Rch l v m w → n ≤ m
theorem Dist.uniq {l : List T_api_Cell} {v w n m : Nat} (h1 : Dist l v w n) (h2 : Dist l v w m) : n = m := by
  have := h1.2 m h2.1
  have := h2.2 n h1.1
  omega
theorem Rch.dist {l : List T_api_Cell} {v w n : Nat} (h : Rch l v n w) : ∃ m, m ≤ n ∧ Dist l v w m := by
  induction n using Nat.strongRecOn with
  | _ n ih =>
    by_cases c : ∃ m, m < n ∧ Rch l v m w
    · obtain ⟨m, hm, hr⟩ := c
      obtain ⟨k, hk, hd⟩ := ih m hm hr
      exact ⟨k, by omega, hd⟩
    · refine ⟨n, Nat.le_refl _, h, fun m hm => ?_⟩
      by_cases q : n ≤ m
      · exact q
      · exact absurd ⟨m, by omega, hm⟩ c
theorem Dist.symm {l : List T_api_Cell} (h : Ck l) {v w n : Nat} (hv : v < l.length) (hd : Dist l v w n) : Dist l w v n :=
  ⟨hd.1.symm h hv, fun m hm => hd.2 m (hm.symm h (hd.1.lt h hv))⟩
/-- One step ahead. -/
theorem Dist.pred {l : List T_api_Cell} {v w n : Nat} (hd : Dist l v w (n + 1)) : ∃ a, Dist l v a n ∧ Adj l a w := by
  obtain ⟨h1, h2⟩ := hd
  cases h1 with
  | succ hr hab =>
    refine ⟨_, ⟨hr, fun m hm => ?_⟩, hab⟩
    have := h2 (m + 1) (.succ hm hab)
    omega
/-- Different things, few places. -/
theorem pigeon : ∀ {n m : Nat} (f : Nat → Nat), (∀ i, i < n → f i < m) → (∀ i j, i < n → j < n → f i = f j → i = j) → n ≤ m
  | 0, m, f, _, _ => Nat.zero_le _
  | n + 1, 0, f, h, _ => absurd (h 0 (by omega)) (by omega)
  | n + 1, m + 1, f, h, hi => by
    have := pigeon (n := n) (m := m) (fun i => if f i = m then f n else f i) (fun i hi' => by
      by_cases c : f i = m
      · rw [if_pos c]
        have := h n (by omega)
        by_cases c2 : f n = m
        · have := hi i n (by omega) (by omega) (by omega); omega
        · omega
      · rw [if_neg c]
        have := h i (by omega)
        omega) (fun i j hi' hj' e => by
      by_cases c : f i = m <;> by_cases c2 : f j = m
      · exact hi i j (by omega) (by omega) (by omega)
      · rw [if_pos c, if_neg c2] at e
        have := hi n j (by omega) (by omega) e; omega
      · rw [if_neg c, if_pos c2] at e
        have := hi i n (by omega) (by omega) e; omega
      · rw [if_neg c, if_neg c2] at e
        exact hi i j (by omega) (by omega) e)
    omega
theorem Dist.all {l : List T_api_Cell} {v w : Nat} : ∀ n, Dist l v w n → ∀ m, m ≤ n → ∃ a, Dist l v a m
  | 0, h, m, hm => ⟨w, by rw [show m = 0 by omega]; exact h⟩
  | n + 1, h, m, hm => by
    by_cases c : m = n + 1
    · exact ⟨w, by rw [c]; exact h⟩
    · obtain ⟨a, ha, _⟩ := h.pred
      exact Dist.all n ha m (by omega)
/-- No path is longer than there are cells. -/
theorem Dist.lt {l : List T_api_Cell} (h : Ck l) {v w n : Nat} (hv : v < l.length) (hd : Dist l v w n) : n < l.length := by
  have hall := fun m (hm : m < n + 1) => hd.all n m (by omega)
  have := pigeon (n := n + 1) (m := l.length) (fun m => if hm : m < n + 1 then (hall m hm).choose else 0) (fun i hi => by
    rw [dif_pos hi]
    exact (hall i hi).choose_spec.1.lt h hv) (fun i j hi hj e => by
    rw [dif_pos hi, dif_pos hj] at e
    have d1 := (hall i hi).choose_spec
    have d2 := (hall j hj).choose_spec
    rw [e] at d1
    exact d1.uniq d2)
  omega
end Mu
