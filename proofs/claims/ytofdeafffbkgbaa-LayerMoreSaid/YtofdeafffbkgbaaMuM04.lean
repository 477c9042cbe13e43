/- Layer 4: orders and layers of graphs, plainly. -/
import Derived.Test.YtofdeafffbkgbaaMuM10c
set_option linter.unusedVariables false
set_option linter.unusedSimpArgs false
set_option maxRecDepth 10000
namespace Mu
/-- A graph's arcs lead from nodes to nodes. -/
def RA (n : Nat) (arcs : List T_api_Arc) : Prop := ∀ a ∈ arcs, 0 ≤ a.From ∧ a.From < n ∧ 0 ≤ a.To ∧ a.To < n ∧ 0 ≤ a.Weight ∧ a.Weight ≤ 1000000
/-- How many arcs lead to w from a node that isn't met. -/
def ahd (arcs : List T_api_Arc) (l : List Int) (w : Int) : Nat := arcs.countP (fun a => decide (a.To = w) && !decide (a.From ∈ l))
/-- Where arcs lead to from v. -/
def outs (arcs : List T_api_Arc) (v : Int) : List Int := (arcs.filter (fun a => decide (a.From = v))).map (·.To)
theorem mem_outs {arcs : List T_api_Arc} {v w : Int} : w ∈ outs arcs v ↔ ∃ a ∈ arcs, a.From = v ∧ a.To = w := by
  unfold outs; simp only [List.mem_map, List.mem_filter, decide_eq_true_eq]
  constructor
  · rintro ⟨a, ⟨h1, h2⟩, h3⟩; exact ⟨a, h1, h2, h3⟩
  · rintro ⟨a, h1, h2, h3⟩; exact ⟨a, ⟨h1, h2⟩, h3⟩
theorem ahd_zero {arcs : List T_api_Arc} {l : List Int} {w : Int} : ahd arcs l w = 0 ↔ ∀ a ∈ arcs, a.To = w → a.From ∈ l := by
  unfold ahd; rw [List.countP_eq_zero]
  constructor
  · intro h a ha e
    have := h a ha
    simpa [e] using this
  · intro h a ha
    by_cases e : a.To = w
    · have := h a ha e
      simp [this]
    · simp [e]
theorem ahd_le {arcs : List T_api_Arc} {l : List Int} {w : Int} : ahd arcs l w ≤ arcs.length := List.countP_le_length
theorem outs_le {arcs : List T_api_Arc} {v : Int} : (outs arcs v).length ≤ arcs.length := by
  unfold outs; rw [List.length_map]; exact List.length_filter_le _ _
theorem ahd_snoc {l : List Int} {v : Int} (h : v ∉ l) (w : Int) : ∀ arcs : List T_api_Arc, ahd arcs l w = ahd arcs (l ++ [v]) w + (outs arcs v).count w
  | [] => rfl
  | a :: t => by
    have ih := ahd_snoc h w t
    simp only [ahd, outs, List.countP_cons, List.filter_cons] at ih ⊢
    rw [ih]
    by_cases c : a.From = v
    · by_cases d : a.To = w
      · subst c; subst d
        simp only [h, decide_true, decide_false, Bool.true_and, Bool.not_false, if_true, List.mem_append, List.mem_singleton, or_true, Bool.not_true, if_false, List.map_cons, List.count_cons_self, Bool.false_eq_true, Nat.add_zero]
        omega
      · simp only [c, d, decide_true, decide_false, Bool.false_and, if_true, if_false, List.map_cons, Bool.false_eq_true, Nat.add_zero]
        rw [List.count_cons_of_ne d]
    · have e : (a.From ∈ l ++ [v]) ↔ a.From ∈ l := by simp [c]
      simp only [c, e, decide_false, Bool.false_eq_true, if_false]
      omega
/-- Each node of a list comes after all from which arcs lead to it. -/
def Topo (arcs : List T_api_Arc) (l : List Int) : Prop := ∀ l1 v l2, l = l1 ++ v :: l2 → ∀ a ∈ arcs, a.To = v → a.From ∈ l1
theorem Topo.nil {arcs : List T_api_Arc} : Topo arcs [] := fun l1 v l2 h => by simp at h
theorem Topo.snoc {arcs : List T_api_Arc} {l : List Int} {v : Int} (h : Topo arcs l) (hv : ahd arcs l v = 0) : Topo arcs (l ++ [v]) := by
  intro l1 u l2 e a ha hu
  rcases List.eq_nil_or_concat l2 with rfl | ⟨m, y, rfl⟩
  · have : l = l1 ∧ v = u := by
      have := List.append_inj' e rfl
      simpa using this
    obtain ⟨rfl, rfl⟩ := this
    exact ahd_zero.1 hv a ha hu
  · have : l = l1 ++ u :: m := by
      have e2 : l ++ [v] = (l1 ++ u :: m) ++ [y] := by rw [e]; simp
      exact (List.append_inj' e2 rfl).1
    exact h l1 u m this a ha hu
/-- How far the order is. -/
structure KI (n : Nat) (arcs : List T_api_Arc) (o : Int → Int) (l H : List Int) : Prop where
  nd : (l ++ H).Nodup
  mem : ∀ x, x ∈ l ++ H ↔ 0 ≤ x ∧ x < n ∧ o x = 0
  tp : Topo arcs l
theorem KI.perm {n : Nat} {arcs : List T_api_Arc} {o : Int → Int} {l H H' : List Int} (h : KI n arcs o l H) (p : H.Perm H') : KI n arcs o l H' :=
  ⟨(p.append_left l).nodup h.nd, fun x => by rw [← (p.append_left l).mem_iff]; exact h.mem x, h.tp⟩
/-- What is open while v's arcs are gone through. -/
def opn (arcs : List T_api_Arc) (l : List Int) (v : Int) (k : Nat) (w : Int) : Int := ((ahd arcs l w + ((outs arcs v).drop k).count w : Nat) : Int)
theorem KI.pop {n : Nat} {arcs : List T_api_Arc} {l H : List Int} {v : Int} (h : KI n arcs (fun w => (ahd arcs l w : Int)) l (v :: H)) : v ∉ l ∧ 0 ≤ v ∧ v < n ∧ KI n arcs (opn arcs (l ++ [v]) v 0) (l ++ [v]) H := by
  have nd := h.nd
  have hv : v ∉ l := by
    rw [List.nodup_append] at nd
    exact fun hh => nd.2.2 v hh v (by simp) rfl
  have hm := (h.mem v).1 (by simp)
  have e : l ++ v :: H = (l ++ [v]) ++ H := by simp
  refine ⟨hv, hm.1, hm.2.1, ⟨by rw [← e]; exact nd, fun x => ?_, h.tp.snoc (by have := hm.2.2; omega)⟩⟩
  rw [← e, h.mem x]
  unfold opn
  rw [List.drop_zero, ← ahd_snoc hv x arcs]
theorem opn_end {arcs : List T_api_Arc} {l : List Int} {v : Int} : opn arcs l v (outs arcs v).length = fun w => (ahd arcs l w : Int) := by
  funext w; unfold opn; simp
theorem opn_step {arcs : List T_api_Arc} {l : List Int} {v : Int} {k : Nat} (h : k < (outs arcs v).length) (w : Int) : opn arcs l v k w = opn arcs l v (k + 1) w + (if w = gi (outs arcs v) k then 1 else 0) := by
  unfold opn
  rw [List.drop_eq_getElem_cons h, gi_eq h, List.count_cons]
  by_cases c : w = (outs arcs v)[k]
  · subst c; simp; omega
  · rw [if_neg c, if_neg (by simpa using fun e => c e.symm)]; omega
theorem opn_nonneg {arcs : List T_api_Arc} {l : List Int} {v : Int} {k : Nat} {w : Int} : 0 ≤ opn arcs l v k w := by unfold opn; omega
theorem opn_le {arcs : List T_api_Arc} {l : List Int} {v : Int} {k : Nat} {w : Int} : opn arcs l v k w ≤ 2 * arcs.length := by
  unfold opn
  have h1 := ahd_le (arcs := arcs) (l := l) (w := w)
  have h2 := List.count_le_length (a := w) (l := (outs arcs v).drop k)
  have h3 := outs_le (arcs := arcs) (v := v)
  rw [List.length_drop] at h2
  omega
theorem KI.wait {n : Nat} {arcs : List T_api_Arc} {l H : List Int} {v : Int} {k : Nat} (h : KI n arcs (opn arcs l v k) l H) (hk : k < (outs arcs v).length) (h0 : opn arcs l v (k + 1) (gi (outs arcs v) k) ≠ 0) : KI n arcs (opn arcs l v (k + 1)) l H := by
  refine ⟨h.nd, fun x => ?_, h.tp⟩
  rw [h.mem x, opn_step hk x]
  by_cases c : x = gi (outs arcs v) k
  · subst c
    have := opn_nonneg (arcs := arcs) (l := l) (v := v) (k := k + 1) (w := gi (outs arcs v) k)
    rw [if_pos rfl]; omega
  · rw [if_neg c, Int.add_zero]
theorem KI.push {n : Nat} {arcs : List T_api_Arc} {l H : List Int} {v : Int} {k : Nat} (h : KI n arcs (opn arcs l v k) l H) (hk : k < (outs arcs v).length) (hr : 0 ≤ gi (outs arcs v) k ∧ gi (outs arcs v) k < n) (h0 : opn arcs l v (k + 1) (gi (outs arcs v) k) = 0) : KI n arcs (opn arcs l v (k + 1)) l (H ++ [gi (outs arcs v) k]) := by
  have hs := opn_step (l := l) hk (gi (outs arcs v) k)
  rw [if_pos rfl] at hs
  have hn : gi (outs arcs v) k ∉ l ++ H := fun hh => by have := (h.mem _).1 hh; omega
  refine ⟨?_, fun x => ?_, h.tp⟩
  · rw [← List.append_assoc, List.nodup_append]
    exact ⟨h.nd, by simp, fun a ha b hb => by
      rw [List.mem_singleton] at hb; subst hb; exact fun e => hn (e ▸ ha)⟩
  · rw [← List.append_assoc, List.mem_append, h.mem x, List.mem_singleton, opn_step hk x]
    by_cases c : x = gi (outs arcs v) k
    · subst c; rw [if_pos rfl]; omega
    · rw [if_neg c, Int.add_zero]; simp [c]
/-- A node all of whose ways back end. -/
inductive Peel (arcs : List T_api_Arc) : Int → Prop
  | mk (v : Int) (h : ∀ a ∈ arcs, a.To = v → Peel arcs a.From) : Peel arcs v
theorem Topo.peel {arcs : List T_api_Arc} {l : List Int} (h : Topo arcs l) : ∀ x ∈ l, Peel arcs x := by
  have key : ∀ k l1 v l2, l1.length = k → l = l1 ++ v :: l2 → Peel arcs v := by
    intro k
    induction k using Nat.strongRecOn with
    | _ k ih =>
      intro l1 v l2 hk e
      refine .mk v fun a ha hv => ?_
      have hm := h l1 v l2 e a ha hv
      obtain ⟨s, t, rfl⟩ := List.append_of_mem hm
      refine ih s.length (by rw [← hk]; simp) s a.From (t ++ v :: l2) rfl (by rw [e]; simp)
  intro x hx
  obtain ⟨s, t, e⟩ := List.append_of_mem hx
  exact key s.length s x t rfl e
theorem KI.peel {n : Nat} {arcs : List T_api_Arc} {l : List Int} (h : KI n arcs (fun w => (ahd arcs l w : Int)) l []) (hr : RA n arcs) {x : Int} (h0 : 0 ≤ x) (h1 : x < n) : x ∈ l ↔ Peel arcs x := by
  refine ⟨h.tp.peel x, fun hp => ?_⟩
  induction hp with
  | mk v hv ih =>
    have : v ∈ l ++ [] := (h.mem v).2 ⟨h0, h1, by
      have : ahd arcs l v = 0 := ahd_zero.2 fun a ha e => ih a ha e (hr a ha).1 (hr a ha).2.1
      omega⟩
    simpa using this
/-- The numbers from 0 on. -/
def upTo (n : Nat) : List Int := (List.range n).map fun i : Nat => (i : Int)
theorem mem_upTo {n : Nat} {x : Int} : x ∈ upTo n ↔ 0 ≤ x ∧ x < n := by
  unfold upTo
  rw [List.mem_map]
  constructor
  · rintro ⟨i, hi, rfl⟩
    rw [List.mem_range] at hi; omega
  · rintro ⟨h0, h1⟩
    exact ⟨x.toNat, by rw [List.mem_range]; omega, by omega⟩
theorem upTo_len {n : Nat} : (upTo n).length = n := by simp [upTo]
theorem upTo_nodup {n : Nat} : (upTo n).Nodup := by
  unfold upTo
  rw [List.Nodup, List.pairwise_map]
  exact List.Pairwise.imp (fun h e => by omega) List.pairwise_lt_range
theorem nodup_len {l : List Int} {n : Nat} (h : l.Nodup) (hm : ∀ x ∈ l, 0 ≤ x ∧ x < n) : l.length ≤ n := by
  have := h.length_le_of_subset (l₂ := upTo n) (fun x hx => mem_upTo.2 (hm x hx))
  rwa [upTo_len] at this
theorem nodup_all {l : List Int} {n : Nat} (h : l.Nodup) (hm : ∀ x, x ∈ l ↔ 0 ≤ x ∧ x < n) : l.length = n := by
  have h1 := nodup_len h (fun x hx => (hm x).1 hx)
  have h2 := upTo_nodup.length_le_of_subset (l₂ := l) (fun x hx => (hm x).2 (mem_upTo.1 hx))
  rw [upTo_len] at h2
  omega
theorem nodup_short {l : List Int} {n : Nat} (h : l.Nodup) (hm : ∀ x ∈ l, 0 ≤ x ∧ x < n) {y : Int} (hy : 0 ≤ y ∧ y < n) (hn : y ∉ l) : l.length < n := by
  have := (List.nodup_cons.2 ⟨hn, h⟩).length_le_of_subset (l₂ := upTo n) (fun x hx => by
    rcases List.mem_cons.1 hx with rfl | hx
    · exact mem_upTo.2 hy
    · exact mem_upTo.2 (hm x hx))
  rw [upTo_len, List.length_cons] at this
  omega
theorem peel_up {n : Nat} {arcs : List T_api_Arc} (hr : RA n arcs) (hu : ∀ a ∈ arcs, a.From < a.To) (x : Int) : Peel arcs x := by
  have key : ∀ k : Nat, ∀ x : Int, x < k → Peel arcs x := by
    intro k
    induction k with
    | zero => intro x hx; exact .mk x fun a ha e => absurd (hr a ha) (by omega)
    | succ k ih =>
      intro x hx
      exact .mk x fun a ha e => ih a.From (by have := hu a ha; omega)
  exact key (x.toNat + 1) x (by omega)
/-- The coordinates, as far as the order is gone through. -/
structure LI (n : Nat) (arcs : List T_api_Arc) (P : List Int) (f : Int → Int) : Prop where
  pos : ∀ v : Int, 0 ≤ v → v < n → 0 ≤ f v ∧ f v ≤ P.length
  fit : ∀ a ∈ arcs, a.From ∈ P → f a.From + 1 ≤ f a.To
  tight : ∀ v : Int, 0 ≤ v → v < n → 0 < f v → ∃ a ∈ arcs, a.To = v ∧ a.From ∈ P ∧ f a.From + 1 = f v
structure LJ (n : Nat) (arcs : List T_api_Arc) (P : List Int) (v : Int) (k : Nat) (f : Int → Int) : Prop where
  pos : ∀ u : Int, 0 ≤ u → u < n → 0 ≤ f u ∧ f u ≤ P.length + 1
  own : f v ≤ P.length
  fit : ∀ a ∈ arcs, a.From ∈ P → f a.From + 1 ≤ f a.To
  fit2 : ∀ w ∈ (outs arcs v).take k, f v + 1 ≤ f w
  tight : ∀ u : Int, 0 ≤ u → u < n → 0 < f u → ∃ a ∈ arcs, a.To = u ∧ a.From ∈ P ++ [v] ∧ f a.From + 1 = f u
theorem LI.start {n : Nat} {arcs : List T_api_Arc} {P : List Int} {f : Int → Int} {v : Int} (h : LI n arcs P f) (h0 : 0 ≤ v) (h1 : v < n) : LJ n arcs P v 0 f :=
  ⟨fun u a b => by have := h.pos u a b; omega, (h.pos v h0 h1).2, h.fit, fun w hw => by simp at hw, fun u a b c => by
    obtain ⟨e, h1, h2, h3, h4⟩ := h.tight u a b c
    exact ⟨e, h1, h2, by simp [h3], h4⟩⟩
theorem LJ.stop {n : Nat} {arcs : List T_api_Arc} {P : List Int} {f : Int → Int} {v : Int} (h : LJ n arcs P v (outs arcs v).length f) : LI n arcs (P ++ [v]) f :=
  ⟨fun u a b => by have := h.pos u a b; simp; omega, fun a ha hp => by
    rw [List.mem_append, List.mem_singleton] at hp
    rcases hp with hp | hp
    · exact h.fit a ha hp
    · rw [hp]; exact h.fit2 _ (by rw [List.take_length]; exact mem_outs.2 ⟨a, ha, hp, rfl⟩), h.tight⟩
theorem LJ.step {n : Nat} {arcs : List T_api_Arc} {P : List Int} {f : Int → Int} {v w : Int} {k : Nat} (h : LJ n arcs P v k f) (hr : RA n arcs) (hv : 0 ≤ v ∧ v < n) (hk : k < (outs arcs v).length) (hw : gi (outs arcs v) k = w) (hn : w ∉ P) (hne : w ≠ v) :
    LJ n arcs P v (k + 1) (fun u => if u = w then max (f w) (f v + 1) else f u) := by
  have hwo : w ∈ outs arcs v := by rw [← hw]; exact gi_mem hk
  obtain ⟨a0, ha0, hf0, ht0⟩ := mem_outs.1 hwo
  have hr0 := hr a0 ha0
  have hp := h.pos w (by omega) (by omega)
  have hpv := h.pos v hv.1 hv.2
  have ho := h.own
  refine ⟨fun u a b => ?_, ?_, fun a ha hP => ?_, fun u hu => ?_, fun u a b c => ?_⟩
  · have := h.pos u a b
    split <;> omega
  · rw [if_neg (fun e => hne e.symm)]; exact h.own
  · have := h.fit a ha hP
    rw [if_neg (fun e : a.From = w => hn (e ▸ hP))]
    by_cases c : a.To = w
    · rw [if_pos c]; rw [c] at this; omega
    · rw [if_neg c]; exact this
  · rw [if_neg (fun e => hne e.symm)]
    rw [take_gi hk, hw, List.mem_append, List.mem_singleton] at hu
    rcases hu with hu | hu
    · have := h.fit2 u hu
      by_cases c : u = w
      · rw [if_pos c]; subst c; omega
      · rw [if_neg c]; exact this
    · rw [if_pos hu]; omega
  · by_cases e : u = w
    · subst e
      rw [if_pos rfl] at c ⊢
      by_cases q : f v + 1 ≤ f u
      · rw [show max (f u) (f v + 1) = f u by omega] at c ⊢
        obtain ⟨x, h1, h2, h3, h4⟩ := h.tight u a b c
        refine ⟨x, h1, h2, h3, ?_⟩
        rw [if_neg (fun e => ?_)]
        · exact h4
        · rw [e] at h3; simp [hn, hne] at h3
      · refine ⟨a0, ha0, ht0, by simp [hf0], ?_⟩
        rw [hf0, if_neg (fun e => hne e.symm)]; omega
    · rw [if_neg e] at c ⊢
      obtain ⟨x, h1, h2, h3, h4⟩ := h.tight u a b c
      refine ⟨x, h1, h2, h3, ?_⟩
      rw [if_neg (fun e => ?_)]
      · exact h4
      · rw [e] at h3; simp [hn, hne] at h3
/-- Least coordinates. -/
structure Lay (n : Nat) (arcs : List T_api_Arc) (x : List Int) : Prop where
  len : x.length = n
  pos : ∀ v : Nat, v < n → 0 ≤ gi x v ∧ gi x v ≤ n
  fit : ∀ a ∈ arcs, gi x a.From.toNat + 1 ≤ gi x a.To.toNat
  tight : ∀ v : Nat, v < n → 0 < gi x v → ∃ a ∈ arcs, a.To = v ∧ gi x a.From.toNat + 1 = gi x v
end Mu
