/- Layer 13: spread. -/
import Derived.Test.YtofdeafffbkgbaaMuM13
set_option linter.unusedVariables false
set_option linter.unusedSimpArgs false
set_option maxRecDepth 10000
namespace Mu

theorem count_set_t : ∀ {m : List Bool} {w : Nat}, w < m.length → gi m w = false → (m.set w true).count false + 1 = m.count false
  | [], w, h, _ => by simp at h
  | b :: m, 0, _, hf => by
    have : b = false := hf
    subst this
    simp
  | b :: m, w + 1, h, hf => by
    have := count_set_t (m := m) (w := w) (by simpa using h) hf
    cases b <;> simp [List.count_cons] <;> omega
structure Sb (l : List T_api_Cell) (v : Nat) (δ : Nat → Nat) (fr dr : List Int) (mt : List Bool) : Prop where
  lf : fr.length = l.length
  ld : dr.length = l.length
  lm : mt.length = l.length
  mv : gi mt v = true
  dv : δ v = 0
  rc : ∀ a, gi mt a = true → Rch l v (δ a) a
  fm : ∀ a, gi mt a = true → a ≠ v → ∃ p d : Nat, gi fr a = p ∧ gi dr a = d ∧ d < 4 ∧ gi mt p = true ∧ nx l p d = a ∧ δ a = δ p + 1
  un : ∀ a, a < l.length → gi mt a = false → gi dr a = -1
structure So (l : List T_api_Cell) (v : Nat) (δ : Nat → Nat) (q : List Int) (mt : List Bool) : Prop where
  el : ∀ x ∈ q, ∃ a : Nat, x = a ∧ a < l.length ∧ gi mt a = true
  so : q.Pairwise fun x y => δ x.toNat ≤ δ y.toNat ∧ δ y.toNat ≤ δ x.toNat + 1
  pr : ∀ a : Nat, gi mt a = true → (a : Int) ∉ q → (∀ x ∈ q, δ a ≤ δ x.toNat) ∧ ∀ b, Adj l a b → gi mt b = true ∧ δ b ≤ δ a + 1
structure Si (l : List T_api_Cell) (v h : Nat) (δ : Nat → Nat) (q : List Int) (mt : List Bool) (d : Nat) : Prop where
  hm : gi mt h = true
  el : ∀ x ∈ q, ∃ a : Nat, x = a ∧ a < l.length ∧ gi mt a = true ∧ δ h ≤ δ a ∧ δ a ≤ δ h + 1
  so : q.Pairwise fun x y => δ x.toNat ≤ δ y.toNat
  pr : ∀ a : Nat, gi mt a = true → (a : Int) ∉ q → a ≠ h → δ a ≤ δ h ∧ ∀ b, Adj l a b → gi mt b = true ∧ δ b ≤ δ a + 1
  hd : ∀ e, e < d → ∀ b : Nat, nx l h e = b → gi mt b = true ∧ δ b ≤ δ h + 1
theorem So.open {l : List T_api_Cell} {v h : Nat} {δ : Nat → Nat} {t : List Int} {mt : List Bool} (s : So l v δ ((h : Int) :: t) mt) : Si l v h δ t mt 0 := by
  have hs := List.pairwise_cons.1 s.so
  refine ⟨?_, fun x hx => ?_, hs.2.imp (fun h => h.1), fun a ha hn hne => ?_, fun e he => by omega⟩
  · obtain ⟨a, e, _, hh⟩ := s.el _ List.mem_cons_self
    obtain rfl : h = a := by omega
    exact hh
  · obtain ⟨a, e, h1, h2⟩ := s.el x (List.mem_cons_of_mem _ hx)
    have := hs.1 x hx
    subst e
    exact ⟨a, rfl, h1, h2, by simpa using this.1, by simpa using this.2⟩
  · have := s.pr a ha (by
      rw [List.mem_cons]
      rintro (h | h)
      · omega
      · exact hn h)
    exact ⟨by simpa using this.1 _ List.mem_cons_self, this.2⟩
theorem Si.close {l : List T_api_Cell} {v h : Nat} {δ : Nat → Nat} {t : List Int} {mt : List Bool} (s : Si l v h δ t mt 4) : So l v δ t mt := by
  have b : ∀ x ∈ t, δ h ≤ δ x.toNat ∧ δ x.toNat ≤ δ h + 1 := by
    intro x hx
    obtain ⟨a, rfl, _, _, h1, h2⟩ := s.el x hx
    exact ⟨h1, h2⟩
  refine ⟨fun x hx => ?_, ?_, fun a ha hn => ?_⟩
  · obtain ⟨a, e, h1, h2, _⟩ := s.el x hx
    exact ⟨a, e, h1, h2⟩
  · refine List.Pairwise.imp_of_mem ?_ s.so
    intro x y hx hy hxy
    have := b x hx
    have := b y hy
    exact ⟨hxy, by omega⟩
  · by_cases c : a = h
    · subst c
      refine ⟨fun x hx => (b x hx).1, ?_⟩
      rintro w ⟨d, hd, e⟩
      exact s.hd d hd w e
    · have := s.pr a ha hn c
      refine ⟨fun x hx => ?_, this.2⟩
      have := b x hx
      omega
/-- A cell is met. -/
theorem Sb.meet {l : List T_api_Cell} (hc : Ck l) {v h d w : Nat} {δ : Nat → Nat} {fr dr : List Int} {mt : List Bool} (s : Sb l v δ fr dr mt) (hm : gi mt h = true) (hd : d < 4) (hw : nx l h d = w) (hwl : w < l.length) (hu : gi mt w = false) :
    Sb l v (fun a => if a = w then δ h + 1 else δ a) (fr.set w h) (dr.set w d) (mt.set w true) := by
  have gm : ∀ a, gi (mt.set w true) a = if a = w then true else gi mt a := fun a => gi_set (by rw [s.lm]; exact hwl)
  have gf : ∀ a, gi (fr.set w (h : Int)) a = if a = w then (h : Int) else gi fr a := fun a => gi_set (by rw [s.lf]; exact hwl)
  have gd : ∀ a, gi (dr.set w (d : Int)) a = if a = w then (d : Int) else gi dr a := fun a => gi_set (by rw [s.ld]; exact hwl)
  have hwh : h ≠ w := by rintro rfl; rw [hm] at hu; cases hu
  have hwv : v ≠ w := by rintro rfl; rw [s.mv] at hu; cases hu
  have old : ∀ a, gi mt a = true → a ≠ w := by rintro a ha rfl; rw [ha] at hu; cases hu
  refine ⟨by simpa using s.lf, by simpa using s.ld, by simpa using s.lm, ?_, ?_, fun a ha => ?_, fun a ha hav => ?_, fun a ha hau => ?_⟩
  · rw [gm, s.mv]; simp
  · rw [if_neg hwv]; exact s.dv
  · by_cases c : a = w
    · subst c
      rw [if_pos rfl]
      exact .succ (s.rc h hm) ⟨d, hd, hw⟩
    · rw [if_neg c]
      rw [gm, if_neg c] at ha
      exact s.rc a ha
  · by_cases c : a = w
    · subst c
      refine ⟨h, d, by rw [gf, if_pos rfl], by rw [gd, if_pos rfl], hd, by rw [gm, hm]; simp, hw, ?_⟩
      rw [if_pos rfl, if_neg hwh]
    · rw [gm, if_neg c] at ha
      obtain ⟨p, e, h1, h2, h3, h4, h5, h6⟩ := s.fm a ha hav
      refine ⟨p, e, by rw [gf, if_neg c]; exact h1, by rw [gd, if_neg c]; exact h2, h3, by rw [gm, h4]; simp, h5, ?_⟩
      rw [if_neg c, if_neg (old p h4)]; exact h6
  · rw [gm] at hau
    by_cases c : a = w
    · rw [if_pos c] at hau; cases hau
    · rw [if_neg c] at hau
      rw [gd, if_neg c]
      exact s.un a ha hau
theorem Si.meet {l : List T_api_Cell} {v h d w : Nat} {δ : Nat → Nat} {q : List Int} {mt : List Bool} (lm : mt.length = l.length) (s : Si l v h δ q mt d) (hw : nx l h d = w) (hwl : w < l.length) (hu : gi mt w = false) :
    Si l v h (fun a => if a = w then δ h + 1 else δ a) (q ++ [(w : Int)]) (mt.set w true) (d + 1) := by
  have gm : ∀ a, gi (mt.set w true) a = if a = w then true else gi mt a := fun a => gi_set (by rw [lm]; exact hwl)
  have old : ∀ a, gi mt a = true → a ≠ w := by rintro a ha rfl; rw [ha] at hu; cases hu
  have hwh : h ≠ w := old h s.hm
  have keep : ∀ a, gi mt a = true → gi (mt.set w true) a = true := fun a ha => by rw [gm, ha]; simp
  refine ⟨keep h s.hm, fun x hx => ?_, ?_, fun a ha hn hne => ?_, fun e he b hb => ?_⟩
  · rw [List.mem_append, List.mem_singleton] at hx
    rw [if_neg hwh]
    rcases hx with hx | rfl
    · obtain ⟨a, e, h1, h2, h3, h4⟩ := s.el x hx
      exact ⟨a, e, h1, keep a h2, by rw [if_neg (old a h2)]; exact h3, by rw [if_neg (old a h2)]; exact h4⟩
    · exact ⟨w, rfl, hwl, by rw [gm, if_pos rfl], by rw [if_pos rfl]; omega, by rw [if_pos rfl]; omega⟩
  · rw [List.pairwise_append]
    refine ⟨List.Pairwise.imp_of_mem ?_ s.so, List.pairwise_singleton _ _, fun x hx y hy => ?_⟩
    · intro x y hx hy hxy
      obtain ⟨a, rfl, h1, h2, h3, h4⟩ := s.el x hx
      obtain ⟨b, rfl, k1, k2, k3, k4⟩ := s.el y hy
      simp only [Int.toNat_natCast] at hxy ⊢
      rw [if_neg (old a h2), if_neg (old b k2)]
      exact hxy
    · rw [List.mem_singleton] at hy
      subst hy
      obtain ⟨a, rfl, h1, h2, h3, h4⟩ := s.el x hx
      simp only [Int.toNat_natCast]
      rw [if_neg (old a h2)]
      simpa using h4
  · rw [List.mem_append, List.mem_singleton] at hn
    have haw : a ≠ w := fun c => hn (.inr (by omega))
    rw [gm, if_neg haw] at ha
    have := s.pr a ha (fun c => hn (.inl c)) hne
    rw [if_neg haw, if_neg hwh]
    refine ⟨this.1, fun b hb => ?_⟩
    have := this.2 b hb
    exact ⟨keep b this.1, by rw [if_neg (old b this.1)]; exact this.2⟩
  · rw [if_neg hwh]
    by_cases c : e = d
    · subst c
      have : b = w := by omega
      subst this
      exact ⟨by rw [gm, if_pos rfl], by rw [if_pos rfl]; omega⟩
    · have := s.hd e (by omega) b hb
      exact ⟨keep b this.1, by rw [if_neg (old b this.1)]; exact this.2⟩
theorem Si.skip {l : List T_api_Cell} {v h d : Nat} {δ : Nat → Nat} {q : List Int} {mt : List Bool} (s : Si l v h δ q mt d) (hs : ∀ w : Nat, nx l h d = w → gi mt w = true) : Si l v h δ q mt (d + 1) := by
  refine ⟨s.hm, s.el, s.so, s.pr, fun e he b hb => ?_⟩
  by_cases c : e = d
  · subst c
    have hm := hs b hb
    refine ⟨hm, ?_⟩
    by_cases c1 : (b : Int) ∈ q
    · obtain ⟨a, e, _, _, _, h4⟩ := s.el _ c1
      have : b = a := by omega
      subst this; exact h4
    · by_cases c2 : b = h
      · subst c2; omega
      · have := (s.pr b hm c1 c2).1
        omega
  · exact s.hd e (by omega) b hb
end Mu
