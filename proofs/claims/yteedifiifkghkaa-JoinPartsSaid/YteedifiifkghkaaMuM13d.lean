/- Layer 13: far. -/
import Derived.Test.YteedifiifkghkaaMuM13c
set_option linter.unusedVariables false
set_option linter.unusedSimpArgs false
set_option maxRecDepth 10000
namespace Mu

/-- How far after so many rounds, the cells ahead of i done, of i the directions ahead of d. -/
structure Fa (l : List T_api_Cell) (v r i d : Nat) (far : List Int) : Prop where
  lf : far.length = l.length
  so : ∀ a, a < l.length → gi far a = -1 ∨ ∃ n : Nat, gi far a = n ∧ Dist l v a n ∧ n ≤ r + 1
  al : ∀ a n, Dist l v a n → n ≤ r → gi far a = n
  nw : ∀ (a b e : Nat), e < 4 → Dist l v a r → nx l a e = b → (a < i ∨ a = i ∧ e < d) → 0 ≤ gi far b
/-- The distance as a number: -1, where there is none. -/
def IsFar (l : List T_api_Cell) (v a : Nat) (x : Int) : Prop := (x = -1 ∧ ∀ n, ¬ Rch l v n a) ∨ ∃ n : Nat, x = n ∧ Dist l v a n
theorem Fa.close {l : List T_api_Cell} (hc : Ck l) {v r : Nat} {far : List Int} (hv : v < l.length) (h : Fa l v r l.length 0 far) : Fa l v (r + 1) 0 0 far := by
  refine ⟨h.lf, fun a ha => (h.so a ha).imp id (fun ⟨n, e, d, k⟩ => ⟨n, e, d, by omega⟩), fun a n hd hn => ?_, fun a b e he hd hw hh => by omega⟩
  by_cases c : n ≤ r
  · exact h.al a n hd c
  · obtain rfl : n = r + 1 := by omega
    obtain ⟨p, hp, e, he, hw⟩ := hd.pred
    have hpl := hp.1.lt hc hv
    have := h.nw p a e he hp hw (.inl hpl)
    rcases h.so a (hd.1.lt hc hv) with e1 | ⟨m, e1, e2, e3⟩
    · omega
    · rw [e1, e2.uniq hd]
theorem mFar3 {l : List T_api_Cell} (hc : Ck l) (hl : l.length ≤ 4096) {v r i : Nat} {far : List Int} (hv : v < l.length) (hi : i < l.length) (h : Fa l v r i 0 far) (hr : r ≤ 4096) :
    ∃ far', loopF (p_muntinref13_Far.s3 l r i) big (far, 0) = some far' ∧ Fa l v r (i + 1) 0 far' := by
  refine loop_inv (n := 4) (I := fun d (s : List Int × Int) => s.2 = d ∧ Fa l v r i d s.1) (R := fun far' => Fa l v r (i + 1) 0 far') (big_lt (by omega)) ⟨rfl, h⟩ ?_ ?_
  · rintro d ⟨f, x⟩ hd ⟨hx, hf⟩
    dsimp only at hx hf
    subst hx
    have lf := hf.lf
    simp only [p_muntinref13_Far.s3]
    rw [ifd_pos (by omega), ck_pos (by omega), ck_pos (by omega), ck_pos (by omega), Int.toNat_natCast]
    have e : ((gi l i).Next).get (d : Int) = nx l i d := rfl
    rw [e]
    have hlt := hc.lt hi (show d < 4 from hd)
    have skip : (Dist l v i r → ∀ b : Nat, nx l i d = b → 0 ≤ gi f b) → Fa l v r i (d + 1) f := fun hs => ⟨hf.lf, hf.so, hf.al, fun a b e he ha hw hh => by
      by_cases c : a = i ∧ e = d
      · obtain ⟨rfl, rfl⟩ := c
        exact hs ha b hw
      · exact hf.nw a b e he ha hw (by omega)⟩
    by_cases c1 : gi f i = r ∧ 0 ≤ nx l i d
    · obtain ⟨w, hw⟩ : ∃ w : Nat, nx l i d = w := ⟨(nx l i d).toNat, by omega⟩
      have hd0 : Dist l v i r := by
        rcases hf.so i hi with q | ⟨n, q, q2, _⟩
        · omega
        · have : n = r := by omega
          subst this; exact q2
      have hmx : max (nx l i d) 0 = (w : Int) := by omega
      rw [if_pos (by simp [c1]), hmx, ck_pos (by omega), Option.bind_some, Int.toNat_natCast]
      have hwl : w < l.length := by omega
      by_cases c2 : gi f w < 0
      · rw [ifd_pos c2, ckI64 (by omega), ck_pos (by omega), ckI64 (by omega), hw, Int.toNat_natCast]
        have g : ∀ a, gi (f.set w ((r : Int) + 1)) a = if a = w then (r : Int) + 1 else gi f a := fun a => gi_set (by omega)
        have dw : Dist l v w (r + 1) := by
          refine ⟨.succ hd0.1 ⟨d, hd, hw⟩, fun m hm => ?_⟩
          obtain ⟨k, hk, hdk⟩ := hm.dist
          by_cases q : k ≤ r
          · have := hf.al w k hdk q; omega
          · omega
        refine ⟨_, rfl, rfl, by simpa using hf.lf, fun a ha => ?_, fun a n hdn hn => ?_, fun a b e he ha hw' hh => ?_⟩
        · rw [g]
          by_cases q : a = w
          · rw [if_pos q]; right; exact ⟨r + 1, by omega, by rw [q]; exact dw, by omega⟩
          · rw [if_neg q]; exact hf.so a ha
        · rw [g]
          by_cases q : a = w
          · subst q
            have := hf.al a n hdn hn; omega
          · rw [if_neg q]; exact hf.al a n hdn hn
        · rw [g]
          by_cases q : b = w
          · rw [if_pos q]; omega
          · rw [if_neg q]
            refine hf.nw a b e he ha hw' ?_
            by_cases q2 : a = i ∧ e = d
            · obtain ⟨rfl, rfl⟩ := q2; omega
            · omega
      · rw [ifd_neg c2, ckI64 (by omega)]
        refine ⟨_, rfl, rfl, skip (fun _ b hb => ?_)⟩
        have : b = w := by omega
        subst this; omega
    · rw [if_neg (by simpa using c1), Option.bind_some, if_neg (by decide), ckI64 (by omega)]
      refine ⟨_, rfl, rfl, skip (fun hd0 b hb => ?_)⟩
      exact absurd ⟨hf.al i r hd0 (Nat.le_refl _), by omega⟩ c1
  · rintro ⟨f, x⟩ ⟨hx, hf⟩
    dsimp only at hx hf
    subst hx
    simp only [p_muntinref13_Far.s3]
    rw [ifd_neg (by omega)]
    exact ⟨_, rfl, hf.lf, hf.so, hf.al, fun a b e he ha hw hh => hf.nw a b e he ha hw (by omega)⟩
theorem mFar2 {l : List T_api_Cell} (hc : Ck l) (hl : l.length ≤ 4096) {v r : Nat} {far : List Int} (hv : v < l.length) (h : Fa l v r 0 0 far) (hr : r ≤ 4096) :
    ∃ far', loopF (p_muntinref13_Far.s2 l r) big (far, 0) = some far' ∧ Fa l v (r + 1) 0 0 far' := by
  refine loop_inv (n := l.length) (I := fun i (s : List Int × Int) => s.2 = i ∧ Fa l v r i 0 s.1) (R := fun far' => Fa l v (r + 1) 0 0 far') (big_lt (by omega)) ⟨rfl, h⟩ ?_ ?_
  · rintro i ⟨f, x⟩ hi ⟨hx, hf⟩
    dsimp only at hx hf
    subst hx
    obtain ⟨f', e1, e2⟩ := mFar3 hc hl hv hi hf hr
    simp only [p_muntinref13_Far.s2]
    rw [ifd_pos (by omega), e1, Option.bind_some, ckI64 (by omega)]
    exact ⟨_, rfl, rfl, e2⟩
  · rintro ⟨f, x⟩ ⟨hx, hf⟩
    dsimp only at hx hf
    subst hx
    simp only [p_muntinref13_Far.s2]
    rw [ifd_neg (by omega)]
    exact ⟨_, rfl, hf.close hc hv⟩
theorem mFar0 {l : List T_api_Cell} (hl : l.length ≤ 4096) : loopF (p_muntinref13_Far.s0 l) big (List.replicate l.length 0, 0) = some (List.replicate l.length (-1)) := by
  refine loop_to (fun n : Nat => (List.replicate n (-1) ++ List.replicate (l.length - n) 0, (n : Int))) (n := l.length) (big_lt (by omega)) (by simp) (fun n hn => ?_) ?_
  · simp only [p_muntinref13_Far.s0]
    rw [ifd_pos (by omega), ck_pos (by simp; omega), ckI64 (by omega), Int.toNat_natCast, show l.length - n = l.length - (n + 1) + 1 by omega, List.replicate_succ, List.set_append_right _ _ (by simp), List.replicate_succ']
    simp
  · simp only [p_muntinref13_Far.s0]
    rw [ifd_neg (by omega)]
    simp
theorem mFar {l : List T_api_Cell} (hc : Ck l) (hl : l.length ≤ 4096) {v : Nat} (hv : v < l.length) : ∃ far, p_muntinref13_Far l v = some far ∧ far.length = l.length ∧ ∀ a, a < l.length → IsFar l v a (gi far a) := by
  have gr : ∀ a, a < l.length → gi (List.replicate l.length (-1 : Int)) a = -1 := by
    intro a h
    rw [gi_eq (by simpa using h)]; simp
  have g : ∀ a, gi ((List.replicate l.length (-1 : Int)).set v 0) a = if a = v then 0 else gi (List.replicate l.length (-1 : Int)) a := fun a => gi_set (by simpa using hv)
  have dz : Dist l v v 0 := ⟨.zero, fun m _ => by omega⟩
  have h0 : Fa l v 0 0 0 ((List.replicate l.length (-1 : Int)).set v 0) := by
    refine ⟨by simp, fun a ha => ?_, fun a n hd hn => ?_, fun a b e he hd hw hh => by omega⟩
    · rw [g]
      by_cases c : a = v
      · rw [if_pos c]; right; exact ⟨0, rfl, by rw [c]; exact dz, by omega⟩
      · rw [if_neg c]; exact .inl (gr a ha)
    · obtain rfl : n = 0 := by omega
      have := hd.1
      cases this
      rw [g, if_pos rfl]; rfl
  obtain ⟨far, e1, e2⟩ := loop_inv (step := p_muntinref13_Far.s1 l) (s0 := ((List.replicate l.length (-1 : Int)).set v 0, (0 : Int))) (n := l.length) (I := fun r (s : List Int × Int) => s.2 = r ∧ Fa l v r 0 0 s.1) (R := fun far => Fa l v l.length 0 0 far) (big_lt (by omega)) ⟨rfl, h0⟩ (by
    rintro r ⟨f, x⟩ hr ⟨hx, hf⟩
    dsimp only at hx hf
    subst hx
    obtain ⟨f', e1, e2⟩ := mFar2 hc hl hv hf (by omega)
    simp only [p_muntinref13_Far.s1]
    rw [ifd_pos (by omega), e1, Option.bind_some, ckI64 (by omega)]
    exact ⟨_, rfl, rfl, e2⟩) (by
    rintro ⟨f, x⟩ ⟨hx, hf⟩
    dsimp only at hx hf
    subst hx
    simp only [p_muntinref13_Far.s1]
    rw [ifd_neg (by omega)]
    exact ⟨_, rfl, hf⟩)
  refine ⟨far, ?_, e2.lf, fun a ha => ?_⟩
  · unfold p_muntinref13_Far
    rw [ck_pos (by omega), Int.toNat_natCast, mFar0 hl, Option.bind_some, ck_pos (by simp; omega), Int.toNat_natCast, e1, Option.bind_some]
  · by_cases c : ∃ n, Rch l v n a
    · obtain ⟨n, hn⟩ := c
      obtain ⟨m, _, hm⟩ := hn.dist
      have := hm.lt hc hv
      exact .inr ⟨m, e2.al a m hm (by omega), hm⟩
    · left
      refine ⟨?_, fun n hn => c ⟨n, hn⟩⟩
      rcases e2.so a ha with e | ⟨n, e, d, _⟩
      · exact e
      · exact absurd ⟨n, d.1⟩ c
end Mu
