/- Layer 10: make. -/
import Derived.Test.YtofdeafffbkgbaaMuM10b
set_option linter.unusedVariables false
set_option linter.unusedSimpArgs false
set_option maxRecDepth 10000
namespace Mu

theorem loop_meas {σ ρ : Type} {step : σ → Option (σ ⊕ ρ)} (μ : σ → Nat) (I : σ → Prop) {s0 : σ} {R : ρ → Prop} (hn : μ s0 < big) (h0 : I s0) (hs : ∀ s, I s → (∃ s', step s = some (.inl s') ∧ I s' ∧ μ s' < μ s) ∨ ∃ r, step s = some (.inr r) ∧ R r) : ∃ r, loopF step big s0 = some r ∧ R r := by
  have key : ∀ k s, μ s ≤ k → I s → ∃ r, loopF step (k + 1) s = some r ∧ R r := by
    intro k
    induction k with
    | zero =>
      intro s hk hI
      rcases hs s hI with ⟨s', h1, h2, h3⟩ | ⟨r, h1, h2⟩
      · omega
      · exact ⟨r, by simp only [loopF, h1], h2⟩
    | succ k ih =>
      intro s hk hI
      rcases hs s hI with ⟨s', h1, h2, h3⟩ | ⟨r, h1, h2⟩
      · obtain ⟨r, hr, hR⟩ := ih s' (by omega) h2
        exact ⟨r, by rw [loopF, h1]; exact hr, hR⟩
      · exact ⟨r, by rw [loopF, h1], h2⟩
  obtain ⟨r, hr, hR⟩ := key (μ s0) s0 (Nat.le_refl _) h0
  exact ⟨r, loopF_le hr (by omega), hR⟩

/-- The points. -/
structure Pts (at_ : List T_api_Point) : Prop where
  b : ∀ i, i < at_.length → 0 ≤ (gi at_ i).X ∧ (gi at_ i).X < 8 ∧ 0 ≤ (gi at_ i).Y ∧ (gi at_ i).Y < 8
  d : ∀ i j, i < at_.length → j < at_.length → gi at_ i = gi at_ j → i = j
theorem Pts.nil : Pts [] := ⟨fun i h => by simp at h, fun i j h => by simp at h⟩
theorem Pts.app {at_ : List T_api_Point} (h : Pts at_) {p : T_api_Point} (hp : 0 ≤ p.X ∧ p.X < 8 ∧ 0 ≤ p.Y ∧ p.Y < 8) (hn : ∀ k, k < at_.length → gi at_ k ≠ p) : Pts (at_ ++ [p]) := by
  have g1 : ∀ i, i < at_.length → gi (at_ ++ [p]) i = gi at_ i := fun i hi => gi_append_left hi
  have g2 : gi (at_ ++ [p]) at_.length = p := by
    have := gi_append_right (l := at_) (m := [p]) (i := 0)
    rw [Nat.add_zero] at this
    rw [this]; rfl
  refine ⟨fun i hi => ?_, fun i j hi hj hij => ?_⟩
  · simp only [List.length_append, List.length_cons, List.length_nil] at hi
    by_cases c : i < at_.length
    · rw [g1 i c]; exact h.b i c
    · rw [show i = at_.length by omega, g2]; exact hp
  · simp only [List.length_append, List.length_cons, List.length_nil] at hi hj
    by_cases c : i < at_.length <;> by_cases c2 : j < at_.length
    · rw [g1 i c, g1 j c2] at hij; exact h.d i j c c2 hij
    · rw [g1 i c, show j = at_.length by omega, g2] at hij; exact absurd hij (hn i c)
    · rw [g1 j c2, show i = at_.length by omega, g2] at hij; exact absurd hij.symm (hn j c2)
    · omega
theorem near_inj {at_ : List T_api_Point} (hp : Pts at_) {i j d : Nat} {w : Nat} (hi : i < at_.length) (hj : j < at_.length) (hd : d < 2) (h1 : NearTo at_ i d at_.length w) (h2 : NearTo at_ j d at_.length w) : i = j := by
  rcases h1 with ⟨h, _⟩ | ⟨w1, e1, l1, c1, m1⟩
  · omega
  rcases h2 with ⟨h, _⟩ | ⟨w2, e2, l2, c2, m2⟩
  · omega
  obtain rfl : w = w1 := by omega
  obtain rfl : w = w2 := by omega
  apply hp.d i j hi hj
  have x1 := m1 j hj
  have x2 := m2 i hi
  have c1 := c1.2
  have c2 := c2.2
  unfold cand closer at x1 x2
  by_cases z : d = 0
  · simp only [if_pos z] at *
    have hX : (gi at_ i).X = (gi at_ j).X := by
      by_cases q1 : (gi at_ i).X < (gi at_ j).X
      · have := x1 ⟨hj, by omega, q1⟩; omega
      · by_cases q2 : (gi at_ j).X < (gi at_ i).X
        · have := x2 ⟨hi, by omega, q2⟩; omega
        · omega
    have hY : (gi at_ i).Y = (gi at_ j).Y := by omega
    generalize gi at_ i = p at *
    generalize gi at_ j = q at *
    obtain ⟨a, b⟩ := p
    obtain ⟨a', b'⟩ := q
    simp only at hX hY
    rw [hX, hY]
  · simp only [if_neg z] at *
    have hX : (gi at_ i).Y = (gi at_ j).Y := by
      by_cases q1 : (gi at_ i).Y < (gi at_ j).Y
      · have := x1 ⟨hj, by omega, q1⟩; omega
      · by_cases q2 : (gi at_ j).Y < (gi at_ i).Y
        · have := x2 ⟨hi, by omega, q2⟩; omega
        · omega
    have hY : (gi at_ i).X = (gi at_ j).X := by omega
    generalize gi at_ i = p at *
    generalize gi at_ j = q at *
    obtain ⟨a, b⟩ := p
    obtain ⟨a', b'⟩ := q
    simp only at hX hY
    rw [hX, hY]
/-- What is kept while edges are laid. -/
structure Mk (at_ : List T_api_Point) (l : List T_api_Cell) (i d : Nat) : Prop where
  len : l.length = at_.length
  ck : Ck l
  near : ∀ v e, v < l.length → e < 2 → nx l v e = -1 ∨ ((v < i ∨ v = i ∧ e < d) ∧ NearTo at_ v e at_.length (nx l v e))
  own : ∀ v e, v < l.length → e < 4 → -2 ≤ ow l v e ∧ ow l v e ≤ 1000
theorem Mk.step {at_ : List T_api_Point} {l : List T_api_Cell} {i d : Nat} (h : Mk at_ l i d) : Mk at_ l i (d + 1) :=
  ⟨h.len, h.ck, fun v e hv he => (h.near v e hv he).imp id (fun ⟨a, b⟩ => ⟨by omega, b⟩), h.own⟩
theorem Mk.next {at_ : List T_api_Point} {l : List T_api_Cell} {i : Nat} (h : Mk at_ l i 2) : Mk at_ l (i + 1) 0 :=
  ⟨h.len, h.ck, fun v e hv he => (h.near v e hv he).imp id (fun ⟨a, b⟩ => ⟨by omega, b⟩), h.own⟩
theorem Ck.lt {l : List T_api_Cell} (h : Ck l) {v d : Nat} (hv : v < l.length) (hd : d < 4) : -1 ≤ nx l v d ∧ nx l v d < l.length := by
  rcases h.s v d hv hd with ⟨a, _⟩ | ⟨w, a, b, _⟩ <;> omega
theorem Mk.lay {at_ : List T_api_Point} (hp : Pts at_) {l : List T_api_Cell} {i d w : Nat} {o : Int} (h : Mk at_ l i d) (hi : i < l.length) (hd : d < 2) (hw : NearTo at_ i d at_.length w) (ho : -2 ≤ o ∧ o ≤ 1000) : Mk at_ (wth l i d w o) i (d + 1) := by
  have hl := h.len
  have hwl : w < l.length ∧ cand at_ i d w := by
    rcases hw with ⟨e, _⟩ | ⟨j, e, h1, h2, _⟩
    · omega
    · have : w = j := by omega
      subst this; exact ⟨by omega, h2⟩
  have hne : i ≠ w := by
    rintro rfl
    have := hwl.2.2
    split at this <;> omega
  have n1 : nx l i d = -1 := by
    rcases h.near i d hi (by omega) with e | ⟨e, _⟩
    · exact e
    · omega
  have n2 : nx l w ((d + 2) % 4) = -1 := by
    rcases h.ck.s w ((d + 2) % 4) hwl.1 (by omega) with ⟨e, _⟩ | ⟨x, e1, e2, e3, e4, e5, e6⟩
    · exact e
    · rw [show ((d + 2) % 4 + 2) % 4 = d by omega] at e4
      rcases h.near x d e2 hd with e | ⟨e, e7⟩
      · omega
      · rw [e4] at e7
        have := near_inj hp (by omega) (by omega) hd e7 hw
        subst this
        omega
  have m1 := fun v e hv he => (nx_wth (o := o) hi hwl.1 hne (show d < 4 by omega) (i := v) (e := e) hv he).1
  have m2 := fun v e hv he => (nx_wth (o := o) hi hwl.1 hne (show d < 4 by omega) (i := v) (e := e) hv he).2
  refine ⟨by rw [wth_length]; exact hl, h.ck.wth hi hwl.1 hne (by omega) n1 n2 ho.1, fun v e hv he => ?_, fun v e hv he => ?_⟩
  · rw [wth_length] at hv
    rw [m1 v e hv (by omega)]
    by_cases c : v = i ∧ e = d
    · rw [if_pos c]
      right
      refine ⟨by omega, ?_⟩
      rw [c.1, c.2]; exact hw
    · rw [if_neg c]
      rw [if_neg (fun c2 => by omega)]
      exact (h.near v e hv he).imp id (fun ⟨a, b⟩ => ⟨by omega, b⟩)
  · rw [wth_length] at hv
    rw [m2 v e hv he]
    by_cases c : v = i ∧ e = d
    · rw [if_pos c]; exact ho
    · rw [if_neg c]
      by_cases c2 : v = w ∧ e = (d + 2) % 4
      · rw [if_pos c2]; exact ho
      · rw [if_neg c2]; exact h.own v e hv he
/-- One cell's edges. -/
theorem mMake3 {at_ : List T_api_Point} (hp : Pts at_) (h1000 : at_.length ≤ 1000) {l : List T_api_Cell} {i : Nat} {b o : Int} (h : Mk at_ l i 0) (hi : i < l.length) (ho : -2 ≤ o ∧ o ≤ 1000) : ∃ l', loopF (p_muntinref10_Make.s3 i b at_ o) big (l, 0) = some l' ∧ Mk at_ l' i 2 ∧ i < l'.length := by
  refine loop_inv (n := 2) (I := fun n (s : List T_api_Cell × Int) => s.2 = n ∧ Mk at_ s.1 i n ∧ i < s.1.length) (R := fun l' => Mk at_ l' i 2 ∧ i < l'.length) (big_lt (by omega)) ⟨rfl, h, hi⟩ ?_ ?_
  · rintro d ⟨l, x⟩ hd ⟨hx, hM, hi⟩
    dsimp only at hx hM hi
    subst hx
    have hl := hM.len
    obtain ⟨w, hw, hN⟩ := mNear (at_ := at_) (i := i) (d := d) h1000 (by omega) hd
    simp only [p_muntinref10_Make.s3]
    rw [ifd_pos (by omega), hw, Option.bind_some, ck_pos (by omega), ckI64 (by omega)]
    by_cases c : ((decide (ari_and .u8 (sh_shr .u8 b d) 1 = 0)) || (decide (w < 0))) = true
    · rw [if_pos c]
      exact ⟨_, rfl, rfl, hM.step, hi⟩
    · rw [if_neg c]
      have hw0 : ¬ w < 0 := by
        intro hh
        apply c
        simp [hh]
      obtain ⟨wn, rfl⟩ : ∃ wn : Nat, w = wn := ⟨w.toNat, by omega⟩
      have hwl : wn < l.length := by
        rcases hN with ⟨e, _⟩ | ⟨j, e, h1, h2, _⟩
        · omega
        · omega
      rw [mCrossed hl.symm (by omega) hi hwl (fun a e ha he => (hM.ck.lt ha (by omega)).2), Option.bind_some, mWith (by omega) (by omega)]
      by_cases c2 : (!crossP at_ l i wn) = true
      · rw [if_pos c2, Option.bind_some, ckI64 (by omega)]
        exact ⟨_, rfl, rfl, hM.lay hp hi hd hN ho, by rw [wth_length]; exact hi⟩
      · rw [if_neg c2]
        exact ⟨_, rfl, rfl, hM.step, hi⟩
  · rintro ⟨l, x⟩ ⟨hx, hM, hi⟩
    dsimp only at hx hM hi
    subst hx
    simp only [p_muntinref10_Make.s3]
    rw [ifd_neg (by omega)]
    exact ⟨_, rfl, hM, hi⟩

/-- All edges. -/
theorem mMake2 {z : T_muntinref10_Places} {at_ : List T_api_Point} (hp : Pts at_) (h1000 : at_.length ≤ 1000) (hown : ∀ y ∈ z.Own, Wf .i8 y) {l : List T_api_Cell} (h : Mk at_ l 0 0) : ∃ r : List T_api_Point × List T_api_Cell, loopF (p_muntinref10_Make.s2 z) big (at_, l, 0) = some r ∧ r.1 = at_ ∧ Mk at_ r.2 at_.length 0 := by
  refine loop_inv (n := at_.length) (I := fun n (s : List T_api_Point × List T_api_Cell × Int) => s.1 = at_ ∧ s.2.2 = n ∧ Mk at_ s.2.1 n 0) (s0 := (at_, l, (0 : Int))) (R := fun r : List T_api_Point × List T_api_Cell => r.1 = at_ ∧ Mk at_ r.2 at_.length 0) (big_lt (by omega)) ⟨rfl, rfl, h⟩ ?_ ?_
  · rintro i ⟨a, l, x⟩ hi ⟨ha, hx, hM⟩
    dsimp only at ha hx hM
    subst ha hx
    have hb : ∃ b, (if decide ((i : Int) < (z.Bits.length : Int)) = true then ck ((0 : Int) ≤ (i : Int) ∧ (i : Int) < (z.Bits.length : Int)) (some (a, l, gi z.Bits (i : Int).toNat)) else some (a, l, 3)) = some (a, l, b) := by
      by_cases c : (i : Int) < (z.Bits.length : Int)
      · exact ⟨gi z.Bits i, by rw [ifd_pos c, ck_pos (by omega)]; rfl⟩
      · exact ⟨3, by rw [ifd_neg c]⟩
    have ho : ∃ o : Int, (-2 ≤ o ∧ o ≤ 1000) ∧ (if decide ((i : Int) < (z.Own.length : Int)) = true then ck ((0 : Int) ≤ (i : Int) ∧ (i : Int) < (z.Own.length : Int)) (ck (inK .i64 (gi z.Own (i : Int).toNat)) (if decide ((gi z.Own (i : Int).toNat) < (-2)) = true then ck (in64 (-(gi z.Own (i : Int).toNat))) (some (a, l, -(gi z.Own (i : Int).toNat))) else some (a, l, gi z.Own (i : Int).toNat))) else some (a, l, (i : Int))) = some (a, l, o) := by
      by_cases c : (i : Int) < (z.Own.length : Int)
      · have hw := (hown _ (gi_mem (show i < z.Own.length by omega))).i8
        rw [ifd_pos c, ck_pos (by omega), Int.toNat_natCast, ckK64 (by omega)]
        by_cases c2 : gi z.Own i < -2
        · exact ⟨-(gi z.Own i), by omega, by rw [ifd_pos c2, ckI64 (by omega)]⟩
        · exact ⟨gi z.Own i, by omega, by rw [ifd_neg c2]⟩
      · exact ⟨i, by omega, by rw [ifd_neg c]⟩
    obtain ⟨b, hb⟩ := hb
    obtain ⟨o, ho1, ho⟩ := ho
    have hl := hM.len
    obtain ⟨l', h1, h2, h3⟩ := mMake3 (b := b) hp h1000 hM (by omega) ho1
    simp only [p_muntinref10_Make.s2]
    rw [ifd_pos (by omega), hb, Option.bind_some]
    dsimp only
    rw [ho, Option.bind_some]
    dsimp only
    rw [h1, Option.bind_some, ckI64 (by omega)]
    exact ⟨_, rfl, rfl, rfl, h2.next⟩
  · rintro ⟨a, l, x⟩ ⟨ha, hx, hM⟩
    dsimp only at ha hx hM
    subst ha hx
    simp only [p_muntinref10_Make.s2]
    rw [ifd_neg (by omega)]
    exact ⟨_, rfl, rfl, hM⟩
/-- Is the place taken? -/
theorem mMake1 {z : T_muntinref10_Places} {at_ : List T_api_Point} {i : Nat} (h1000 : at_.length ≤ 1000) : ∃ m : Bool, loopF (p_muntinref10_Make.s1 z at_ i) big (false, 0) = some (at_, m) ∧ (m = false → ∀ k, k < at_.length → gi at_ k ≠ (⟨(gi z.At i).tmod 8, ((gi z.At i).tdiv 8).tmod 8⟩ : T_api_Point)) := by
  obtain ⟨r, h1, h2, h3⟩ := loop_inv (step := p_muntinref10_Make.s1 z at_ i) (s0 := ((false : Bool), (0 : Int))) (n := at_.length) (I := fun n (s : Bool × Int) => s.2 = n ∧ (s.1 = false → ∀ k, k < n → gi at_ k ≠ (⟨(gi z.At i).tmod 8, ((gi z.At i).tdiv 8).tmod 8⟩ : T_api_Point))) (R := fun r : List T_api_Point × Bool => r.1 = at_ ∧ (r.2 = false → ∀ k, k < at_.length → gi at_ k ≠ (⟨(gi z.At i).tmod 8, ((gi z.At i).tdiv 8).tmod 8⟩ : T_api_Point))) (big_lt (by omega)) ⟨rfl, fun _ k hk => by omega⟩ (by
    rintro n ⟨m, x⟩ hn ⟨hx, hm⟩
    dsimp only at hx hm
    subst hx
    simp only [p_muntinref10_Make.s1]
    rw [ifd_pos (by omega)]
    cases m with
    | true =>
      rw [if_pos rfl, Option.bind_some, ckI64 (by omega)]
      exact ⟨_, rfl, rfl, fun h => by cases h⟩
    | false =>
      rw [if_neg (by decide), ck_pos (by omega), Option.bind_some, ckI64 (by omega), Int.toNat_natCast, Int.toNat_natCast]
      refine ⟨_, rfl, rfl, fun h k hk => ?_⟩
      rcases Nat.lt_succ_iff_lt_or_eq.1 hk with h' | rfl
      · exact hm rfl k h'
      · simpa using h) (by
    rintro ⟨m, x⟩ ⟨hx, hm⟩
    dsimp only at hx hm
    subst hx
    simp only [p_muntinref10_Make.s1]
    rw [ifd_neg (by omega)]
    exact ⟨_, rfl, rfl, hm⟩)
  obtain ⟨a, m⟩ := r
  dsimp only at h2 h3
  subst h2
  exact ⟨m, h1, h3⟩
theorem mMake0 {z : T_muntinref10_Places} {most : Int} (hm : 0 ≤ most ∧ most ≤ 1000) (hlen : z.At.length ≤ 9223372036854775807) (hat : ∀ y ∈ z.At, Wf .u8 y) : ∃ a, loopF (p_muntinref10_Make.s0 z most) big (([] : List T_api_Point), 0) = some a ∧ Pts a ∧ (a.length : Int) ≤ most := by
  refine loop_meas (μ := fun s : List T_api_Point × Int => ((z.At.length : Int) - s.2).toNat) (I := fun s => 0 ≤ s.2 ∧ Pts s.1 ∧ (s.1.length : Int) ≤ most) (R := fun a => Pts a ∧ (a.length : Int) ≤ most) (big_lt (by omega)) ⟨by decide, Pts.nil, by simpa using hm.1⟩ ?_
  rintro ⟨a, i⟩ ⟨h1, h2, h3⟩
  dsimp only at h1 h2 h3
  obtain ⟨n, rfl⟩ : ∃ n : Nat, i = n := ⟨i.toNat, by omega⟩
  simp only [p_muntinref10_Make.s0]
  by_cases c : ((decide ((n : Int) < (z.At.length : Int))) && (decide ((a.length : Int) < most))) = true
  · left
    rw [if_pos c]
    rw [Bool.and_eq_true, decide_eq_true_iff, decide_eq_true_iff] at c
    have hu := (hat _ (gi_mem (show n < z.At.length by omega))).u8
    obtain ⟨m, e1, e2⟩ := mMake1 (z := z) (at_ := a) (i := n) (by omega)
    have hdv : 0 ≤ (gi z.At n).tdiv 8 ∧ (gi z.At n).tdiv 8 ≤ 255 := by
      rw [Int.tdiv_eq_ediv_of_nonneg hu.1]; omega
    rw [ck_pos (by omega), Int.toNat_natCast, ckK64 (by omega), ck_pos ⟨by omega, by constructor <;> omega⟩, e1, Option.bind_some]
    dsimp only
    cases m with
    | false =>
      rw [if_pos (by decide), ck_pos (by simp; omega), ckI64 (by omega)]
      refine ⟨_, rfl, ⟨by omega, h2.app ?_ (e2 rfl), by simp; omega⟩, by dsimp only; omega⟩
      have a1 := Int.tmod_nonneg 8 hu.1
      have a2 := Int.tmod_lt_of_pos (gi z.At n) (show (0 : Int) < 8 by omega)
      have a3 := Int.tmod_nonneg 8 hdv.1
      have a4 := Int.tmod_lt_of_pos ((gi z.At n).tdiv 8) (show (0 : Int) < 8 by omega)
      exact ⟨a1, a2, a3, a4⟩
    | true =>
      rw [if_neg (by decide), ckI64 (by omega)]
      exact ⟨_, rfl, ⟨by dsimp only; omega, h2, h3⟩, by dsimp only; omega⟩
  · right
    rw [if_neg c]
    exact ⟨_, rfl, h2, h3⟩
/-- What Make gives. -/
structure Made (l : List T_api_Cell) (at_ : List T_api_Point) : Prop where
  pts : Pts at_
  len : l.length = at_.length
  ck : Ck l
  near : ∀ v e, v < l.length → e < 2 → nx l v e = -1 ∨ NearTo at_ v e at_.length (nx l v e)
  own : ∀ v e, v < l.length → e < 4 → -2 ≤ ow l v e ∧ ow l v e ≤ 1000
structure OkZ (z : T_muntinref10_Places) : Prop where
  a : z.At.length ≤ 9223372036854775807
  b : ∀ y ∈ z.At, Wf .u8 y
  o : ∀ y ∈ z.Own, Wf .i8 y
theorem mMake {z : T_muntinref10_Places} {most : Int} (hz : OkZ z) (hm : 0 ≤ most ∧ most ≤ 1000) : ∃ l at_, p_muntinref10_Make z most = some (l, at_) ∧ Made l at_ ∧ (l.length : Int) ≤ most := by
  obtain ⟨a, h1, hp, hl⟩ := mMake0 hm hz.a hz.b
  have hM : Mk a (List.replicate a.length noC) 0 0 := ⟨by simp, Ck.new _, fun v e hv he => .inl (by
      have : gi (List.replicate a.length noC) v = noC := by rw [gi_eq hv]; simp
      unfold nx; rw [this]
      match e, he with
      | 0, _ | 1, _ => rfl), fun v e hv he => by
      have : gi (List.replicate a.length noC) v = noC := by rw [gi_eq hv]; simp
      unfold ow; rw [this]
      match e, he with
      | 0, _ | 1, _ | 2, _ | 3, _ => decide⟩
  obtain ⟨⟨a', l⟩, h2, h3, h4⟩ := mMake2 (z := z) hp (by omega) hz.o hM
  dsimp only at h3 h4
  subst h3
  refine ⟨l, a', ?_, ⟨hp, h4.len, h4.ck, fun v e hv he => (h4.near v e hv he).imp id (·.2), h4.own⟩, by rw [h4.len]; exact hl⟩
  unfold p_muntinref10_Make
  rw [h1, Option.bind_some, mNew (by omega), Option.bind_some, h2, Option.bind_some]
end Mu
