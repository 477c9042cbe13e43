/- Layer 13: join's paths. -/
import Derived.Test.YteedifiifkghkaaMuM13f
set_option linter.unusedVariables false
set_option linter.unusedSimpArgs false
set_option maxRecDepth 10000
namespace Mu
theorem mPathOut {l : List T_api_Cell} (hc : Ck l) (hl : l.length ≤ 64) {v w : Int} (h : min v w < 0 ∨ (l.length : Int) ≤ max v w) : p_join_Path l v w = some ([], 2) := by
  have hk : chkP l = 0 := Ck_iff.2 ⟨by omega, hc⟩
  unfold p_join_Path
  rw [mCheck (by omega), Option.bind_some, hk, ifn_neg rfl, if_pos (by
    rw [Bool.or_eq_true, decide_eq_true_iff, decide_eq_true_iff]; exact h)]
theorem mWalkL {l : List T_api_Cell} (hc : Ck l) {p : List Int} (hp : p.length ≤ 1000) {a w : Nat} (ha : a < l.length) (hw : Walk l a p w) : loopF (p_muntinlaw13_JoinPaths.s1 l p) big ((a : Int), 0) = some (.inl (w : Int)) := by
  obtain ⟨r, e1, e2⟩ := loop_inv (step := p_muntinlaw13_JoinPaths.s1 l p) (s0 := ((a : Int), (0 : Int))) (n := p.length) (I := fun i (s : Int × Int) => s.2 = i ∧ ∃ c : Nat, s.1 = c ∧ c < l.length ∧ Walk l c (p.drop i) w) (R := fun r : Int ⊕ Unit => r = .inl (w : Int)) (big_lt (by omega)) ⟨rfl, a, rfl, ha, hw⟩ (by
    rintro i ⟨x, y⟩ hi ⟨h1, c, h2, h3, h4⟩
    dsimp only at h1 h2
    subst h1 h2
    rw [drop_gi hi] at h4
    obtain ⟨d, b, e1, e2, e3, e4⟩ := h4
    have hlt := hc.lt h3 e2
    have e : ((gi l c).Next).get (d : Int) = nx l c d := rfl
    simp only [p_muntinlaw13_JoinPaths.s1]
    rw [ifd_pos (by omega), ck_pos (by omega), Int.toNat_natCast, Int.toNat_natCast, e1, e, dec_f (show ¬ (d : Int) < 0 by omega), dec_f (show ¬ (3 : Int) < (d : Int) by omega), if_neg (by decide), ck_pos (by omega), ck_pos (by omega), dec_f (by omega), Option.bind_some, if_neg (by decide), e3, ckI64 (by omega), ck_pos (by omega), ck_pos (by omega)]
    exact ⟨((b : Int), (i : Int) + 1), rfl, rfl, b, rfl, by omega, e4⟩) (by
    rintro ⟨x, y⟩ ⟨h1, c, h2, h3, h4⟩
    dsimp only at h1 h2
    subst h1 h2
    rw [List.drop_length] at h4
    have h4 : c = w := h4
    subst h4
    simp only [p_muntinlaw13_JoinPaths.s1]
    rw [ifd_neg (by omega)]
    exact ⟨_, rfl, rfl⟩)
  rw [e1, e2]
theorem pathsOne {l : List T_api_Cell} (hc : Ck l) (hl : l.length ≤ 64) {v w : Int} {j : Nat} (hj : j < 2) : p_muntinlaw13_JoinPaths.s0 v w l j = some (.inl ((j + 1 : Nat) : Int)) := by
  unfold p_muntinlaw13_JoinPaths.s0
  generalize (⟨(max 0 v).tmod ((l.length : Int) + 1), (max 0 w).tmod ((l.length : Int) + 1)⟩ : A2 Int) = q
  have h2 : (([(⟨v, w⟩ : A2 Int), q] : List (A2 Int)).length : Int) = 2 := rfl
  rw [h2, ifd_pos (show (j : Int) < 2 by omega), ck_pos (by omega), Int.toNat_natCast]
  generalize (gi [(⟨v, w⟩ : A2 Int), q] j) = y
  generalize y.get 0 = a
  generalize y.get 1 = b
  have ok1 : ∀ α : Type, ∀ o : Option α, ck (in64 ((j : Int) + 1)) o = o := fun _ o => ckI64 (by omega)
  rw [ok1]
  by_cases c : min a b < 0 ∨ (l.length : Int) ≤ max a b
  · rw [mPathOut hc hl c, Option.bind_some]
    dsimp only
    rw [if_pos (by
      rw [Bool.or_eq_true, decide_eq_true_iff, decide_eq_true_iff]; exact c)]
    rfl
  · obtain ⟨v', rfl⟩ : ∃ v' : Nat, a = v' := ⟨a.toNat, by omega⟩
    obtain ⟨w', rfl⟩ : ∃ w' : Nat, b = w' := ⟨b.toNat, by omega⟩
    have hv : v' < l.length := by omega
    have hw : w' < l.length := by omega
    obtain ⟨far, f1, f2, f3⟩ := mFar hc (by omega) hv
    have f4 := f3 w' hw
    rcases mPath hc hl hv hw with ⟨n, p, d1, d2, d3, d4⟩ | ⟨d1, d2⟩
    · have hn := d1.lt hc hv
      have fw : gi far w' = n := by
        rcases f4 with ⟨_, q⟩ | ⟨m, q, q2⟩
        · exact absurd d1.1 (q n)
        · rw [q, q2.uniq d1]
      rw [d2, Option.bind_some]
      dsimp only
      rw [if_neg (by
        rw [Bool.or_eq_true, decide_eq_true_iff, decide_eq_true_iff]; exact c), f1, Option.bind_some, ck_pos (by omega), Int.toNat_natCast, fw, ifd_neg (by omega), mWalkL hc (by omega) hv d4, Option.bind_some]
      dsimp only
      rw [if_neg (by simp [d3])]
      rfl
    · have fw : gi far w' = -1 := by
        rcases f4 with ⟨q, _⟩ | ⟨m, q, q2⟩
        · exact q
        · exact absurd q2.1 (d1 m)
      rw [d2, Option.bind_some]
      dsimp only
      rw [if_neg (by
        rw [Bool.or_eq_true, decide_eq_true_iff, decide_eq_true_iff]; exact c), f1, Option.bind_some, ck_pos (by omega), Int.toNat_natCast, fw, ifd_pos (by omega)]
      rfl
theorem JoinPaths_main (z : T_muntinref10_Places) (v w : Int) (m1 : z.At.length ≤ Go.maxLen) (b1 : ∀ y ∈ z.At, Ok_u8 y) (m2 : z.Bits.length ≤ Go.maxLen) (b2 : ∀ y ∈ z.Bits, Ok_u8 y) (m3 : z.Own.length ≤ Go.maxLen) (b3 : ∀ y ∈ z.Own, Ok_i8 y) (wv : Wf .i64 v) (ww : Wf .i64 w) : p_muntinlaw13_JoinPaths z v w = some true := by
  obtain ⟨l, pts, e1, hm, hlen⟩ := mMake (z := z) (most := 20) (okZ m1 b1 b3) (by omega)
  have hc := hm.ck
  unfold p_muntinlaw13_JoinPaths
  rw [e1, Option.bind_some]
  dsimp only
  have : loopF (p_muntinlaw13_JoinPaths.s0 v w l) big 0 = some (.inl ()) := by
    refine loop_to (fun n : Nat => (n : Int)) (n := 2) (big_lt (by omega)) rfl (fun j hj => pathsOne hc (by omega) hj) ?_
    rfl
  rw [ckI64 (by omega), ck_pos (by omega), this, Option.bind_some, kJoinWakes]
  rfl
end Mu
