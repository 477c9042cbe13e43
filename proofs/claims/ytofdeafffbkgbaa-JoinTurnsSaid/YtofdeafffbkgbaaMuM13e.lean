/- Layer 13: paths. -/
import Derived.Test.YtofdeafffbkgbaaMuM13d
set_option linter.unusedVariables false
set_option linter.unusedSimpArgs false
set_option maxRecDepth 10000
namespace Mu

def Walk (l : List T_api_Cell) : Nat → List Int → Nat → Prop
  | a, [], b => a = b
  | a, x :: p, b => ∃ d c : Nat, x = d ∧ d < 4 ∧ nx l a d = c ∧ Walk l c p b
def revTo (s : List Int) (i : Nat) : List Int := (List.range s.length).map fun k => if k < i ∨ s.length ≤ k + i then gi s (s.length - 1 - k) else gi s k
theorem revTo_length {s : List Int} {i : Nat} : (revTo s i).length = s.length := by simp [revTo]
theorem gi_revTo {s : List Int} {i k : Nat} (h : k < s.length) : gi (revTo s i) k = if k < i ∨ s.length ≤ k + i then gi s (s.length - 1 - k) else gi s k := gi_map_range h
theorem mReverse {s : List Int} (hs : s.length ≤ 1000000) : p_slices_Reverse_int s = some s.reverse := by
  unfold p_slices_Reverse_int
  rw [ckI64 (by omega), bd_eq (x := s.reverse)]
  refine loop_to (fun i : Nat => (revTo s i, (i : Int), (s.length : Int) - 1 - i)) (n := s.length / 2) (big_lt (by omega)) ?_ (fun i hi => ?_) ?_
  · have : revTo s 0 = s := list_ext revTo_length (fun k hk => by
      rw [revTo_length] at hk
      rw [gi_revTo hk, if_neg (by omega)])
    rw [this]
    simp
  · have hl := revTo_length (s := s) (i := i)
    have e1 : ((s.length : Int) - 1 - i).toNat = s.length - 1 - i := by omega
    have e2 : (((revTo s i).set i (gi (revTo s i) (s.length - 1 - i))).length : Int) = s.length := by rw [List.length_set, hl]
    simp only [p_slices_Reverse_int.s0]
    rw [ifd_pos (by omega), ck_pos (by omega), ck_pos (by omega), Int.toNat_natCast, e1, ck_pos (by omega), ckI64 (by omega), ckI64 (by omega)]
    have a1 : gi (revTo s i) i = gi s i := by rw [gi_revTo (by omega), if_neg (by omega)]
    have a2 : gi (revTo s i) (s.length - 1 - i) = gi s (s.length - 1 - i) := by rw [gi_revTo (by omega), if_neg (by omega)]
    have e3 : ((revTo s i).set i (gi (revTo s i) (s.length - 1 - i))).set (s.length - 1 - i) (gi (revTo s i) i) = revTo s (i + 1) := by
      apply list_ext
      · rw [List.length_set, List.length_set, hl, revTo_length]
      · intro k hk
        rw [List.length_set, List.length_set, hl] at hk
        rw [gi_set (by rw [List.length_set, hl]; omega), gi_set (by rw [hl]; omega), a1, a2, gi_revTo hk, gi_revTo hk]
        by_cases c1 : k = s.length - 1 - i
        · rw [if_pos c1, if_pos (by omega)]; congr 1; omega
        · rw [if_neg c1]
          by_cases c2 : k = i
          · rw [if_pos c2, if_pos (by omega)]; congr 1; omega
          · rw [if_neg c2]
            by_cases c3 : k < i ∨ s.length ≤ k + i
            · rw [if_pos c3, if_pos (by omega)]
            · rw [if_neg c3, if_neg (by omega)]
    rw [e3]
    congr 4
    omega
  · simp only [p_slices_Reverse_int.s0]
    rw [ifd_neg (by omega)]
    have : revTo s (s.length / 2) = s.reverse := by
      apply list_ext
      · rw [revTo_length, List.length_reverse]
      · intro k hk
        rw [revTo_length] at hk
        have r : gi s.reverse k = gi s (s.length - 1 - k) := by
          rw [gi_eq (by simpa using hk), gi_eq (by omega), List.getElem_reverse]
        rw [gi_revTo hk, r]
        split
        · rfl
        · congr 1; omega
    rw [this]
theorem mPathL {l : List T_api_Cell} (hc : Ck l) {v w n : Nat} {fr dr : List Int} (hv : v < l.length) (hl : l.length ≤ 64) (sp : Spr l v fr dr) (hd : Dist l v w n) :
    ∃ q : List Int, loopF (p_join_Path.s0 v fr dr) big (([] : List Int), (w : Int)) = some q ∧ q.length = n ∧ Walk l v q.reverse w := by
  have hn := hd.lt hc hv
  refine loop_inv (n := n) (I := fun i (s : List Int × Int) => i ≤ n ∧ s.1.length = i ∧ ∃ a : Nat, s.2 = a ∧ Dist l v a (n - i) ∧ Walk l a s.1.reverse w) (s0 := (([] : List Int), (w : Int))) (R := fun q : List Int => q.length = n ∧ Walk l v q.reverse w) (big_lt (by omega)) ⟨by omega, rfl, w, rfl, hd, rfl⟩ ?_ ?_
  · rintro i ⟨q, x⟩ hi ⟨h0, h1, a, h2, h3, h4⟩
    dsimp only at h1 h2 h4
    subst h2
    have hav : a ≠ v := by
      rintro rfl
      have := h3.2 0 .zero
      omega
    have hal := h3.1.lt hc hv
    obtain ⟨p, d, m, e1, e2, e3, e4, e5, e6⟩ := sp.fm a _ h3 hav
    have lf := sp.lf
    have ld := sp.ld
    simp only [p_join_Path.s0]
    rw [ifn_pos (by omega), ck_pos (by omega), ck_pos (by simp; omega), ck_pos (by omega), Int.toNat_natCast, e1, e2]
    refine ⟨_, rfl, by omega, by simp; omega, p, rfl, ?_, ?_⟩
    · rw [show n - (i + 1) = m by omega]; exact e5
    · rw [List.reverse_append]
      exact ⟨d, a, rfl, e3, e4, h4⟩
  · rintro ⟨q, x⟩ ⟨h0, h1, a, h2, h3, h4⟩
    dsimp only at h1 h2 h4
    subst h2
    rw [Nat.sub_self] at h3
    have := h3.1
    cases this
    simp only [p_join_Path.s0]
    rw [ifn_neg (by first | trivial | omega)]
    exact ⟨_, rfl, h1, h4⟩
theorem mPath {l : List T_api_Cell} (hc : Ck l) (hl : l.length ≤ 64) {v w : Nat} (hv : v < l.length) (hw : w < l.length) : (∃ n p, Dist l v w n ∧ p_join_Path l v w = some (p, 0) ∧ p.length = n ∧ Walk l v p w) ∨ ((∀ n, ¬ Rch l v n w) ∧ p_join_Path l v w = some ([], 13)) := by
  have hk : chkP l = 0 := Ck_iff.2 ⟨by omega, hc⟩
  obtain ⟨fr, dr, e1, sp⟩ := mSpread hc hl hv
  have ld := sp.ld
  have h1 : ((decide ((min (v : Int) (w : Int)) < 0)) || (decide ((l.length : Int) ≤ (max (v : Int) (w : Int))))) = false := by
    rw [dec_f (by omega), dec_f (by omega)]; rfl
  unfold p_join_Path
  rw [mCheck (by omega), Option.bind_some, hk, ifn_neg rfl, h1, if_neg (by decide), e1, Option.bind_some]
  dsimp only
  by_cases c : ∃ n, Rch l v n w
  · left
    obtain ⟨n0, hn0⟩ := c
    obtain ⟨n, _, hd⟩ := hn0.dist
    have hn := hd.lt hc hv
    obtain ⟨q, e2, e3, e4⟩ := mPathL hc hv hl sp hd
    refine ⟨n, q.reverse, hd, ?_, by simpa using e3, e4⟩
    have t0 : (if (!decide ((w : Int) = (v : Int))) = true then ck ((0 : Int) ≤ (w : Int) ∧ (w : Int) < (dr.length : Int)) (some (decide ((gi dr (w : Int).toNat) < 0))) else some false) = some false := by
      by_cases c : w = v
      · rw [ifn_neg (by omega)]
      · obtain ⟨p, d, m, k1, k2, _⟩ := sp.fm w n hd c
        rw [ifn_pos (by omega), ck_pos (by omega), Int.toNat_natCast, dec_f (by omega)]
    rw [t0, Option.bind_some, if_neg (by decide), e2, Option.bind_some, mReverse (by omega), Option.bind_some]
  · right
    have hu : ∀ n, ¬ Rch l v n w := fun n hn => c ⟨n, hn⟩
    refine ⟨hu, ?_⟩
    have hwv : w ≠ v := by rintro rfl; exact hu 0 .zero
    have := sp.un w hw hu
    rw [ifn_pos (by omega), ck_pos (by omega), Int.toNat_natCast, dec_t (by omega), Option.bind_some, if_pos rfl]
theorem kJoinWakes : p_muntinlaw13_wakes = some true := by decide +kernel
theorem tmodN {a : Int} {n : Nat} (ha : 0 ≤ a) (hn : 0 < n) : ∃ k : Nat, a.tmod (n : Int) = k ∧ k < n := by
  refine ⟨(a.tmod (n : Int)).toNat, ?_, ?_⟩
  · have := Int.tmod_nonneg (n : Int) ha
    omega
  · have := Int.tmod_lt_of_pos a (show (0 : Int) < (n : Int) by omega)
    have := Int.tmod_nonneg (n : Int) ha
    omega
end Mu
