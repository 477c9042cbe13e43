/- Layer 13: the document's parts, and the law. -/
import Derived.Test.YteedifiifkghkaaMuM13h
set_option linter.unusedVariables false
set_option linter.unusedSimpArgs false
set_option maxRecDepth 10000
namespace Mu
theorem rpInner {l : List T_api_Cell} (hl : l.length ≤ 64) {v : Nat} {far : List Int} {met : List Bool} (hm : met.length = l.length) (lf : far.length = l.length) (hf : ∀ a, a < l.length → IsFar l v a (gi far a)) : loopF (p_muntinref13_Parts.s1 l far) big (met, [], 0) = some (metTo l v met l.length, partTo l v l.length) := by
  refine loop_to (fun k : Nat => (metTo l v met k, partTo l v k, (k : Int))) (n := l.length) (big_lt (by omega)) (by rw [metTo_zero hm]; rfl) (fun k hk => ?_) ?_
  · have hp := partTo_length (l := l) (v := v) (k := k)
    have hmt := metTo_length (l := l) (v := v) (k := k) (met := met)
    have t : decide (0 ≤ gi far k) = rb l v k := by
      rcases hf k hk with ⟨e, h⟩ | ⟨n, e, h⟩
      · have : rb l v k = false := by
          cases q : rb l v k with
          | false => rfl
          | true =>
            obtain ⟨n, hn⟩ := rb_iff.1 q
            exact absurd hn (h n)
        rw [this, dec_f (by omega)]
      · rw [rb_iff.2 ⟨n, h.1⟩, dec_t (by omega)]
    simp only [p_muntinref13_Parts.s1]
    rw [ifd_pos (by omega), ck_pos (by omega), Int.toNat_natCast, t]
    cases h : rb l v k with
    | true =>
      rw [if_pos rfl, ck_pos (by omega), ck_pos (by simp; omega), ckI64 (by omega), metTo_on hk h, partTo_on h, show ((k + 1 : Nat) : Int) = (k : Int) + 1 by omega]
    | false =>
      rw [if_neg (by decide), ckI64 (by omega), metTo_off h, partTo_off h, show ((k + 1 : Nat) : Int) = (k : Int) + 1 by omega]
  · simp only [p_muntinref13_Parts.s1]
    rw [ifd_neg (by omega)]
theorem rParts {l : List T_api_Cell} (hc : Ck l) (hl : l.length ≤ 64) : p_muntinref13_Parts l = some (PS l l.length).1 := by
  have h : loopF (p_muntinref13_Parts.s0 l) big (List.replicate l.length false, ([] : List (List Int)), 0) = some (PS l l.length).1 := by
    refine loop_to (fun n : Nat => ((PS l n).2, (PS l n).1, (n : Int))) (n := l.length) (big_lt (by omega)) rfl (fun n hn => ?_) ?_
    · have hp := PS_len (l := l) n
      simp only [p_muntinref13_Parts.s0]
      rw [ifd_pos (by omega), ck_pos (by omega), Int.toNat_natCast]
      by_cases c : gi (PS l n).2 n = true
      · rw [if_pos c, ckI64 (by omega), show PS l (n + 1) = PS l n by rw [PS, if_pos c], show ((n + 1 : Nat) : Int) = (n : Int) + 1 by omega]
      · obtain ⟨far, e1, lf, hf⟩ := mFar hc (by omega) hn
        rw [if_neg c, e1, Option.bind_some, rpInner hl hp.2 lf hf, Option.bind_some]
        dsimp only
        rw [ck_pos (by omega), ckI64 (by omega), show PS l (n + 1) = ((PS l n).1 ++ [partTo l n l.length], metTo l n (PS l n).2 l.length) by rw [PS, if_neg c], show ((n + 1 : Nat) : Int) = (n : Int) + 1 by omega]
    · simp only [p_muntinref13_Parts.s0]
      rw [ifd_neg (by omega)]
  unfold p_muntinref13_Parts
  rw [ck_pos (by omega), Int.toNat_natCast, h, Option.bind_some]
theorem mEqual {s : List Int} (hs : s.length ≤ 1000000) : p_slices_Equal_int s s = some true := by
  have h : loopF (p_slices_Equal_int.s0 s s) big 0 = some (.inl ()) := by
    refine loop_to (fun n : Nat => (n : Int)) (n := s.length) (big_lt (by omega)) rfl (fun n hn => ?_) ?_
    · simp only [p_slices_Equal_int.s0]
      rw [ifd_pos (by omega), ck_pos (by omega), ck_pos (by omega), if_neg (by simp), ckI64 (by omega)]
      rfl
    · simp only [p_slices_Equal_int.s0]
      rw [ifd_neg (by omega)]
  unfold p_slices_Equal_int
  rw [ifn_neg rfl, h, Option.bind_some]
theorem PS_part {l : List T_api_Cell} : ∀ n p, p ∈ (PS l n).1 → p.length ≤ l.length
  | 0, p, h => by simp [PS] at h
  | n + 1, p, h => by
    simp only [PS] at h
    split at h
    · exact PS_part n p h
    · rw [List.mem_append, List.mem_singleton] at h
      rcases h with h | rfl
      · exact PS_part n p h
      · exact partTo_length
theorem mPartsBad {l : List T_api_Cell} (hl : l.length ≤ 64) (h : chkP l ≠ 0) : p_join_Parts l = some ([], chkP l) := by
  unfold p_join_Parts
  rw [mCheck (by omega), Option.bind_some, ifn_pos h]
theorem mWhole {l : List T_api_Cell} (hc : Ck l) (hl : l.length ≤ 64) : p_join_Whole l = some (decide (((PS l l.length).1.length : Int) = 1)) := by
  unfold p_join_Whole
  rw [mJoinParts hc hl, Option.bind_some]
  simp
theorem mWholeBad {l : List T_api_Cell} (hl : l.length ≤ 64) (h : chkP l ≠ 0) : p_join_Whole l = some false := by
  unfold p_join_Whole
  rw [mPartsBad hl h, Option.bind_some]
  simp
theorem JoinParts_main (z : T_muntinref10_Places) (raw : List T_api_Cell) (m1 : z.At.length ≤ Go.maxLen) (b1 : ∀ y ∈ z.At, Ok_u8 y) (m2 : z.Bits.length ≤ Go.maxLen) (b2 : ∀ y ∈ z.Bits, Ok_u8 y) (m3 : z.Own.length ≤ Go.maxLen) (b3 : ∀ y ∈ z.Own, Ok_i8 y) (mr : raw.length ≤ Go.maxLen) (br : ∀ y ∈ raw, Ok_T_api_Cell y) : p_muntinlaw13_JoinParts z raw = some true := by
  obtain ⟨l, pts, e1, hm, hlen⟩ := mMake (z := z) (most := 20) (okZ m1 b1 b3) (by omega)
  have hc := hm.ck
  have hN : l.length ≤ 64 := by omega
  have hp := PS_len (l := l) l.length
  have hpp := PS_part (l := l) l.length
  unfold p_muntinlaw13_JoinParts
  rw [e1, Option.bind_some]
  dsimp only
  rw [mJoinParts hc hN, Option.bind_some, rParts hc hN, mWhole hc hN]
  dsimp only
  rw [Option.bind_some, kJoinWakes, Option.bind_some]
  generalize (PS l l.length).1 = P at *
  have eq : loopF (p_muntinlaw13_JoinParts.s0 P P) big 0 = some (.inl ()) := by
    refine loop_to (fun n : Nat => (n : Int)) (n := P.length) (big_lt (by omega)) rfl (fun n hn => ?_) ?_
    · simp only [p_muntinlaw13_JoinParts.s0]
      have := hpp _ (gi_mem hn)
      rw [ifd_pos (by omega), ck_pos (by omega), Int.toNat_natCast, mEqual (by omega), Option.bind_some, if_neg (by decide), ckI64 (by omega), ck_pos (by omega)]
      rfl
    · simp only [p_muntinlaw13_JoinParts.s0]
      rw [ifd_neg (by omega)]
  rw [if_neg (by simp), Option.bind_some, Option.bind_some, if_neg (by simp), eq, Option.bind_some]
  dsimp only
  have hr : (raw.take (min (raw.length : Int) 5).toNat).length ≤ 64 := by rw [List.length_take]; omega
  rw [ck_pos (by omega)]
  generalize raw.take (min (raw.length : Int) 5).toNat = x at hr
  rw [rCheck (by omega)]
  by_cases c : chkP x = 0
  · rw [mJoinParts (Ck_iff.1 c).2 hr, c]
    simp
  · rw [mPartsBad hr c, mWholeBad hr c]
    simp [c]
end Mu
