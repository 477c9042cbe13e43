/- Layer 13: join's parts. -/
import Derived.Test.YtofdeafffbkgbaaMuM13g
set_option linter.unusedVariables false
set_option linter.unusedSimpArgs false
set_option maxRecDepth 10000
namespace Mu
/-- Can w be reached from v? -/
noncomputable def rb (l : List T_api_Cell) (v w : Nat) : Bool := @decide (∃ n, Rch l v n w) (Classical.propDecidable _)
theorem rb_iff {l : List T_api_Cell} {v w : Nat} : rb l v w = true ↔ ∃ n, Rch l v n w := by simp [rb]
noncomputable def partTo (l : List T_api_Cell) (v k : Nat) : List Int := ((List.range k).filter (rb l v)).map fun w : Nat => (w : Int)
noncomputable def metTo (l : List T_api_Cell) (v : Nat) (met : List Bool) (k : Nat) : List Bool := (List.range l.length).map fun w => if w < k then gi met w || rb l v w else gi met w
theorem metTo_length {l : List T_api_Cell} {v k : Nat} {met : List Bool} : (metTo l v met k).length = l.length := by simp [metTo]
theorem gi_metTo {l : List T_api_Cell} {v k w : Nat} {met : List Bool} (h : w < l.length) : gi (metTo l v met k) w = if w < k then gi met w || rb l v w else gi met w := gi_map_range h
theorem metTo_zero {l : List T_api_Cell} {v : Nat} {met : List Bool} (h : met.length = l.length) : metTo l v met 0 = met :=
  list_ext (by rw [metTo_length, h]) (fun i hi => by rw [metTo_length] at hi; rw [gi_metTo hi, if_neg (by omega)])
theorem metTo_on {l : List T_api_Cell} {v k : Nat} {met : List Bool} (hk : k < l.length) (h : rb l v k = true) : (metTo l v met k).set k true = metTo l v met (k + 1) := by
  apply list_ext (by rw [List.length_set, metTo_length, metTo_length])
  intro i hi
  rw [List.length_set, metTo_length] at hi
  rw [gi_set (by rw [metTo_length]; exact hk), gi_metTo hi, gi_metTo hi]
  by_cases c : i = k
  · subst c; rw [if_pos rfl, if_pos (by omega), h]; simp
  · rw [if_neg c]
    by_cases c2 : i < k
    · rw [if_pos c2, if_pos (by omega)]
    · rw [if_neg c2, if_neg (by omega)]
theorem metTo_off {l : List T_api_Cell} {v k : Nat} {met : List Bool} (h : rb l v k = false) : metTo l v met k = metTo l v met (k + 1) := by
  apply list_ext (by rw [metTo_length, metTo_length])
  intro i hi
  rw [metTo_length] at hi
  rw [gi_metTo hi, gi_metTo hi]
  by_cases c : i = k
  · subst c; rw [if_neg (by omega), if_pos (by omega), h]; simp
  · by_cases c2 : i < k
    · rw [if_pos c2, if_pos (by omega)]
    · rw [if_neg c2, if_neg (by omega)]
theorem partTo_on {l : List T_api_Cell} {v k : Nat} (h : rb l v k = true) : partTo l v (k + 1) = partTo l v k ++ [(k : Int)] := by
  unfold partTo; rw [List.range_succ, List.filter_append]; simp [h]
theorem partTo_off {l : List T_api_Cell} {v k : Nat} (h : rb l v k = false) : partTo l v (k + 1) = partTo l v k := by
  unfold partTo; rw [List.range_succ, List.filter_append]; simp [h]
theorem partTo_length {l : List T_api_Cell} {v k : Nat} : (partTo l v k).length ≤ k := by
  unfold partTo; rw [List.length_map]
  have := List.length_filter_le (rb l v) (List.range k)
  simpa using this
theorem jpInner {l : List T_api_Cell} (hl : l.length ≤ 64) {v : Nat} {fr dr : List Int} {met : List Bool} (hm : met.length = l.length) (sp : Spr l v fr dr) (hc : Ck l) (hv : v < l.length) : loopF (p_join_Parts.s1 l v dr) big (met, [], 0) = some (metTo l v met l.length, partTo l v l.length) := by
  have ld := sp.ld
  refine loop_to (fun k : Nat => (metTo l v met k, partTo l v k, (k : Int))) (n := l.length) (big_lt (by omega)) (by rw [metTo_zero hm]; rfl) (fun k hk => ?_) ?_
  · have hp := partTo_length (l := l) (v := v) (k := k)
    have hmt := metTo_length (l := l) (v := v) (k := k) (met := met)
    have t : (if decide ((k : Int) = (v : Int)) = true then some true else ck ((0 : Int) ≤ (k : Int) ∧ (k : Int) < (dr.length : Int)) (some (decide (0 ≤ (gi dr (k : Int).toNat))))) = some (rb l v k) := by
      by_cases c : k = v
      · subst c
        rw [ifd_pos rfl, (rb_iff).2 ⟨0, .zero⟩]
      · rw [ifd_neg (by omega), ck_pos (by omega), Int.toNat_natCast]
        cases h : rb l v k with
        | true =>
          obtain ⟨n, hn⟩ := rb_iff.1 h
          obtain ⟨m, _, hd⟩ := hn.dist
          obtain ⟨p, d, _, _, e2, _⟩ := sp.fm k m hd c
          rw [dec_t (by omega)]
        | false =>
          have := sp.un k hk (fun n hn => by rw [rb_iff.2 ⟨n, hn⟩] at h; cases h)
          rw [dec_f (by omega)]
    simp only [p_join_Parts.s1]
    rw [ifd_pos (by omega), t, Option.bind_some, ckI64 (by omega)]
    cases h : rb l v k with
    | true =>
      rw [if_pos rfl, ck_pos (by omega), ck_pos (by simp; omega), Int.toNat_natCast, metTo_on hk h, partTo_on h, show ((k + 1 : Nat) : Int) = (k : Int) + 1 by omega]
    | false =>
      rw [if_neg (by decide), ckI64 (by omega), metTo_off h, partTo_off h, show ((k + 1 : Nat) : Int) = (k : Int) + 1 by omega]
  · simp only [p_join_Parts.s1]
    rw [ifd_neg (by omega)]
noncomputable def PS (l : List T_api_Cell) : Nat → List (List Int) × List Bool
  | 0 => ([], List.replicate l.length false)
  | n + 1 => if gi (PS l n).2 n = true then PS l n else ((PS l n).1 ++ [partTo l n l.length], metTo l n (PS l n).2 l.length)
theorem PS_len {l : List T_api_Cell} : ∀ n, (PS l n).1.length ≤ n ∧ (PS l n).2.length = l.length
  | 0 => by simp [PS]
  | n + 1 => by
    have := PS_len (l := l) n
    simp only [PS]
    split
    · exact ⟨by omega, this.2⟩
    · exact ⟨by simp; omega, metTo_length⟩
theorem mJoinParts {l : List T_api_Cell} (hc : Ck l) (hl : l.length ≤ 64) : p_join_Parts l = some ((PS l l.length).1, 0) := by
  have hk : chkP l = 0 := Ck_iff.2 ⟨by omega, hc⟩
  have h : loopF (p_join_Parts.s0 l) big (([] : List (List Int)), List.replicate l.length false, 0) = some (PS l l.length).1 := by
    refine loop_to (fun n : Nat => ((PS l n).1, (PS l n).2, (n : Int))) (n := l.length) (big_lt (by omega)) rfl (fun n hn => ?_) ?_
    · have hp := PS_len (l := l) n
      simp only [p_join_Parts.s0]
      rw [ifd_pos (by omega), ck_pos (by omega), Int.toNat_natCast, ckI64 (by omega)]
      by_cases c : gi (PS l n).2 n = true
      · rw [if_pos c, show PS l (n + 1) = PS l n by rw [PS, if_pos c], show ((n + 1 : Nat) : Int) = (n : Int) + 1 by omega]
      · obtain ⟨fr, dr, e1, sp⟩ := mSpread hc hl hn
        rw [if_neg c, e1, Option.bind_some]
        dsimp only
        rw [jpInner hl hp.2 sp hc hn, Option.bind_some]
        dsimp only
        rw [ck_pos (by omega), ckI64 (by omega), show PS l (n + 1) = ((PS l n).1 ++ [partTo l n l.length], metTo l n (PS l n).2 l.length) by rw [PS, if_neg c], show ((n + 1 : Nat) : Int) = (n : Int) + 1 by omega]
    · simp only [p_join_Parts.s0]
      rw [ifd_neg (by omega)]
  unfold p_join_Parts
  rw [mCheck (by omega), Option.bind_some, hk, ifn_neg rfl, ck_pos (by omega), Int.toNat_natCast, h, Option.bind_some]
end Mu
