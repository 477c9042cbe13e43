/- Layer 10: GridTurns, GridChecks, GridNil. -/
import Derived.Test.YtofdeafffbkgbaaMuM10i
set_option linter.unusedVariables false
set_option linter.unusedSimpArgs false
set_option maxRecDepth 10000
namespace Mu
theorem turnTmod {d : Nat} (hd : d < 4) : ((d : Int) + 1).tmod 4 = (((d + 1) % 4 : Nat) : Int) := by
  match d, hd with
  | 0, _ | 1, _ | 2, _ | 3, _ => rfl
theorem chk_trn {l : List T_api_Cell} : chkP (trn l) = 0 ↔ chkP l = 0 := by
  rw [Ck_iff, Ck_iff, trn_len]
  exact ⟨fun h => ⟨h.1, h.2.turnBack⟩, fun h => ⟨h.1, h.2.turn⟩⟩
theorem mCells {l : List T_api_Cell} (h : l.length ≤ 1000000000) : p_grid_Grid_Cells ⟨l⟩ = some l := by
  unfold p_grid_Grid_Cells p_slices_Clone_api_Cell
  dsimp only
  rw [ck_pos h, Option.bind_some]
theorem splitTurn {l : List T_api_Cell} (hc : Ck l) (hl : l.length < 4096) {v d : Nat} (hd : d < 4) : ∃ u e m, p_grid_Grid_Split ⟨l⟩ v d = some (u, e, ⟨m⟩) ∧ p_grid_Grid_Split ⟨trn l⟩ v (((d + 1) % 4 : Nat) : Int) = some (u, e, ⟨trn m⟩) ∧ m.length ≤ l.length + 1 := by
  have hL := trn_len (l := l)
  by_cases c : v < l.length
  · have t := nx_trn (l := l) (v := v) (e := (d + 1) % 4) c (by omega)
    rw [show ((d + 1) % 4 + 3) % 4 = d by omega] at t
    by_cases e : nx l v d = -1
    · exact ⟨0, 9, l, mSplitNo c hd e, mSplitNo (by omega) (by omega) (by rw [t.1]; exact e), by omega⟩
    · obtain ⟨w, hw⟩ : ∃ w : Nat, nx l v d = w := by
        rcases hc.s v d c hd with ⟨a, _⟩ | ⟨w, a, _⟩
        · exact absurd a e
        · exact ⟨w, a⟩
      obtain ⟨hwl, hwv, hcs⟩ := hc.spl c hd hw
      refine ⟨_, _, _, mSplitOk hl c hd hw hwl, ?_, by rw [spl_len]; omega⟩
      have := mSplitOk (l := trn l) (v := v) (d := (d + 1) % 4) (w := w) (by omega) (by omega) (by omega) (by rw [t.1]; exact hw) (by omega)
      rw [this, t.2, trn_spl c hwl hd, hL]
  · exact ⟨0, 2, l, mSplitBad (by omega), mSplitBad (by omega), by omega⟩
theorem gcZero {X : List T_api_Cell} (h : X.length ≤ 1000) : loopF (p_muntinlaw10_GridChecks.s1 X) big (X, 0) = some () := by
  have : ∃ r, loopF (p_muntinlaw10_GridChecks.s1 X) big (X, 0) = some r ∧ True := by
    refine loop_inv (fun (k : Nat) (s : List T_api_Cell × Int) => s.1.length = X.length ∧ s.2 = k) (n := X.length) (big_lt (by omega)) ⟨rfl, rfl⟩ ?_ ?_
    · rintro k ⟨c, i⟩ hk ⟨h1, h2⟩
      dsimp only at h1 h2 ⊢
      subst h2
      simp only [p_muntinlaw10_GridChecks.s1]
      rw [ifd_pos (by omega), ck_pos (by omega), ckI64 (by omega)]
      exact ⟨_, rfl, by rw [List.length_set]; exact h1, by dsimp only; omega⟩
    · rintro ⟨c, i⟩ ⟨h1, h2⟩
      dsimp only at h1 h2 ⊢
      subst h2
      simp only [p_muntinlaw10_GridChecks.s1]
      rw [ifd_neg (by omega)]
      exact ⟨_, rfl, trivial⟩
  obtain ⟨r, e, _⟩ := this
  exact e
theorem GridChecks_main (z : T_muntinlaw10_Case) (m1 : z.Places.At.length ≤ Go.maxLen) (b1 : ∀ y ∈ z.Places.At, Ok_u8 y) (m2 : z.Places.Bits.length ≤ Go.maxLen) (b2 : ∀ y ∈ z.Places.Bits, Ok_u8 y) (m3 : z.Places.Own.length ≤ Go.maxLen) (b3 : ∀ y ∈ z.Places.Own, Ok_i8 y) (mr : z.Raw.length ≤ Go.maxLen) (br : ∀ y ∈ z.Raw, Ok_T_api_Cell y) (hm : Ok_A2_u8 z.At) (hV : Ok_i64 z.V) : p_muntinlaw10_GridChecks z = some true := by
  obtain ⟨l, pts, e1, hM, hlen⟩ := mMake (z := z.Places) (most := 12) (okPl m1 b1 b3) (by omega)
  have hc := hM.ck
  have h0 := hm.1.u8
  have h1 := hm.2.u8
  have hk : chkP l = 0 := Ck_iff.2 ⟨by omega, hc⟩
  have g0 : z.At.get 0 = z.At.a := rfl
  have g1 : z.At.get 1 = z.At.b := rfl
  obtain ⟨d, ed, hd⟩ := natTmod (n := 4) h1.1 (by omega)
  rw [show ((4 : Nat) : Int) = 4 from rfl] at ed
  unfold p_muntinlaw10_GridChecks
  rw [e1, Option.bind_some]
  dsimp only
  unfold p_slices_Clone_api_Cell
  rw [ck_pos (by omega), Option.bind_some, g0, g1, ed]
  have hmm : ∃ m : List T_api_Cell, m.length = l.length ∧ (
    if decide (0 < (l.length : Int)) then
      ck (inK .i64 z.At.a) <|
      ck (((l.length : Int) : Int) ≠ 0) <|
      ck ((0 : Int) ≤ (z.At.a.tmod (l.length : Int)) ∧ (z.At.a.tmod (l.length : Int)) < (l.length : Int)) <|
      if decide (ari_and .u8 z.At.b 4 = 0) then
        ck ((0 : Int) ≤ (d : Int) ∧ (d : Int) < 4) <|
        some (l.set (z.At.a.tmod (l.length : Int) : Int).toNat ({ gi l (z.At.a.tmod (l.length : Int) : Int).toNat with Next := ((gi l (z.At.a.tmod (l.length : Int) : Int).toNat).Next).set (d : Int) z.V }))
      else
        ck ((0 : Int) ≤ (d : Int) ∧ (d : Int) < 4) <|
        some (l.set (z.At.a.tmod (l.length : Int) : Int).toNat ({ gi l (z.At.a.tmod (l.length : Int) : Int).toNat with Owner := ((gi l (z.At.a.tmod (l.length : Int) : Int).toNat).Owner).set (d : Int) z.V }))
    else
      some l) = some m := by
    by_cases c : 0 < l.length
    · obtain ⟨u, eu, hu⟩ := natTmod h0.1 c
      rw [ifd_pos (by omega), ckK64 (by omega), ck_pos (by omega), eu, ck_pos (by omega), ck_pos (by omega), ck_pos (by omega)]
      split
      · exact ⟨_, List.length_set, rfl⟩
      · exact ⟨_, List.length_set, rfl⟩
    · rw [ifd_neg (by omega)]
      exact ⟨l, rfl, rfl⟩
  obtain ⟨m, hml, em⟩ := hmm
  rw [em, Option.bind_some, ck_pos (by omega)]
  have h : loopF (p_muntinlaw10_GridChecks.s0 z l m) big 0 = some (.inl ()) := by
    refine loop_to (fun n : Nat => (n : Int)) (n := 3) (big_lt (by omega)) rfl (fun n hn => ?_) ?_
    · obtain ⟨X, hX⟩ : ∃ X, X = gi [l, m, z.Raw.take (min (z.Raw.length : Int) 6 : Int).toNat] ((n : Int)).toNat := ⟨_, rfl⟩
      have hx : X.length ≤ 12 := by
        rw [Int.toNat_natCast] at hX
        match n, hn with
        | 0, _ => rw [hX]; show l.length ≤ 12; omega
        | 1, _ => rw [hX]; show m.length ≤ 12; omega
        | 2, _ => rw [hX]; show (z.Raw.take (min (z.Raw.length : Int) 6 : Int).toNat).length ≤ 12; rw [List.length_take]; omega
      simp only [p_muntinlaw10_GridChecks.s0]
      rw [← hX, ifd_pos (by simp; omega), ck_pos (by simp; omega), rCheck (by omega), Option.bind_some, mOf (by omega), Option.bind_some]
      dsimp only
      rw [mCheck (by omega), Option.bind_some, if_neg (by simp)]
      by_cases c : chkP X = 0
      · rw [ifn_neg c, if_pos c, Option.bind_some, mCells (by omega), Option.bind_some, mSame (by omega), Option.bind_some, if_neg (by decide)]
        dsimp only [p_grid_Grid_Len]
        rw [Option.bind_some, Option.bind_some, if_neg (by simp), gcZero (by omega), Option.bind_some, Option.bind_some, mSame (by omega), Option.bind_some, if_neg (by decide), ckI64 (by omega)]
        rfl
      · rw [ifn_pos c, ckI64 (by omega)]
        rfl
    · simp only [p_muntinlaw10_GridChecks.s0]
      rw [ifd_neg (by simp)]
  rw [h, Option.bind_some]
  dsimp only
  rw [kGridWakes, Option.bind_some, if_pos rfl, rCheck (by omega), Option.bind_some, hk]
  rfl
theorem mulOne : ∀ k : Fin 4, p_bits_Mul 1 ((4096 - (k : Nat) : Nat) : Int) = some (0, ((4096 - (k : Nat) : Nat) : Int)) := by decide +kernel
theorem repLoop {c z : T_api_Cell} {N : Nat} (h0 : 0 < N) (hN : N ≤ 100000) : loopF p_slices_Repeat_api_Cell.s0 big (List.replicate 1 c ++ List.replicate (N - 1) z, 1) = some (List.replicate N c) := by
  have : ∃ r, loopF p_slices_Repeat_api_Cell.s0 big (List.replicate 1 c ++ List.replicate (N - 1) z, 1) = some r ∧ r = List.replicate N c := by
    refine loop_meas (fun s : List T_api_Cell × Int => N - s.2.toNat) (fun s => ∃ n : Nat, s.2 = n ∧ 0 < n ∧ n ≤ N ∧ s.1 = List.replicate n c ++ List.replicate (N - n) z) (big_lt (by dsimp only; omega)) ⟨1, rfl, by omega, h0, rfl⟩ ?_
    rintro ⟨l, i⟩ ⟨n, hi, n0, n1, hl⟩
    dsimp only at hi hl ⊢
    subst hi
    have hlen : l.length = N := by rw [hl, List.length_append, List.length_replicate, List.length_replicate]; omega
    have ht : l.take n = List.replicate n c := by rw [hl, List.take_append_of_le_length (by simp), List.take_of_length_le (by simp)]
    have hd : l.drop n = List.replicate (N - n) z := by rw [hl, List.drop_append_of_le_length (by simp), List.drop_of_length_le (by simp), List.nil_append]
    simp only [p_slices_Repeat_api_Cell.s0]
    by_cases c1 : n < N
    · left
      rw [ifd_pos (by omega), ck_pos (by omega), Int.toNat_natCast, ht, hd, List.length_replicate, List.length_replicate, ckI64 (by omega)]
      refine ⟨_, rfl, ⟨n + min n (N - n), by dsimp only; omega, by omega, by omega, ?_⟩, by dsimp only; omega⟩
      dsimp only
      rw [List.take_replicate, List.drop_replicate, ← List.append_assoc, List.replicate_append_replicate, show n + min (N - n) n = n + min n (N - n) by omega, show N - n - n = N - (n + min n (N - n)) by omega]
    · right
      rw [ifd_neg (by omega)]
      refine ⟨_, rfl, ?_⟩
      rw [hl, show N - n = 0 by omega, show n = N by omega]; simp
  obtain ⟨r, e, rfl⟩ := this
  exact e
theorem gridNew4096 {k : Nat} (hk : k < 4) : p_grid_New (((4096 - k : Nat) : Nat) : Int) = some (some ⟨List.replicate (4096 - k) noC⟩, 0) := by
  have e := mulOne ⟨k, hk⟩
  dsimp only at e
  unfold p_grid_New
  rw [ifd_neg (by omega), ifd_neg (by omega)]
  dsimp only [p_grid_empty]
  rw [Option.bind_some]
  have : p_slices_Repeat_api_Cell [⟨⟨-1, -1, -1, -1⟩, ⟨0, 0, 0, 0⟩⟩] ((4096 - k : Nat) : Int) = some (List.replicate (4096 - k) noC) := by
    unfold p_slices_Repeat_api_Cell
    have u1 : inK .u64 (([(⟨⟨-1, -1, -1, -1⟩, ⟨0, 0, 0, 0⟩⟩ : T_api_Cell)].length : Nat) : Int) := by decide
    have u2 : inK .u64 ((4096 - k : Nat) : Int) := by
      match k, hk with
      | 0, _ | 1, _ | 2, _ | 3, _ => decide
    rw [ifd_neg (by omega), Option.bind_some, ck_pos u1, ck_pos u2, show (([(⟨⟨-1, -1, -1, -1⟩, ⟨0, 0, 0, 0⟩⟩ : T_api_Cell)].length : Nat) : Int) = 1 from rfl, e, Option.bind_some]
    dsimp only
    rw [if_neg (by simp; omega), Option.bind_some, ckK64 (by omega), ck_pos (by omega), Int.toNat_natCast, List.length_replicate]
    have e2 := repLoop (c := noC) (z := ⟨⟨0, 0, 0, 0⟩, ⟨0, 0, 0, 0⟩⟩) (N := 4096 - k) (by omega) (by omega)
    have e3 : ([(⟨⟨-1, -1, -1, -1⟩, ⟨0, 0, 0, 0⟩⟩ : T_api_Cell)].take (4096 - k) ++ (List.replicate (4096 - k) (⟨⟨0, 0, 0, 0⟩, ⟨0, 0, 0, 0⟩⟩ : T_api_Cell)).drop [(⟨⟨-1, -1, -1, -1⟩, ⟨0, 0, 0, 0⟩⟩ : T_api_Cell)].length) = List.replicate 1 noC ++ List.replicate (4096 - k - 1) ⟨⟨0, 0, 0, 0⟩, ⟨0, 0, 0, 0⟩⟩ := by
      rw [List.take_of_length_le (by simp; omega), List.drop_replicate]; rfl
    have e4 : ((min [(⟨⟨-1, -1, -1, -1⟩, ⟨0, 0, 0, 0⟩⟩ : T_api_Cell)].length (4096 - k) : Nat) : Int) = 1 := by simp; omega
    rw [e3, e4, e2, Option.bind_some]
  rw [this, Option.bind_some]
end Mu
