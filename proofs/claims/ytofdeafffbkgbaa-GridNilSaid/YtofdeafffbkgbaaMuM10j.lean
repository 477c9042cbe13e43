/- Layer 10: GridTurns, GridChecks, GridNil. -/
import Derived.Test.YtofdeafffbkgbaaMuM10i
set_option linter.unusedVariables false
set_option linter.unusedSimpArgs false
set_option maxRecDepth 10000
namespace Mu
theorem turnTmod {d : Nat} (hd : d < 4) : ((d : Int) + 1).tmod 4 = (((d + 1) % 4 : Nat) : Int) := by
  match d, hd with
  | 0, _ | 1, _ | 2, _ | 3, _ => rfl
theorem chk_trn {l : List T_api_Cell} : chkP (trn l) = 0 ↔ chkP l = 0 := by
  rw [Ck_iff, Ck_iff, trn_len]
  exact ⟨fun h => ⟨h.1, h.2.turnBack⟩, fun h => ⟨h.1, h.2.turn⟩⟩
theorem splitTurn {l : List T_api_Cell} (hc : Ck l) (hl : l.length < 4096) {v d : Nat} (hd : d < 4) : ∃ u e m, p_grid_Grid_Split ⟨l⟩ v d = some (u, e, ⟨m⟩) ∧ p_grid_Grid_Split ⟨trn l⟩ v (((d + 1) % 4 : Nat) : Int) = some (u, e, ⟨trn m⟩) ∧ m.length ≤ l.length + 1 := by
  have hL := trn_len (l := l)
  by_cases c : v < l.length
  · have t := nx_trn (l := l) (v := v) (e := (d + 1) % 4) c (by omega)
    rw [show ((d + 1) % 4 + 3) % 4 = d by omega] at t
    by_cases e : nx l v d = -1
    · exact ⟨0, 9, l, mSplitNo c hd e, mSplitNo (by omega) (by omega) (by rw [t.1]; exact e), by omega⟩
    · obtain ⟨w, hw⟩ : ∃ w : Nat, nx l v d = w := by
        rcases hc.s v d c hd with ⟨a, _⟩ | ⟨w, a, _⟩
        · exact absurd a e
        · exact ⟨w, a⟩
      obtain ⟨hwl, hwv, hcs⟩ := hc.spl c hd hw
      refine ⟨_, _, _, mSplitOk hl c hd hw hwl, ?_, by rw [spl_len]; omega⟩
      have := mSplitOk (l := trn l) (v := v) (d := (d + 1) % 4) (w := w) (by omega) (by omega) (by omega) (by rw [t.1]; exact hw) (by omega)
      rw [this, t.2, trn_spl c hwl hd, hL]
  · exact ⟨0, 2, l, mSplitBad (by omega), mSplitBad (by omega), by omega⟩
theorem mulOne : ∀ k : Fin 4, p_bits_Mul 1 ((4096 - (k : Nat) : Nat) : Int) = some (0, ((4096 - (k : Nat) : Nat) : Int)) := by decide +kernel
theorem repLoop {c z : T_api_Cell} {N : Nat} (h0 : 0 < N) (hN : N ≤ 100000) : loopF p_slices_Repeat_api_Cell.s0 big (List.replicate 1 c ++ List.replicate (N - 1) z, 1) = some (List.replicate N c) := by
  have : ∃ r, loopF p_slices_Repeat_api_Cell.s0 big (List.replicate 1 c ++ List.replicate (N - 1) z, 1) = some r ∧ r = List.replicate N c := by
    refine loop_meas (fun s : List T_api_Cell × Int => N - s.2.toNat) (fun s => ∃ n : Nat, s.2 = n ∧ 0 < n ∧ n ≤ N ∧ s.1 = List.replicate n c ++ List.replicate (N - n) z) (big_lt (by dsimp only; omega)) ⟨1, rfl, by omega, h0, rfl⟩ ?_
    rintro ⟨l, i⟩ ⟨n, hi, n0, n1, hl⟩
    dsimp only at hi hl ⊢
    subst hi
    have hlen : l.length = N := by rw [hl, List.length_append, List.length_replicate, List.length_replicate]; omega
    have ht : l.take n = List.replicate n c := by rw [hl, List.take_append_of_le_length (by simp), List.take_of_length_le (by simp)]
    have hd : l.drop n = List.replicate (N - n) z := by rw [hl, List.drop_append_of_le_length (by simp), List.drop_of_length_le (by simp), List.nil_append]
    simp only [p_slices_Repeat_api_Cell.s0]
    by_cases c1 : n < N
    · left
      rw [ifd_pos (by omega), ck_pos (by omega), Int.toNat_natCast, ht, hd, List.length_replicate, List.length_replicate, ckI64 (by omega)]
      refine ⟨_, rfl, ⟨n + min n (N - n), by dsimp only; omega, by omega, by omega, ?_⟩, by dsimp only; omega⟩
      dsimp only
      rw [List.take_replicate, List.drop_replicate, ← List.append_assoc, List.replicate_append_replicate, show n + min (N - n) n = n + min n (N - n) by omega, show N - n - n = N - (n + min n (N - n)) by omega]
    · right
      rw [ifd_neg (by omega)]
      refine ⟨_, rfl, ?_⟩
      rw [hl, show N - n = 0 by omega, show n = N by omega]; simp
  obtain ⟨r, e, rfl⟩ := this
  exact e
theorem gridNew4096 {k : Nat} (hk : k < 4) : p_grid_New (((4096 - k : Nat) : Nat) : Int) = some (some ⟨List.replicate (4096 - k) noC⟩, 0) := by
  have e := mulOne ⟨k, hk⟩
  dsimp only at e
  unfold p_grid_New
  rw [ifd_neg (by omega), ifd_neg (by omega)]
  dsimp only [p_grid_empty]
  rw [Option.bind_some]
  have : p_slices_Repeat_api_Cell [⟨⟨-1, -1, -1, -1⟩, ⟨0, 0, 0, 0⟩⟩] ((4096 - k : Nat) : Int) = some (List.replicate (4096 - k) noC) := by
    unfold p_slices_Repeat_api_Cell
    have u1 : inK .u64 (([(⟨⟨-1, -1, -1, -1⟩, ⟨0, 0, 0, 0⟩⟩ : T_api_Cell)].length : Nat) : Int) := by decide
    have u2 : inK .u64 ((4096 - k : Nat) : Int) := by
      match k, hk with
      | 0, _ | 1, _ | 2, _ | 3, _ => decide
    rw [ifd_neg (by omega), Option.bind_some, ck_pos u1, ck_pos u2, show (([(⟨⟨-1, -1, -1, -1⟩, ⟨0, 0, 0, 0⟩⟩ : T_api_Cell)].length : Nat) : Int) = 1 from rfl, e, Option.bind_some]
    dsimp only
    rw [if_neg (by simp; omega), Option.bind_some, ckK64 (by omega), ck_pos (by omega), Int.toNat_natCast, List.length_replicate]
    have e2 := repLoop (c := noC) (z := ⟨⟨0, 0, 0, 0⟩, ⟨0, 0, 0, 0⟩⟩) (N := 4096 - k) (by omega) (by omega)
    have e3 : ([(⟨⟨-1, -1, -1, -1⟩, ⟨0, 0, 0, 0⟩⟩ : T_api_Cell)].take (4096 - k) ++ (List.replicate (4096 - k) (⟨⟨0, 0, 0, 0⟩, ⟨0, 0, 0, 0⟩⟩ : T_api_Cell)).drop [(⟨⟨-1, -1, -1, -1⟩, ⟨0, 0, 0, 0⟩⟩ : T_api_Cell)].length) = List.replicate 1 noC ++ List.replicate (4096 - k - 1) ⟨⟨0, 0, 0, 0⟩, ⟨0, 0, 0, 0⟩⟩ := by
      rw [List.take_of_length_le (by simp; omega), List.drop_replicate]; rfl
    have e4 : ((min [(⟨⟨-1, -1, -1, -1⟩, ⟨0, 0, 0, 0⟩⟩ : T_api_Cell)].length (4096 - k) : Nat) : Int) = 1 := by simp; omega
    rw [e3, e4, e2, Option.bind_some]
  rw [this, Option.bind_some]
theorem is_nil {v d : Int} : p_grid_Grid_is_nil0 v d = some false := by
  unfold p_grid_Grid_is_nil0 p_grid_Grid_Len_nil0
  by_cases c : 0 ≤ v
  · rw [ifd_pos c, Option.bind_some, Option.bind_some, dec_f (by omega), if_neg (by decide), Option.bind_some]
  · rw [ifd_neg c, Option.bind_some, if_neg (by decide), Option.bind_some]
theorem gnFill {n : Int} {k : Nat} (hk : (max 0 n).tmod 4 = k) (h4 : k < 4) : loopF (p_muntinlaw10_GridNil.s0 n) big (List.replicate (4096 - k) noC, 0) = some (List.replicate 4096 noC) := by
  refine loop_to (fun i : Nat => (List.replicate (4096 - k + i) noC, (i : Int))) (n := k) (big_lt (by omega)) rfl (fun i hi => ?_) ?_
  · simp only [p_muntinlaw10_GridNil.s0]
    rw [hk, ifd_pos (by omega), mAdd (by rw [List.length_replicate]; omega), Option.bind_some]
    dsimp only
    rw [ckI64 (by omega), show List.replicate (4096 - k + i) noC ++ [noC] = List.replicate (4096 - k + (i + 1)) noC by rw [← Nat.add_assoc, List.replicate_succ'], show ((i + 1 : Nat) : Int) = (i : Int) + 1 by omega]
  · simp only [p_muntinlaw10_GridNil.s0]
    rw [hk, ifd_neg (by omega), show 4096 - k + k = 4096 by omega]
theorem GridNil_main (v d n : Int) (hv : Wf .i64 v) (hd : Wf .i64 d) (hn : Wf .i64 n) : p_muntinlaw10_GridNil v d n = some true := by
  obtain ⟨k, hk, h4⟩ := natTmod (a := max 0 n) (n := 4) (by omega) (by omega)
  obtain ⟨j, hj, h9⟩ := natTmod (a := max 0 n) (n := 9) (by omega) (by omega)
  rw [show ((4 : Nat) : Int) = 4 from rfl] at hk
  rw [show ((9 : Nat) : Int) = 9 from rfl] at hj
  have hL : (List.replicate 4096 noC).length = 4096 := List.length_replicate
  have hnext : p_grid_Grid_Next_nil0 v d = some (0, 0, false) := by
    unfold p_grid_Grid_Next_nil0
    rw [is_nil, Option.bind_some, if_pos (by decide), Option.bind_some, if_pos rfl]
  have hadd : p_grid_Grid_Add ⟨List.replicate 4096 noC⟩ = some (0, 6, ⟨List.replicate 4096 noC⟩) := by
    simp only [p_grid_Grid_Add, p_grid_Grid_Len, Option.bind_some]
    rw [ifd_pos (by rw [hL]; rfl)]
  have hnew : p_grid_New (4097 + (j : Int)) = some (none, 6) := by
    unfold p_grid_New
    rw [ifd_neg (by omega), ifd_pos (by omega)]
  have nxr : ∀ i e : Nat, i < 4096 → e < 4 → nx (List.replicate 4096 noC) i e = -1 := by
    intro i e hi he
    have : gi (List.replicate 4096 noC) i = noC := by rw [gi_eq (by rw [hL]; exact hi), List.getElem_replicate]
    unfold nx
    rw [this]
    exact (nx_noC he).1
  have hjoin : p_grid_Grid_Join ⟨List.replicate 4096 noC⟩ 0 0 1 3 = some (0, ⟨wth (List.replicate 4096 noC) 0 0 1 3⟩) := by
    have l1 := mLay (l := List.replicate 4096 noC) (v := 0) (w := 1) (d := 0) (o := 3) (by rw [hL]; omega) (by rw [hL]; omega) (by omega)
    have b := mBack (d := 0) (by omega)
    have a0 : (gi (List.replicate 4096 noC) (0 : Int).toNat).Next.get 0 = -1 := nxr 0 0 (by omega) (by omega)
    have a1 : (gi (List.replicate 4096 noC) (1 : Int).toNat).Next.get 2 = -1 := nxr 1 2 (by omega) (by omega)
    simp only [p_grid_Grid_Join]
    rw [mIs, mIs, Option.bind_some, dec_t (show (0 : Int) ≤ 0 ∧ (0 : Int) < ((List.replicate 4096 noC).length : Int) ∧ (0 : Int) ≤ 0 ∧ (0 : Int) < 4 by rw [hL]; omega), Bool.not_true, if_neg Bool.false_ne_true, Option.bind_some, dec_t (show (0 : Int) ≤ 1 ∧ (1 : Int) < ((List.replicate 4096 noC).length : Int) ∧ (0 : Int) ≤ 0 ∧ (0 : Int) < 4 by rw [hL]; omega), Option.bind_some, if_neg (by decide), ck_pos (by rw [hL]; omega), ck_pos (by omega), ifn_neg a0, show (0 : Int) = ((0 : Nat) : Int) from rfl, b, Option.bind_some]
    rw [show (((0 + 2) % 4 : Nat) : Int) = 2 from rfl, ck_pos (by rw [hL]; omega), ck_pos (by omega), a1, dec_t rfl, Option.bind_some, if_neg (by decide)]
    rw [show (1 : Int) = ((1 : Nat) : Int) from rfl, l1, Option.bind_some]
  have hsplit : p_grid_Grid_Split ⟨wth (List.replicate 4096 noC) 0 0 1 3⟩ 0 0 = some (0, 6, ⟨wth (List.replicate 4096 noC) 0 0 1 3⟩) := by
    have h := nx_wth (l := List.replicate 4096 noC) (v := 0) (w := 1) (d := 0) (i := 0) (e := 0) (o := 3) (by rw [hL]; omega) (by rw [hL]; omega) (by omega) (by omega) (by rw [hL]; omega) (by omega)
    exact mSplitFull (l := wth (List.replicate 4096 noC) 0 0 1 3) (v := 0) (d := 0) (by rw [wth_length, hL]) (by rw [wth_length, hL]; omega) (by omega) (by
      have := h.1
      rw [if_pos ⟨rfl, rfl⟩] at this
      intro e
      have e2 := this.symm.trans e
      simp at e2)
  have hchk : p_grid_Check (List.replicate (4097 : Int).toNat (⟨⟨0, 0, 0, 0⟩, ⟨0, 0, 0, 0⟩⟩ : T_api_Cell)) = some 6 := by
    rw [mCheck (by rw [List.length_replicate]; decide)]
    unfold chkP
    rw [if_pos (by rw [List.length_replicate]; decide)]
  unfold p_muntinlaw10_GridNil
  rw [hnext, Option.bind_some]
  dsimp only [p_grid_Grid_Add_nil0, p_grid_Grid_Split_nil0, p_grid_Grid_Join_nil0, p_grid_Grid_Len_nil0, p_grid_Grid_Cells_nil0]
  rw [Option.bind_some]
  dsimp only
  rw [Option.bind_some]
  dsimp only
  rw [hk, ckI64 (by omega), show (4096 : Int) - (k : Int) = ((4096 - k : Nat) : Int) by omega, gridNew4096 h4, Option.bind_some]
  dsimp only
  rw [Option.bind_some, gnFill hk h4, Option.bind_some, hadd, Option.bind_some]
  dsimp only
  rw [hj, ckI64 (by omega), hnew, Option.bind_some]
  dsimp only
  rw [hjoin, Option.bind_some]
  dsimp only
  rw [hsplit, Option.bind_some]
  dsimp only
  rw [kGridWakes, Option.bind_some, if_pos (by decide), Option.bind_some, dec_t rfl, Option.bind_some, if_pos rfl, Option.bind_some, dec_t rfl, Option.bind_some, if_pos rfl, Option.bind_some, dec_t rfl, Option.bind_some, if_pos (by decide), ck_pos (by omega), hchk, Option.bind_some, dec_t rfl, Option.bind_some]
end Mu
