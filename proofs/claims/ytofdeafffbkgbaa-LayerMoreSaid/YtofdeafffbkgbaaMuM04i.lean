/- Layer 4: LayerTells and LayerMore, the laws. -/
import Derived.Test.YtofdeafffbkgbaaMuM04h
set_option linter.unusedVariables false
set_option linter.unusedSimpArgs false
set_option maxRecDepth 10000
namespace Mu
theorem nat_tmod {a : Int} {n : Nat} (ha : 0 ≤ a) (hn : 0 < n) : ∃ k : Nat, a.tmod (n : Int) = k ∧ k < n := by
  refine ⟨a.toNat % n, ?_, Nat.mod_lt _ hn⟩
  obtain ⟨k, rfl⟩ := Int.eq_ofNat_of_zero_le ha
  rw [Int.toNat_natCast, Int.tmod_eq_emod_of_nonneg (by omega)]; omega
theorem LayerMore_main (z : T_muntinref03_Raw) (more : A2 Int) (hN : Wf .u8 z.N) (mA : z.Arcs.length ≤ Go.maxLen) (bA : ∀ y ∈ z.Arcs, Ok_A3_u8 y) (hm : Ok_A2_u8 more) : p_muntinlaw04_LayerMore z more = some true := by
  obtain ⟨n, arcs, n0, n1, hg, e1⟩ := mGraph (z := z) (most := 20) ⟨hN.u8.1, hN.u8.2⟩ (fun y hy => by have := bA y hy; exact ⟨this.1.u8.1, this.1.u8.2, this.2.1.u8.1, this.2.1.u8.2, this.2.2.u8.1, this.2.2.u8.2⟩) (by omega) (by omega)
  obtain ⟨x, e2, hx⟩ := mLayers hg.ra (by omega) (by have := hg.len; omega) (fun v _ _ => peel_up hg.ra hg.up v)
  have hl := hx.len
  have hA := hg.len
  have m0 := hm.1.u8
  have m1 := hm.2.u8
  obtain ⟨a, ea, ha⟩ := nat_tmod m0.1 n0
  obtain ⟨b, eb, hb⟩ := nat_tmod m1.1 n0
  have g0 : more.get 0 = more.a := rfl
  have g1 : more.get 1 = more.b := rfl
  have r2 : RA n (arcs ++ arcs) := fun e he => by
    rw [List.mem_append] at he
    exact he.elim (hg.ra e) (hg.ra e)
  have u2 : ∀ e ∈ arcs ++ arcs, e.From < e.To := fun e he => by
    rw [List.mem_append] at he
    exact he.elim (hg.up e) (hg.up e)
  have l2 : (arcs ++ arcs).length ≤ 80 := by rw [List.length_append]; omega
  obtain ⟨t, e3, ht⟩ := mLayers r2 (by omega) (by omega) (fun v _ _ => peel_up r2 u2 v)
  have htx : t = x := (hx.uniq ht hg.ra hg.up (fun e => by simp)).symm
  subst htx
  unfold p_muntinlaw04_LayerMore
  rw [show (20 : Int) = ((20 : Nat) : Int) from rfl, e1, Option.bind_some]
  dsimp only
  rw [e2, Option.bind_some]
  dsimp only
  rw [g0, g1, ckK64 (by omega), ck_pos (by omega), ckK64 (by omega)]
  unfold p_slices_Clone_api_Arc
  rw [ck_pos (by omega), Option.bind_some, ck_pos (by omega), e3, Option.bind_some]
  dsimp only
  rw [kLayerWakes, Option.bind_some, if_neg (by simp), iEqual (by omega), Option.bind_some, Option.bind_some, if_neg (by decide), ea, eb]
  by_cases c : b ≤ a
  · rw [ifd_pos (by omega)]
  · rw [ifd_neg (by omega), ck_pos (by rw [List.length_singleton]; omega)]
    have r3 : RA n ((arcs ++ arcs) ++ [⟨a, b, 0⟩]) := fun e he => by
      rw [List.mem_append, List.mem_singleton] at he
      rcases he with he | rfl
      · exact r2 e he
      · dsimp only; omega
    have u3 : ∀ e ∈ (arcs ++ arcs) ++ [(⟨a, b, 0⟩ : T_api_Arc)], e.From < e.To := fun e he => by
      rw [List.mem_append, List.mem_singleton] at he
      rcases he with he | rfl
      · exact u2 e he
      · dsimp only; omega
    obtain ⟨y, e4, hy⟩ := mLayers r3 (by omega) (by rw [List.length_append, List.length_singleton]; omega) (fun v _ _ => peel_up r3 u3 v)
    have hly := hy.len
    obtain ⟨A, B, C⟩ := ht.more hy r2 u2 (show a < b by omega) hb (w := 0) (by omega) (fun e => by rw [List.mem_append, List.mem_singleton])
    rw [e4, Option.bind_some]
    dsimp only
    rw [if_neg (by simp; omega)]
    have h : loopF (p_muntinlaw04_LayerMore.s0 more n t y) big 0 = some (.inl ()) := by
      refine loop_to (fun v : Nat => (v : Int)) (n := n) (big_lt (by omega)) rfl (fun v hv => ?_) ?_
      · have q := A v hv
        simp only [p_muntinlaw04_LayerMore.s0]
        rw [g1, eb, ifd_pos (by omega), ck_pos (by omega), ck_pos (by omega), Int.toNat_natCast]
        have w : (decide (gi y v < gi t v) || decide ((v : Int) < (b : Int)) && !decide (gi y v = gi t v)) = false := by
          rw [dec_f (show ¬ gi y v < gi t v by omega), Bool.false_or]
          by_cases d : v < b
          · rw [B v d]; simp
          · rw [dec_f (by omega)]; rfl
        rw [w, if_neg Bool.false_ne_true, ckI64 (by omega)]
        rfl
      · simp only [p_muntinlaw04_LayerMore.s0]
        rw [ifd_neg (by omega)]
    have pa := ht.pos a ha
    rw [h, Option.bind_some]
    dsimp only
    rw [ck_pos (by omega), ck_pos (by omega), ck_pos (by omega), Int.toNat_natCast, Int.toNat_natCast, ckI64 (by omega), C, dec_t rfl]
end Mu
