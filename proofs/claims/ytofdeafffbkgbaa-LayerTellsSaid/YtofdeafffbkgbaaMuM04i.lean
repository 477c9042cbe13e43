/- Layer 4: LayerTells and LayerMore, the laws. -/
import Derived.Test.YtofdeafffbkgbaaMuM04h
set_option linter.unusedVariables false
set_option linter.unusedSimpArgs false
set_option maxRecDepth 10000
namespace Mu
theorem nat_tmod {a : Int} {n : Nat} (ha : 0 ≤ a) (hn : 0 < n) : ∃ k : Nat, a.tmod (n : Int) = k ∧ k < n := by
  refine ⟨a.toNat % n, ?_, Nat.mod_lt _ hn⟩
  obtain ⟨k, rfl⟩ := Int.eq_ofNat_of_zero_le ha
  rw [Int.toNat_natCast, Int.tmod_eq_emod_of_nonneg (by omega)]; omega
theorem LayerTells_main (z : T_muntinref03_Raw) (back : A2 Int) (hN : Wf .u8 z.N) (mA : z.Arcs.length ≤ Go.maxLen) (bA : ∀ y ∈ z.Arcs, Ok_A3_u8 y) (hm : Ok_A2_u8 back) : p_muntinlaw04_LayerTells z back = some true := by
  obtain ⟨n, arcs, n0, n1, hg, e1⟩ := mGraph (z := z) (most := 30) ⟨hN.u8.1, hN.u8.2⟩ (fun y hy => by have := bA y hy; exact ⟨this.1.u8.1, this.1.u8.2, this.2.1.u8.1, this.2.1.u8.2, this.2.2.u8.1, this.2.2.u8.2⟩) (by omega) (by omega)
  obtain ⟨x, e2, hx⟩ := mLayers hg.ra (by omega) (by have := hg.len; omega) (fun v _ _ => peel_up hg.ra hg.up v)
  have hl := hx.len
  have hA := hg.len
  have m0 := hm.1.u8
  have m1 := hm.2.u8
  obtain ⟨a, ea, ha⟩ := nat_tmod m0.1 (show 0 < n + 1 by omega)
  obtain ⟨b, eb, hb⟩ := nat_tmod m1.1 (show 0 < n + 1 by omega)
  have g0 : back.get 0 = back.a := rfl
  have g1 : back.get 1 = back.b := rfl
  have hb2 : ∀ i, i < x.length → 0 ≤ gi x i ∧ gi x i ≤ 1000000 := fun i hi => by have := hx.pos i (by omega); omega
  obtain ⟨M, m, s1, s2, s3, s4⟩ := mSpan (x := x) (by intro e; rw [e] at hl; simp at hl; omega) (by omega) hb2
  unfold p_muntinlaw04_LayerTells
  rw [show (30 : Int) = ((30 : Nat) : Int) from rfl, e1, Option.bind_some]
  dsimp only
  rw [e2, Option.bind_some]
  dsimp only
  rw [ifn_neg rfl, rLayers hg (by omega) hx, Option.bind_some, iEqual (by omega), Option.bind_some, Option.bind_some, if_neg (by decide), s1, Option.bind_some, rSpan (by omega) hb2 (by omega) s2 s3 s4, Option.bind_some, dec_t rfl, Option.bind_some, if_neg (by decide)]
  unfold p_slices_Clone_api_Arc
  rw [ck_pos (by omega), Option.bind_some, g0, g1, ckK64 (by omega), ckI64 (by omega), ck_pos (by omega), ckK64 (by omega), ck_pos (by rw [List.length_singleton]; omega), show (n : Int) + 1 = ((n + 1 : Nat) : Int) by omega, ea, eb]
  have l3 : (arcs ++ [(⟨a, b, 0⟩ : T_api_Arc)]).length ≤ 41 := by rw [List.length_append, List.length_singleton]; omega
  by_cases c : a < n ∧ b < n
  · have r3 : RA n (arcs ++ [⟨a, b, 0⟩]) := fun e he => by
      rw [List.mem_append, List.mem_singleton] at he
      rcases he with he | rfl
      · exact hg.ra e he
      · dsimp only; omega
    obtain ⟨l, e, q1, q2⟩ := rOrder r3 (by omega) (by omega)
    rw [q1, Option.bind_some]
    dsimp only
    rcases q2 with ⟨rfl, q2⟩ | ⟨rfl, q2⟩
    · obtain ⟨y, e4, hy⟩ := mLayers r3 (by omega) (by omega) q2
      have hly := hy.len
      rw [e4, Option.bind_some]
      dsimp only
      rw [kLayerWakes, Option.bind_some, dec_f (show ¬ (y.length : Int) = 0 by omega)]
      rfl
    · obtain ⟨v, hv⟩ : ∃ v : Int, 0 ≤ v ∧ v < n ∧ ¬ Peel (arcs ++ [⟨a, b, 0⟩]) v := by
        refine Classical.byContradiction fun hh => q2 fun v h0 h1 => Classical.byContradiction fun h2 => hh ⟨v, h0, h1, h2⟩
      rw [mLayersBad r3 (by omega) (by omega) hv.1 hv.2.1 hv.2.2, Option.bind_some]
      dsimp only
      rw [kLayerWakes, Option.bind_some]
      rfl
  · have r3 : ¬ RA n (arcs ++ [⟨a, b, 0⟩]) := fun h => by
      have := h ⟨a, b, 0⟩ (by simp)
      dsimp only at this
      omega
    rw [rOrderBad r3, Option.bind_some]
    dsimp only
    rw [mLayersArg r3, Option.bind_some]
    dsimp only
    rw [kLayerWakes, Option.bind_some]
    rfl
end Mu
