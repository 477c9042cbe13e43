/- The code comes to what was worked out. -/
import Derived.Test.YtofdeafffbkgbaaMuDf
import Derived.Test.YtofdeafffbkgbaaMuPa
import Derived.Test.YtofdeafffbkgbaaMuC0
set_option linter.unusedVariables false
set_option linter.unnecessarySimpa false
set_option linter.unusedSimpArgs false
set_option maxHeartbeats 2000000
set_option maxRecDepth 10000
namespace Mu
open Go (IntKind BinOp UnOp)
theorem p_grid_empty.ok {h : Hp}    {r : T_api_Cell} (hp : p_grid_empty  = some r) :
    ∃ u k', Is G 74 [] h u k' ∧ V.ag (e_T_api_Cell.c r) = u ∧ Own (fun r => r < h.n) h k' [] := by
  refine WC.is (WC_of G_F_grid_empty ?_)
  unfold p_grid_empty at hp
  let B : Nat → Prop := (fun r => r < h.n)
  have hO : Own B h h [] := Own.start0 h
  refine W_sq ?_
  refine W_rg ?_
  refine WO_x (hO.alloc (cs := e_T_api_Cell.c (⟨⟨0, 0, 0, 0⟩, ⟨0, 0, 0, 0⟩⟩ : T_api_Cell)) hO.fr) ?_
  rintro _ k₁ ⟨r₁, rfl, n₁, f₁, hW⟩
  have hO₁ : Own B h k₁ [eBox r₁ (e_T_api_Cell.c (⟨⟨0, 0, 0, 0⟩, ⟨0, 0, 0, 0⟩⟩ : T_api_Cell))] := hW
  refine WO_end ?_
  refine then_n ?_
  refine W_sq ?_
  refine W_rg ?_
  refine WO_v (a_build (cs := e_A4_i64.c (⟨(-1), (-1), (-1), (-1)⟩ : A4 Int)) (by rw [(ev_cons (v := .i .i64 (-1)) rfl (ev_cons (v := .i .i64 (-1)) rfl (ev_cons (v := .i .i64 (-1)) rfl (ev_cons (v := .i .i64 (-1)) rfl ev_nil))))]; rfl)) ?_
  refine WO_v (a_build (cs := e_T_api_Cell.c (⟨(⟨(-1), (-1), (-1), (-1)⟩ : A4 Int), (⟨0, 0, 0, 0⟩ : A4 Int)⟩ : T_api_Cell)) (by rw [(ev_cons (v := .ag (e_A4_i64.c (⟨(-1), (-1), (-1), (-1)⟩ : A4 Int))) rfl ev_nil)]; rfl)) ?_
  refine WO_x (hO₁.stb (ws := e_T_api_Cell.c (⟨(⟨(-1), (-1), (-1), (-1)⟩ : A4 Int), (⟨0, 0, 0, 0⟩ : A4 Int)⟩ : T_api_Cell)) (cs' := e_T_api_Cell.c (⟨(⟨(-1), (-1), (-1), (-1)⟩ : A4 Int), (⟨0, 0, 0, 0⟩ : A4 Int)⟩ : T_api_Cell)) (v := .ag (e_T_api_Cell.c (⟨(⟨(-1), (-1), (-1), (-1)⟩ : A4 Int), (⟨0, 0, 0, 0⟩ : A4 Int)⟩ : T_api_Cell))) 0 rfl rfl rfl rfl ⟨rfl, Nat.le_of_ble_eq_true rfl, rfl⟩ rfl) ?_
  rintro _ k₂ ⟨rfl, f₂, m₁, hW⟩
  have hO₂ : Own B h k₂ [eBox r₁ (e_T_api_Cell.c (⟨(⟨(-1), (-1), (-1), (-1)⟩ : A4 Int), (⟨0, 0, 0, 0⟩ : A4 Int)⟩ : T_api_Cell))] := hW
  refine WO_end ?_
  refine then_n ?_
  refine W_rt ?_
  refine Ret_r (rs_c (n := 0) (v := .ag (e_T_api_Cell.c (⟨(⟨(-1), (-1), (-1), (-1)⟩ : A4 Int), (⟨0, 0, 0, 0⟩ : A4 Int)⟩ : T_api_Cell))) (r := r₁) rfl (hO₂.box 0 rfl) rfl rs_nil) ?_
  have hp := Option.some.inj hp; subst hp
  exact (And.intro rfl (hO₂.pick [] rfl (by decide)))

theorem p_bits_Mul64.ok {h : Hp} {x : Int} {y : Int}   {r : Int × Int} (hp : p_bits_Mul64 x y = some r) :
    ∃ u k', Is G 98 [.i .u64 x, .i .u64 y] h u k' ∧ V.tu [.i .u64 r.1, .i .u64 r.2] = u ∧ Own (fun r => r < h.n) h k' [] := by
  refine WC.is (WC_of G_F_bits_Mul64 ?_)
  unfold p_bits_Mul64 at hp
  let B : Nat → Prop := (fun r => r < h.n)
  have hO : Own B h h [] := Own.start0 h
  refine W_sq ?_
  refine W_rg ?_
  refine WO_v (a_mv (v := .i .u64 0) rfl) ?_
  refine WO_v (a_mv (v := .i .u64 0) rfl) ?_
  refine WO_end ?_
  refine then_n ?_
  refine W_sq ?_
  refine W_rg ?_
  refine WO_v (a_mv (v := .i .u64 x) rfl) ?_
  refine WO_v (a_ari (a := x) (b := 4294967295) (v := .i .u64 (ari_and .u64 x 4294967295)) rfl rfl (by decide) rfl) ?_
  refine WO_v (a_mv (v := .i .u64 (ari_and .u64 x 4294967295)) rfl) ?_
  refine WO_end ?_
  refine then_n ?_
  refine W_sq ?_
  refine W_rg ?_
  refine WO_v (a_mv (v := .i .u64 x) rfl) ?_
  refine WO_v (a_shift (a := x) (b := 32) (v := .i .u64 (sh_shr .u64 x 32)) rfl rfl (by decide) (sh_shr_ok (by decide))) ?_
  refine WO_v (a_mv (v := .i .u64 (sh_shr .u64 x 32)) rfl) ?_
  refine WO_end ?_
  refine then_n ?_
  refine W_sq ?_
  refine W_rg ?_
  refine WO_v (a_mv (v := .i .u64 y) rfl) ?_
  refine WO_v (a_ari (a := y) (b := 4294967295) (v := .i .u64 (ari_and .u64 y 4294967295)) rfl rfl (by decide) rfl) ?_
  refine WO_v (a_mv (v := .i .u64 (ari_and .u64 y 4294967295)) rfl) ?_
  refine WO_end ?_
  refine then_n ?_
  refine W_sq ?_
  refine W_rg ?_
  refine WO_v (a_mv (v := .i .u64 y) rfl) ?_
  refine WO_v (a_shift (a := y) (b := 32) (v := .i .u64 (sh_shr .u64 y 32)) rfl rfl (by decide) (sh_shr_ok (by decide))) ?_
  refine WO_v (a_mv (v := .i .u64 (sh_shr .u64 y 32)) rfl) ?_
  refine WO_end ?_
  refine then_n ?_
  refine W_sq ?_
  refine W_rg ?_
  refine WO_v (a_mv (v := .i .u64 (ari_and .u64 x 4294967295)) rfl) ?_
  refine WO_v (a_mv (v := .i .u64 (ari_and .u64 y 4294967295)) rfl) ?_
  refine WO_v (a_ari (a := (ari_and .u64 x 4294967295)) (b := (ari_and .u64 y 4294967295)) (v := .i .u64 (ari_mul .u64 (ari_and .u64 x 4294967295) (ari_and .u64 y 4294967295))) rfl rfl (by decide) rfl) ?_
  refine WO_v (a_mv (v := .i .u64 (ari_mul .u64 (ari_and .u64 x 4294967295) (ari_and .u64 y 4294967295))) rfl) ?_
  refine WO_end ?_
  refine then_n ?_
  refine W_sq ?_
  refine W_rg ?_
  refine WO_v (a_mv (v := .i .u64 (sh_shr .u64 x 32)) rfl) ?_
  refine WO_v (a_mv (v := .i .u64 (ari_and .u64 y 4294967295)) rfl) ?_
  refine WO_v (a_ari (a := (sh_shr .u64 x 32)) (b := (ari_and .u64 y 4294967295)) (v := .i .u64 (ari_mul .u64 (sh_shr .u64 x 32) (ari_and .u64 y 4294967295))) rfl rfl (by decide) rfl) ?_
  refine WO_v (a_mv (v := .i .u64 (ari_mul .u64 (ari_and .u64 x 4294967295) (ari_and .u64 y 4294967295))) rfl) ?_
  refine WO_v (a_shift (a := (ari_mul .u64 (ari_and .u64 x 4294967295) (ari_and .u64 y 4294967295))) (b := 32) (v := .i .u64 (sh_shr .u64 (ari_mul .u64 (ari_and .u64 x 4294967295) (ari_and .u64 y 4294967295)) 32)) rfl rfl (by decide) (sh_shr_ok (by decide))) ?_
  refine WO_v (a_ari (a := (ari_mul .u64 (sh_shr .u64 x 32) (ari_and .u64 y 4294967295))) (b := (sh_shr .u64 (ari_mul .u64 (ari_and .u64 x 4294967295) (ari_and .u64 y 4294967295)) 32)) (v := .i .u64 (ari_add .u64 (ari_mul .u64 (sh_shr .u64 x 32) (ari_and .u64 y 4294967295)) (sh_shr .u64 (ari_mul .u64 (ari_and .u64 x 4294967295) (ari_and .u64 y 4294967295)) 32))) rfl rfl (by decide) rfl) ?_
  refine WO_v (a_mv (v := .i .u64 (ari_add .u64 (ari_mul .u64 (sh_shr .u64 x 32) (ari_and .u64 y 4294967295)) (sh_shr .u64 (ari_mul .u64 (ari_and .u64 x 4294967295) (ari_and .u64 y 4294967295)) 32))) rfl) ?_
  refine WO_end ?_
  refine then_n ?_
  refine W_sq ?_
  refine W_rg ?_
  refine WO_v (a_mv (v := .i .u64 (ari_add .u64 (ari_mul .u64 (sh_shr .u64 x 32) (ari_and .u64 y 4294967295)) (sh_shr .u64 (ari_mul .u64 (ari_and .u64 x 4294967295) (ari_and .u64 y 4294967295)) 32))) rfl) ?_
  refine WO_v (a_ari (a := (ari_add .u64 (ari_mul .u64 (sh_shr .u64 x 32) (ari_and .u64 y 4294967295)) (sh_shr .u64 (ari_mul .u64 (ari_and .u64 x 4294967295) (ari_and .u64 y 4294967295)) 32))) (b := 4294967295) (v := .i .u64 (ari_and .u64 (ari_add .u64 (ari_mul .u64 (sh_shr .u64 x 32) (ari_and .u64 y 4294967295)) (sh_shr .u64 (ari_mul .u64 (ari_and .u64 x 4294967295) (ari_and .u64 y 4294967295)) 32)) 4294967295)) rfl rfl (by decide) rfl) ?_
  refine WO_v (a_mv (v := .i .u64 (ari_and .u64 (ari_add .u64 (ari_mul .u64 (sh_shr .u64 x 32) (ari_and .u64 y 4294967295)) (sh_shr .u64 (ari_mul .u64 (ari_and .u64 x 4294967295) (ari_and .u64 y 4294967295)) 32)) 4294967295)) rfl) ?_
  refine WO_end ?_
  refine then_n ?_
  refine W_sq ?_
  refine W_rg ?_
  refine WO_v (a_mv (v := .i .u64 (ari_add .u64 (ari_mul .u64 (sh_shr .u64 x 32) (ari_and .u64 y 4294967295)) (sh_shr .u64 (ari_mul .u64 (ari_and .u64 x 4294967295) (ari_and .u64 y 4294967295)) 32))) rfl) ?_
  refine WO_v (a_shift (a := (ari_add .u64 (ari_mul .u64 (sh_shr .u64 x 32) (ari_and .u64 y 4294967295)) (sh_shr .u64 (ari_mul .u64 (ari_and .u64 x 4294967295) (ari_and .u64 y 4294967295)) 32))) (b := 32) (v := .i .u64 (sh_shr .u64 (ari_add .u64 (ari_mul .u64 (sh_shr .u64 x 32) (ari_and .u64 y 4294967295)) (sh_shr .u64 (ari_mul .u64 (ari_and .u64 x 4294967295) (ari_and .u64 y 4294967295)) 32)) 32)) rfl rfl (by decide) (sh_shr_ok (by decide))) ?_
  refine WO_v (a_mv (v := .i .u64 (sh_shr .u64 (ari_add .u64 (ari_mul .u64 (sh_shr .u64 x 32) (ari_and .u64 y 4294967295)) (sh_shr .u64 (ari_mul .u64 (ari_and .u64 x 4294967295) (ari_and .u64 y 4294967295)) 32)) 32)) rfl) ?_
  refine WO_end ?_
  refine then_n ?_
  refine W_sq ?_
  refine W_rg ?_
  refine WO_v (a_mv (v := .i .u64 (ari_and .u64 (ari_add .u64 (ari_mul .u64 (sh_shr .u64 x 32) (ari_and .u64 y 4294967295)) (sh_shr .u64 (ari_mul .u64 (ari_and .u64 x 4294967295) (ari_and .u64 y 4294967295)) 32)) 4294967295)) rfl) ?_
  refine WO_v (a_mv (v := .i .u64 (ari_and .u64 x 4294967295)) rfl) ?_
  refine WO_v (a_mv (v := .i .u64 (sh_shr .u64 y 32)) rfl) ?_
  refine WO_v (a_ari (a := (ari_and .u64 x 4294967295)) (b := (sh_shr .u64 y 32)) (v := .i .u64 (ari_mul .u64 (ari_and .u64 x 4294967295) (sh_shr .u64 y 32))) rfl rfl (by decide) rfl) ?_
  refine WO_v (a_ari (a := (ari_and .u64 (ari_add .u64 (ari_mul .u64 (sh_shr .u64 x 32) (ari_and .u64 y 4294967295)) (sh_shr .u64 (ari_mul .u64 (ari_and .u64 x 4294967295) (ari_and .u64 y 4294967295)) 32)) 4294967295)) (b := (ari_mul .u64 (ari_and .u64 x 4294967295) (sh_shr .u64 y 32))) (v := .i .u64 (ari_add .u64 (ari_and .u64 (ari_add .u64 (ari_mul .u64 (sh_shr .u64 x 32) (ari_and .u64 y 4294967295)) (sh_shr .u64 (ari_mul .u64 (ari_and .u64 x 4294967295) (ari_and .u64 y 4294967295)) 32)) 4294967295) (ari_mul .u64 (ari_and .u64 x 4294967295) (sh_shr .u64 y 32)))) rfl rfl (by decide) rfl) ?_
  refine WO_v (a_mv (v := .i .u64 (ari_add .u64 (ari_and .u64 (ari_add .u64 (ari_mul .u64 (sh_shr .u64 x 32) (ari_and .u64 y 4294967295)) (sh_shr .u64 (ari_mul .u64 (ari_and .u64 x 4294967295) (ari_and .u64 y 4294967295)) 32)) 4294967295) (ari_mul .u64 (ari_and .u64 x 4294967295) (sh_shr .u64 y 32)))) rfl) ?_
  refine WO_end ?_
  refine then_n ?_
  refine W_sq ?_
  refine W_rg ?_
  refine WO_v (a_mv (v := .i .u64 (sh_shr .u64 x 32)) rfl) ?_
  refine WO_v (a_mv (v := .i .u64 (sh_shr .u64 y 32)) rfl) ?_
  refine WO_v (a_ari (a := (sh_shr .u64 x 32)) (b := (sh_shr .u64 y 32)) (v := .i .u64 (ari_mul .u64 (sh_shr .u64 x 32) (sh_shr .u64 y 32))) rfl rfl (by decide) rfl) ?_
  refine WO_v (a_mv (v := .i .u64 (sh_shr .u64 (ari_add .u64 (ari_mul .u64 (sh_shr .u64 x 32) (ari_and .u64 y 4294967295)) (sh_shr .u64 (ari_mul .u64 (ari_and .u64 x 4294967295) (ari_and .u64 y 4294967295)) 32)) 32)) rfl) ?_
  refine WO_v (a_ari (a := (ari_mul .u64 (sh_shr .u64 x 32) (sh_shr .u64 y 32))) (b := (sh_shr .u64 (ari_add .u64 (ari_mul .u64 (sh_shr .u64 x 32) (ari_and .u64 y 4294967295)) (sh_shr .u64 (ari_mul .u64 (ari_and .u64 x 4294967295) (ari_and .u64 y 4294967295)) 32)) 32)) (v := .i .u64 (ari_add .u64 (ari_mul .u64 (sh_shr .u64 x 32) (sh_shr .u64 y 32)) (sh_shr .u64 (ari_add .u64 (ari_mul .u64 (sh_shr .u64 x 32) (ari_and .u64 y 4294967295)) (sh_shr .u64 (ari_mul .u64 (ari_and .u64 x 4294967295) (ari_and .u64 y 4294967295)) 32)) 32))) rfl rfl (by decide) rfl) ?_
  refine WO_v (a_mv (v := .i .u64 (ari_add .u64 (ari_and .u64 (ari_add .u64 (ari_mul .u64 (sh_shr .u64 x 32) (ari_and .u64 y 4294967295)) (sh_shr .u64 (ari_mul .u64 (ari_and .u64 x 4294967295) (ari_and .u64 y 4294967295)) 32)) 4294967295) (ari_mul .u64 (ari_and .u64 x 4294967295) (sh_shr .u64 y 32)))) rfl) ?_
  refine WO_v (a_shift (a := (ari_add .u64 (ari_and .u64 (ari_add .u64 (ari_mul .u64 (sh_shr .u64 x 32) (ari_and .u64 y 4294967295)) (sh_shr .u64 (ari_mul .u64 (ari_and .u64 x 4294967295) (ari_and .u64 y 4294967295)) 32)) 4294967295) (ari_mul .u64 (ari_and .u64 x 4294967295) (sh_shr .u64 y 32)))) (b := 32) (v := .i .u64 (sh_shr .u64 (ari_add .u64 (ari_and .u64 (ari_add .u64 (ari_mul .u64 (sh_shr .u64 x 32) (ari_and .u64 y 4294967295)) (sh_shr .u64 (ari_mul .u64 (ari_and .u64 x 4294967295) (ari_and .u64 y 4294967295)) 32)) 4294967295) (ari_mul .u64 (ari_and .u64 x 4294967295) (sh_shr .u64 y 32))) 32)) rfl rfl (by decide) (sh_shr_ok (by decide))) ?_
  refine WO_v (a_ari (a := (ari_add .u64 (ari_mul .u64 (sh_shr .u64 x 32) (sh_shr .u64 y 32)) (sh_shr .u64 (ari_add .u64 (ari_mul .u64 (sh_shr .u64 x 32) (ari_and .u64 y 4294967295)) (sh_shr .u64 (ari_mul .u64 (ari_and .u64 x 4294967295) (ari_and .u64 y 4294967295)) 32)) 32))) (b := (sh_shr .u64 (ari_add .u64 (ari_and .u64 (ari_add .u64 (ari_mul .u64 (sh_shr .u64 x 32) (ari_and .u64 y 4294967295)) (sh_shr .u64 (ari_mul .u64 (ari_and .u64 x 4294967295) (ari_and .u64 y 4294967295)) 32)) 4294967295) (ari_mul .u64 (ari_and .u64 x 4294967295) (sh_shr .u64 y 32))) 32)) (v := .i .u64 (ari_add .u64 (ari_add .u64 (ari_mul .u64 (sh_shr .u64 x 32) (sh_shr .u64 y 32)) (sh_shr .u64 (ari_add .u64 (ari_mul .u64 (sh_shr .u64 x 32) (ari_and .u64 y 4294967295)) (sh_shr .u64 (ari_mul .u64 (ari_and .u64 x 4294967295) (ari_and .u64 y 4294967295)) 32)) 32)) (sh_shr .u64 (ari_add .u64 (ari_and .u64 (ari_add .u64 (ari_mul .u64 (sh_shr .u64 x 32) (ari_and .u64 y 4294967295)) (sh_shr .u64 (ari_mul .u64 (ari_and .u64 x 4294967295) (ari_and .u64 y 4294967295)) 32)) 4294967295) (ari_mul .u64 (ari_and .u64 x 4294967295) (sh_shr .u64 y 32))) 32))) rfl rfl (by decide) rfl) ?_
  refine WO_v (a_mv (v := .i .u64 (ari_add .u64 (ari_add .u64 (ari_mul .u64 (sh_shr .u64 x 32) (sh_shr .u64 y 32)) (sh_shr .u64 (ari_add .u64 (ari_mul .u64 (sh_shr .u64 x 32) (ari_and .u64 y 4294967295)) (sh_shr .u64 (ari_mul .u64 (ari_and .u64 x 4294967295) (ari_and .u64 y 4294967295)) 32)) 32)) (sh_shr .u64 (ari_add .u64 (ari_and .u64 (ari_add .u64 (ari_mul .u64 (sh_shr .u64 x 32) (ari_and .u64 y 4294967295)) (sh_shr .u64 (ari_mul .u64 (ari_and .u64 x 4294967295) (ari_and .u64 y 4294967295)) 32)) 4294967295) (ari_mul .u64 (ari_and .u64 x 4294967295) (sh_shr .u64 y 32))) 32))) rfl) ?_
  refine WO_end ?_
  refine then_n ?_
  refine W_sq ?_
  refine W_rg ?_
  refine WO_v (a_mv (v := .i .u64 x) rfl) ?_
  refine WO_v (a_mv (v := .i .u64 y) rfl) ?_
  refine WO_v (a_ari (a := x) (b := y) (v := .i .u64 (ari_mul .u64 x y)) rfl rfl (by decide) rfl) ?_
  refine WO_v (a_mv (v := .i .u64 (ari_mul .u64 x y)) rfl) ?_
  refine WO_end ?_
  refine then_n ?_
  refine W_rt ?_
  refine Ret_r (rs_t (n := 4) (v := .i .u64 (ari_add .u64 (ari_add .u64 (ari_mul .u64 (sh_shr .u64 x 32) (sh_shr .u64 y 32)) (sh_shr .u64 (ari_add .u64 (ari_mul .u64 (sh_shr .u64 x 32) (ari_and .u64 y 4294967295)) (sh_shr .u64 (ari_mul .u64 (ari_and .u64 x 4294967295) (ari_and .u64 y 4294967295)) 32)) 32)) (sh_shr .u64 (ari_add .u64 (ari_and .u64 (ari_add .u64 (ari_mul .u64 (sh_shr .u64 x 32) (ari_and .u64 y 4294967295)) (sh_shr .u64 (ari_mul .u64 (ari_and .u64 x 4294967295) (ari_and .u64 y 4294967295)) 32)) 4294967295) (ari_mul .u64 (ari_and .u64 x 4294967295) (sh_shr .u64 y 32))) 32))) rfl (rs_t (n := 5) (v := .i .u64 (ari_mul .u64 x y)) rfl rs_nil)) ?_
  have hp := Option.some.inj hp; subst hp
  exact (And.intro rfl (hO.pick [] rfl (by decide)))

theorem p_bits_Mul.ok {h : Hp} {x : Int} {y : Int}   {r : Int × Int} (hp : p_bits_Mul x y = some r) :
    ∃ u k', Is G 89 [.i .u64 x, .i .u64 y] h u k' ∧ V.tu [.i .u64 r.1, .i .u64 r.2] = u ∧ Own (fun r => r < h.n) h k' [] := by
  refine WC.is (WC_of G_F_bits_Mul ?_)
  unfold p_bits_Mul at hp
  let B : Nat → Prop := (fun r => r < h.n)
  have hO : Own B h h [] := Own.start0 h
  refine W_sq ?_
  refine W_rg ?_
  refine WO_v (a_mv (v := .i .u64 0) rfl) ?_
  refine WO_v (a_mv (v := .i .u64 0) rfl) ?_
  refine WO_end ?_
  refine then_n ?_
  refine W_sq ?_
  refine W_cF (t := false) rfl rfl ?_
  refine W_sk ?_
  refine then_n ?_
  refine W_sq ?_
  refine W_rg ?_
  refine WO_v (a_mv (v := .i .u64 x) rfl) ?_
  refine WO_v (a_mv (v := .i .u64 y) rfl) ?_
  obtain ⟨⟨x1, x2⟩, hx₁, hp⟩ := bd_some hp
  obtain ⟨u₁, k₁, ca₁, rfl, hW₁⟩ := p_bits_Mul64.ok (h := h)   hx₁
  refine WO_c (id := 98) (caps := []) rfl (mp_cons (v := .i .u64 x) rfl (mp_cons (v := .i .u64 y) rfl mp_nil)) ca₁ ?_
  have hO₁ : Own B h k₁ [] := hO.call hW₁ rfl
  refine WO_v (a_mv (v := .tu [.i .u64 x1, .i .u64 x2]) rfl) ?_
  refine WO_v (a_ext (vs := [.i .u64 x1, .i .u64 x2]) (v := .i .u64 x1) rfl rfl) ?_
  refine WO_v (a_ext (vs := [.i .u64 x1, .i .u64 x2]) (v := .i .u64 x2) rfl rfl) ?_
  refine WO_v (a_mv (v := .i .u64 x1) rfl) ?_
  refine WO_v (a_mv (v := .i .u64 x2) rfl) ?_
  refine WO_end ?_
  refine then_n ?_
  refine W_sq ?_
  refine W_rg ?_
  refine WO_v (a_mv (v := .i .u64 x1) rfl) ?_
  refine WO_v (a_mv (v := .i .u64 x2) rfl) ?_
  refine WO_v (a_mv (v := .i .u64 x1) rfl) ?_
  refine WO_v (a_mv (v := .i .u64 x2) rfl) ?_
  refine WO_end ?_
  refine then_n ?_
  refine W_rt ?_
  refine Ret_r (rs_t (n := 4) (v := .i .u64 x1) rfl (rs_t (n := 5) (v := .i .u64 x2) rfl rs_nil)) ?_
  have hp := Option.some.inj hp; subst hp
  exact (And.intro rfl (hO₁.pick [] rfl (by decide)))

theorem p_slices_Repeat_api_Cell.ok {h : Hp} {x : List T_api_Cell} {count : Int} {v_x : V} (s_x : Sl e_T_api_Cell h v_x x) {r : (List T_api_Cell)} (hp : p_slices_Repeat_api_Cell x count = some r) :
    ∃ u k', Is G 73 [v_x, .i .i64 count] h u k' ∧ ∃ (v₁ : V), v₁ = u ∧ Own (fun r => r < h.n) h k' [eSl e_T_api_Cell v₁ r] := by
  refine WC.is (WC_of G_F_slices_Repeat_api_Cell ?_)
  unfold p_slices_Repeat_api_Cell at hp
  let B : Nat → Prop := (fun r => r < h.n)
  have hO : Own B h h [] := Own.start0 h
  refine W_sq ?_
  refine W_rg ?_
  refine WO_v (a_mv (v := .sn) rfl) ?_
  refine WO_end ?_
  refine then_n ?_
  refine W_sq ?_
  refine W_sq ?_
  refine W_rg ?_
  refine WO_v (a_mv (v := .i .i64 count) rfl) ?_
  refine WO_v (a_lss (a := count) (b := 0) rfl rfl) ?_
  refine WO_end ?_
  refine then_n ?_
  obtain ⟨o₁, ho₁, hp⟩ := bd_some hp
  refine W.mono (Q := fun e fr k => match (generalizing := false) o₁ with
      | _ => e = .normal ∧ fr 0 = v_x ∧ fr 1 = .i .i64 count ∧ Own B h k []) ?_ ?_
  · clear hp; have hp := ho₁; clear ho₁
    rcases if_some hp with ⟨b₁, hp⟩ | ⟨b₁, hp⟩
    · refine W_cT (t := (decide (count < 0))) rfl b₁ ?_
      exact nomatch hp
    · refine W_cF (t := (decide (count < 0))) rfl b₁ ?_
      refine W_sk ?_
      have hp := Option.some.inj hp; subst hp
      exact (And.intro rfl (And.intro (rfl) (And.intro (rfl) (hO.pick [] rfl (by decide)))))
  intro e₁ q₁ k₁ hJ₁
  obtain ⟨rfl, q₁_0, q₁_1, hO₁⟩ := hJ₁
  refine then_n ?_
  refine W_sq ?_
  refine W_rg ?_
  refine WO_v (a_mv (v := v_x) q₁_0) ?_
  refine WO_v (a_len (hO₁.rd0 s_x.rd : Sl e_T_api_Cell k₁ v_x x) rfl) ?_
  obtain ⟨c₁, hp⟩ := ck_some hp
  refine WO_v (a_conv (a := (x.length : Int)) rfl c₁) ?_
  refine WO_v (a_mv (v := .i .i64 count) q₁_1) ?_
  obtain ⟨c₂, hp⟩ := ck_some hp
  refine WO_v (a_conv (a := count) rfl c₂) ?_
  obtain ⟨⟨x1, x2⟩, hx₁, hp⟩ := bd_some hp
  obtain ⟨u₁, k₂, ca₁, rfl, hW₁⟩ := p_bits_Mul.ok (h := k₁)   hx₁
  refine WO_c (id := 89) (caps := []) rfl (mp_cons (v := .i .u64 (x.length : Int)) rfl (mp_cons (v := .i .u64 count) rfl mp_nil)) ca₁ ?_
  have hO₂ : Own B h k₂ [] := hO₁.call hW₁ rfl
  refine WO_v (a_mv (v := .tu [.i .u64 x1, .i .u64 x2]) rfl) ?_
  refine WO_v (a_ext (vs := [.i .u64 x1, .i .u64 x2]) (v := .i .u64 x1) rfl rfl) ?_
  refine WO_v (a_ext (vs := [.i .u64 x1, .i .u64 x2]) (v := .i .u64 x2) rfl rfl) ?_
  refine WO_v (a_mv (v := .i .u64 x1) rfl) ?_
  refine WO_v (a_mv (v := .i .u64 x2) rfl) ?_
  refine WO_end ?_
  refine then_n ?_
  refine W_sq ?_
  refine W_sq ?_
  refine W_rg ?_
  refine WO_v (a_mv (v := .i .u64 x1) rfl) ?_
  refine WO_v (a_gtr (a := x1) (b := 0) rfl rfl) ?_
  refine WO_v (a_mv (v := .b (decide (0 < x1))) rfl) ?_
  refine WO_cut 3 (fun fr' k' => k₂ = k' ∧ fr' 26 = .b ((decide (0 < x1)) || (decide (9223372036854775807 < x2))) ∧ fr' 0 = v_x ∧ fr' 6 = .i .u64 x2) ?_ ?_
  · rcases bc (decide (0 < x1)) with b₂ | b₂
    · skip
      refine WO_off rfl b₂ ?_
      refine WO_off rfl b₂ ?_
      refine WO_v (a_pickT (t := (decide (0 < x1))) (v := .b ((decide (0 < x1)) || (decide (9223372036854775807 < x2)))) rfl b₂ (Eq.trans (b := V.b true) rfl (or_off b₂))) ?_
      refine WO_end ?_
      exact ⟨rfl, rfl, q₁_0, rfl⟩
    · skip
      refine WO_on rfl b₂ ?_
      refine WO_v (a_mv (v := .i .u64 x2) rfl) ?_
      refine WO_on rfl b₂ ?_
      refine WO_v (a_gtr (a := x2) (b := 9223372036854775807) rfl rfl) ?_
      refine WO_v (a_pickF (t := (decide (0 < x1))) (v := .b ((decide (0 < x1)) || (decide (9223372036854775807 < x2)))) rfl b₂ (Eq.trans (b := V.b (decide (9223372036854775807 < x2))) rfl (or_on b₂))) ?_
      refine WO_end ?_
      exact ⟨rfl, rfl, q₁_0, rfl⟩
  rintro frg₁ _ ⟨rfl, g₁_26, g₁_0, g₁_6⟩
  refine WO_end ?_
  refine then_n ?_
  obtain ⟨o₂, ho₂, hp⟩ := bd_some hp
  refine W.mono (Q := fun e fr k => match (generalizing := false) o₂ with
      | _ => e = .normal ∧ fr 0 = v_x ∧ fr 6 = .i .u64 x2 ∧ Own B h k []) ?_ ?_
  · clear hp; have hp := ho₂; clear ho₂
    rcases if_some hp with ⟨b₃, hp⟩ | ⟨b₃, hp⟩
    · refine W_cT (t := ((decide (0 < x1)) || (decide (9223372036854775807 < x2)))) g₁_26 b₃ ?_
      exact nomatch hp
    · refine W_cF (t := ((decide (0 < x1)) || (decide (9223372036854775807 < x2)))) g₁_26 b₃ ?_
      refine W_sk ?_
      have hp := Option.some.inj hp; subst hp
      exact (And.intro rfl (And.intro (g₁_0) (And.intro (g₁_6) (hO₂.pick [] rfl (by decide)))))
  intro e₂ q₂ k₃ hJ₂
  obtain ⟨rfl, q₂_0, q₂_6, hO₃⟩ := hJ₂
  refine then_n ?_
  refine W_sq ?_
  refine W_rg ?_
  refine WO_v (a_mv (v := .i .u64 x2) q₂_6) ?_
  obtain ⟨c₃, hp⟩ := ck_some hp
  refine WO_v (a_conv (a := x2) rfl c₃) ?_
  obtain ⟨c₄, hp⟩ := ck_some hp
  refine WO_x (hO₃.mks (E := e_T_api_Cell) (y := (⟨⟨0, 0, 0, 0⟩, ⟨0, 0, 0, 0⟩⟩ : T_api_Cell)) (bytes := 64) (z := x2) hO₃.fr rfl rfl rfl c₄ (by decide)) ?_
  rintro v₂ k₄ ⟨r₁, f₁, hW⟩
  have hO₄ : Own B h k₄ [eSl e_T_api_Cell v₂ (List.replicate (x2 : Int).toNat (⟨⟨0, 0, 0, 0⟩, ⟨0, 0, 0, 0⟩⟩ : T_api_Cell))] := hW
  refine WO_v (a_mv (v := v₂) rfl) ?_
  refine WO_end ?_
  refine then_n ?_
  refine W_sq ?_
  refine W_rg ?_
  refine WO_v (a_mv (v := v₂) rfl) ?_
  refine WO_v (a_mv (v := v_x) q₂_0) ?_
  refine WO_x (hO₄.cpy (E := e_T_api_Cell) 0 rfl (hO₄.rd0 s_x.rd : Sl e_T_api_Cell k₄ v_x x) rfl rfl (fun _ => rfl)) ?_
  rintro _ k₅ ⟨rfl, f₂, hW⟩
  have hO₅ : Own B h k₅ [eSl e_T_api_Cell v₂ (x.take (List.replicate (x2 : Int).toNat (⟨⟨0, 0, 0, 0⟩, ⟨0, 0, 0, 0⟩⟩ : T_api_Cell)).length ++ (List.replicate (x2 : Int).toNat (⟨⟨0, 0, 0, 0⟩, ⟨0, 0, 0, 0⟩⟩ : T_api_Cell)).drop x.length)] := hW
  refine WO_v (a_mv (v := .i .i64 ((min x.length (List.replicate (x2 : Int).toNat (⟨⟨0, 0, 0, 0⟩, ⟨0, 0, 0, 0⟩⟩ : T_api_Cell)).length : Nat) : Int)) rfl) ?_
  refine WO_end ?_
  refine then_n ?_
  refine W_sq ?_
  refine W_bl ?_
  obtain ⟨o₃, ho₃, hp⟩ := bd_some hp
  refine W.mono (Q := fun e fr k => match (generalizing := false) o₃ with
      | newslice1 => e = (.exit 0) ∧ fr 7 = v₂ ∧ Own B h k [eSl e_T_api_Cell v₂ newslice1]) ?_ ?_
  · clear hp
    refine W_loopF (fun st fr k => match st with | (newslice, n) => fr 7 = v₂ ∧ fr 8 = .i .i64 n ∧ Own B h k [eSl e_T_api_Cell v₂ newslice]) ho₃ (s := (x.take (List.replicate (x2 : Int).toNat (⟨⟨0, 0, 0, 0⟩, ⟨0, 0, 0, 0⟩⟩ : T_api_Cell)).length ++ (List.replicate (x2 : Int).toNat (⟨⟨0, 0, 0, 0⟩, ⟨0, 0, 0, 0⟩⟩ : T_api_Cell)).drop x.length, ((min x.length (List.replicate (x2 : Int).toNat (⟨⟨0, 0, 0, 0⟩, ⟨0, 0, 0, 0⟩⟩ : T_api_Cell)).length : Nat) : Int))) (And.intro (rfl) (And.intro (rfl) (hO₅.pick [0] rfl (by decide)))) ?_
    rintro ⟨newslice, n⟩ q₄ k₇ ⟨q₄_7, q₄_8, hO₇⟩ o₄ hp
    dsimp only [p_slices_Repeat_api_Cell.s0] at hp
    refine W_sq ?_
    refine W_sq ?_
    refine W_rg ?_
    refine WO_v (a_mv (v := .i .i64 n) q₄_8) ?_
    refine WO_v (a_mv (v := v₂) q₄_7) ?_
    refine WO_v (a_len (hO₇.sl 0 rfl : Sl e_T_api_Cell k₇ v₂ newslice) rfl) ?_
    refine WO_v (a_lss (a := n) (b := (newslice.length : Int)) rfl rfl) ?_
    refine WO_end ?_
    refine then_n ?_
    rcases if_some hp with ⟨b₄, hp⟩ | ⟨b₄, hp⟩
    · refine W_cT (t := (decide (n < (newslice.length : Int)))) rfl b₄ ?_
      refine W_sk ?_
      refine then_n ?_
      refine W_bl ?_
      refine W_dr ?_
      have hW := hO₇.bump 10
      have fr₁ := Fresh.start k₇ 10
      have nb₁ : ∀ {i : Nat}, h.n ≤ k₇.n + i := Nat.le_trans hO₇.n (Nat.le_add_right _ _)
      have hO₈ : Own B h (k₇.bump 10) [eSl e_T_api_Cell v₂ newslice] := hW
      refine WD_v (a_mv (v := .i .i64 n) q₄_8) ?_
      refine WD_v (a_mv (v := v₂) q₄_7) ?_
      refine WD_v (a_mv (v := .i .i64 n) q₄_8) ?_
      obtain ⟨c₅, hp⟩ := ck_some hp
      refine WD_v (a_slcF (E := e_T_api_Cell) (z := n) (hO₈.sl 0 rfl : Sl e_T_api_Cell (k₇.bump 10) v₂ newslice) rfl rfl c₅) ?_
      refine WD_v (a_mv (v := v₂) q₄_7) ?_
      refine WD_v (a_mv (v := .i .i64 n) q₄_8) ?_
      refine WD_v (a_slcU (E := e_T_api_Cell) (z := n) (hO₈.sl 0 rfl : Sl e_T_api_Cell (k₇.bump 10) v₂ newslice) rfl rfl c₅) ?_
      refine WD_x (hO₈.cpyF (E := e_T_api_Cell) (z := n) 0 rfl c₅ (Sl.cutU (hO₈.sl 0 rfl : Sl e_T_api_Cell (k₇.bump 10) v₂ newslice) c₅ : Sl e_T_api_Cell (k₇.bump 10) (V.cut v₂ 0 (n : Int).toNat) (newslice.take (n : Int).toNat)) rfl rfl (fun _ => rfl)) ?_
      rintro _ k₉ z₁ ⟨rfl, f₃, hW⟩
      have fr₂ := fr₁.kept f₃ (by decide)
      have hO₉ : Own B h k₉ [eSl e_T_api_Cell v₂ (newslice.take (n : Int).toNat ++ ((newslice.take (n : Int).toNat).take (newslice.drop (n : Int).toNat).length ++ (newslice.drop (n : Int).toNat).drop (newslice.take (n : Int).toNat).length))] := hW
      obtain ⟨c₆, hp⟩ := ck_some hp
      refine WD_v (a_add (a := n) (b := ((min (newslice.take (n : Int).toNat).length (newslice.drop (n : Int).toNat).length : Nat) : Int)) rfl rfl c₆) ?_
      refine WD_v (a_mv (v := .i .i64 (n + ((min (newslice.take (n : Int).toNat).length (newslice.drop (n : Int).toNat).length : Nat) : Int))) rfl) ?_
      refine WD_end ?_
      refine And.intro ?_ ?_
      · intro q hq
        cases hq
      refine blk_n ?_
      have hp := Option.some.inj hp; subst hp
      exact (Or.inl (Exists.intro (newslice.take (n : Int).toNat ++ ((newslice.take (n : Int).toNat).take (newslice.drop (n : Int).toNat).length ++ (newslice.drop (n : Int).toNat).drop (newslice.take (n : Int).toNat).length), n + ((min (newslice.take (n : Int).toNat).length (newslice.drop (n : Int).toNat).length : Nat) : Int)) (And.intro rfl (And.intro rfl (And.intro (q₄_7) (And.intro (rfl) (hO₉.pick [0] rfl (by decide))))))))
    · refine W_cF (t := (decide (n < (newslice.length : Int)))) rfl b₄ ?_
      refine W_ex ?_
      refine then_e ?_
      have hp := Option.some.inj hp; subst hp
      refine (Or.inr (Exists.intro newslice (And.intro rfl (And.intro (fun h => nomatch h) (fun he => ?_)))))
      subst he; exact (And.intro rfl (And.intro (q₄_7) (hO₇.pick [0] rfl (by decide))))
  intro e₃ q₃ k₆ hJ₃
  obtain ⟨newslice1, rfl⟩ : ∃ x, x = o₃ := ⟨_, rfl⟩
  obtain ⟨rfl, q₃_7, hO₆⟩ := hJ₃
  refine blk_i ?_
  refine then_n ?_
  refine W_sq ?_
  refine W_rg ?_
  refine WO_v (a_mv (v := v₂) q₃_7) ?_
  refine WO_v (a_mv (v := v₂) rfl) ?_
  refine WO_end ?_
  refine then_n ?_
  refine W_rt ?_
  refine Ret_r (rs_t (n := 4) (v := v₂) rfl rs_nil) ?_
  have hp := Option.some.inj hp; subst hp
  exact (Exists.intro v₂ (And.intro rfl (hO₆.pick [0] rfl (by decide))))

theorem p_grid_New.ok {h : Hp} {n : Int}   {r : (Option T_grid_Grid) × Int} (hp : p_grid_New n = some r) :
    ∃ u k', Is G 45 [.i .i64 n] h u k' ∧ ∃ (r₁ : Nat), ∃ (v₁ : V), V.tu [(if (r.1).isSome = true then V.p r₁ 0 else V.pn), .i .i64 r.2] = u ∧ Own (fun r => r < h.n) h k' [eIf (r.1).isSome (eBox r₁ [v₁]), eIf (r.1).isSome (eSl e_T_api_Cell v₁ ((r.1.getD default).cells))] := by
  refine WC.is (WC_of G_F_grid_New ?_)
  unfold p_grid_New at hp
  let B : Nat → Prop := (fun r => r < h.n)
  have hO : Own B h h [] := Own.start0 h
  refine W_sq ?_
  refine W_rg ?_
  refine WO_v (a_mv (v := .pn) rfl) ?_
  refine WO_v (a_mv (v := .i .i64 0) rfl) ?_
  refine WO_end ?_
  refine then_n ?_
  refine W_sq ?_
  refine W_bl ?_
  refine W_sq ?_
  refine W_rg ?_
  refine WO_v (a_mv (v := .i .i64 n) rfl) ?_
  refine WO_v (a_lss (a := n) (b := 0) rfl rfl) ?_
  refine WO_v (a_mv (v := .b (decide (n < 0))) rfl) ?_
  refine WO_end ?_
  refine then_n ?_
  rcases if_some hp with ⟨b₁, hp⟩ | ⟨b₁, hp⟩
  · refine W_cT (t := (decide (n < 0))) rfl b₁ ?_
    refine W_sq ?_
    refine W_rg ?_
    refine WO_v (a_mv (v := .pn) rfl) ?_
    refine WO_v (a_mv (v := .i .i64 2) rfl) ?_
    refine WO_end ?_
    refine then_n ?_
    refine W_rt ?_
    refine blk_r ?_
    refine then_r ?_
    refine Ret_r (rs_t (n := 2) (v := .pn) rfl (rs_t (n := 3) (v := .i .i64 2) rfl rs_nil)) ?_
    have hp := Option.some.inj hp; subst hp
    exact (Exists.intro 0 (Exists.intro V.sn (And.intro rfl (hO.pick [900, 901] rfl (by decide)))))
  · refine W_cF (t := (decide (n < 0))) rfl b₁ ?_
    refine W_sq ?_
    refine W_rg ?_
    refine WO_v (a_mv (v := .i .i64 n) rfl) ?_
    refine WO_v (a_gtr (a := n) (b := 4096) rfl rfl) ?_
    refine WO_v (a_mv (v := .b (decide (4096 < n))) rfl) ?_
    refine WO_end ?_
    refine then_n ?_
    rcases if_some hp with ⟨b₂, hp⟩ | ⟨b₂, hp⟩
    · refine W_cT (t := (decide (4096 < n))) rfl b₂ ?_
      refine W_sq ?_
      refine W_rg ?_
      refine WO_v (a_mv (v := .pn) rfl) ?_
      refine WO_v (a_mv (v := .i .i64 6) rfl) ?_
      refine WO_end ?_
      refine then_n ?_
      refine W_rt ?_
      refine blk_r ?_
      refine then_r ?_
      refine Ret_r (rs_t (n := 2) (v := .pn) rfl (rs_t (n := 3) (v := .i .i64 6) rfl rs_nil)) ?_
      have hp := Option.some.inj hp; subst hp
      exact (Exists.intro 0 (Exists.intro V.sn (And.intro rfl (hO.pick [900, 901] rfl (by decide)))))
    · refine W_cF (t := (decide (4096 < n))) rfl b₂ ?_
      refine W_sk ?_
      refine blk_n ?_
      refine then_n ?_
      refine W_sq ?_
      refine W_rg ?_
      obtain ⟨x, hx₁, hp⟩ := bd_some hp
      obtain ⟨u₁, k₁, ca₁, rfl, hW₁⟩ := p_grid_empty.ok (h := h)   hx₁
      refine WO_c (id := 74) (caps := []) rfl mp_nil ca₁ ?_
      have hO₁ : Own B h k₁ [] := hO.call hW₁ rfl
      refine WO_x (hO₁.bsl (E := e_T_api_Cell) (l := [x]) hO₁.fr (by rw [(ev_cons (v := .ag (e_T_api_Cell.c x)) rfl ev_nil)]; rfl) rfl) ?_
      rintro v₄ k₂ ⟨r₄, f₁, hW⟩
      have hO₂ : Own B h k₂ [eSl e_T_api_Cell v₄ [x]] := hW
      refine WO_v (a_mv (v := .i .i64 n) rfl) ?_
      obtain ⟨x1, hx₂, hp⟩ := bd_some hp
      obtain ⟨u₂, k₃, ca₂, v₅, rfl, hW₂⟩ := p_slices_Repeat_api_Cell.ok (h := k₂)  (hO₂.sl 0 rfl : Sl e_T_api_Cell k₂ v₄ [x]) hx₂
      refine WO_c (id := 73) (caps := []) rfl (mp_cons (v := v₄) rfl (mp_cons (v := .i .i64 n) rfl mp_nil)) ca₂ ?_
      have hO₃ : Own B h k₃ [eSl e_T_api_Cell v₄ [x], eSl e_T_api_Cell v₅ x1] := hO₂.call hW₂ rfl
      refine WO_v (a_build (cs := [v₅]) (by rw [(ev_cons (v := v₅) rfl ev_nil)]; simp [fill, over, cells_i, cells_b, cells_f, cells_p, cells_a, cells_n, (hO₃.sl 1 rfl : Sl e_T_api_Cell k₃ v₅ x1).cells])) ?_
      refine WO_x (hO₃.boxd (v := .ag [v₅]) (cs := [v₅]) hO₃.fr rfl rfl) ?_
      rintro _ k₄ ⟨r₅, rfl, n₁, f₂, hW⟩
      have hO₄ : Own B h k₄ [eSl e_T_api_Cell v₄ [x], eSl e_T_api_Cell v₅ x1, eBox r₅ [v₅]] := hW
      refine WO_v (a_mv (v := .p r₅ 0) rfl) ?_
      refine WO_v (a_mv (v := .i .i64 0) rfl) ?_
      refine WO_end ?_
      refine then_n ?_
      refine W_rt ?_
      refine Ret_r (rs_t (n := 2) (v := .p r₅ 0) rfl (rs_t (n := 3) (v := .i .i64 0) rfl rs_nil)) ?_
      have hp := Option.some.inj hp; subst hp
      exact (Exists.intro r₅ (Exists.intro v₅ (And.intro rfl (hO₄.pick [2, 1] rfl (by decide)))))

theorem p_grid_Grid_Len.ok {h : Hp} {g : T_grid_Grid} {r_g : Nat} {v_g_cells : V} {w_g : Bool} (b_g : h.m r_g = some (.cells w_g [v_g_cells])) (s_g_cells : Sl e_T_api_Cell h v_g_cells g.cells) {r : Int} (hp : p_grid_Grid_Len g = some r) :
    ∃ u k', Is G 55 [.p r_g 0] h u k' ∧ V.i .i64 r = u ∧ Own (fun r => r < h.n) h k' [] := by
  refine WC.is (WC_of G_F_grid_Grid_Len ?_)
  unfold p_grid_Grid_Len at hp
  let B : Nat → Prop := (fun r => r < h.n)
  have hO : Own B h h [] := Own.start0 h
  refine W_sq ?_
  refine W_rg ?_
  refine WO_v (a_mv (v := .i .i64 0) rfl) ?_
  refine WO_end ?_
  refine then_n ?_
  refine W_sq ?_
  refine W_sq ?_
  refine W_rg ?_
  refine WO_v (a_mv (v := .p r_g 0) rfl) ?_
  refine WO_v (a_eqP rfl rfl) ?_
  refine WO_end ?_
  refine then_n ?_
  refine W_cF (t := false) rfl rfl ?_
  refine W_sk ?_
  refine then_n ?_
  refine W_sq ?_
  refine W_rg ?_
  refine WO_v (a_mv (v := .p r_g 0) rfl) ?_
  refine WO_v (a_nilp (r := r_g) (o := 0) rfl) ?_
  refine WO_v (a_fa (r := r_g) (o := 0) (o' := 0) rfl rfl) ?_
  refine WO_v (a_ldb (cs := [v_g_cells]) (v := v_g_cells) (hO.rdB0 (RdB.of b_g)).choose_spec rfl rfl) ?_
  refine WO_v (a_len (hO.rd0 s_g_cells.rd : Sl e_T_api_Cell h v_g_cells g.cells) rfl) ?_
  refine WO_v (a_mv (v := .i .i64 (g.cells.length : Int)) rfl) ?_
  refine WO_end ?_
  refine then_n ?_
  refine W_rt ?_
  refine Ret_r (rs_t (n := 2) (v := .i .i64 (g.cells.length : Int)) rfl rs_nil) ?_
  have hp := Option.some.inj hp; subst hp
  exact (And.intro rfl (hO.pick [] rfl (by decide)))

theorem p_grid_Grid_is.ok {h : Hp} {g : T_grid_Grid} {v : Int} {d : Int} {r_g : Nat} {v_g_cells : V} {w_g : Bool} (b_g : h.m r_g = some (.cells w_g [v_g_cells])) (s_g_cells : Sl e_T_api_Cell h v_g_cells g.cells) {r : Bool} (hp : p_grid_Grid_is g v d = some r) :
    ∃ u k', Is G 75 [.p r_g 0, .i .i64 v, .i .i64 d] h u k' ∧ V.b r = u ∧ Own (fun r => r < h.n) h k' [] := by
  refine WC.is (WC_of G_F_grid_Grid_is ?_)
  unfold p_grid_Grid_is at hp
  let B : Nat → Prop := (fun r => r < h.n)
  have hO : Own B h h [] := Own.start0 h
  refine W_sq ?_
  refine W_rg ?_
  refine WO_v (a_mv (v := .b false) rfl) ?_
  refine WO_end ?_
  refine then_n ?_
  refine W_sq ?_
  refine W_rg ?_
  refine WO_v (a_mv (v := .i .i64 v) rfl) ?_
  refine WO_v (a_geq (a := v) (b := 0) rfl rfl) ?_
  refine WO_v (a_mv (v := .b (decide (0 ≤ v))) rfl) ?_
  obtain ⟨t, hv₁, hp⟩ := bd_some hp
  refine WO_cut 5 (fun fr' k' => Own B h k' [] ∧ fr' 14 = .b t ∧ fr' 2 = .i .i64 d) ?_ ?_
  · clear hp; rcases if_some hv₁ with ⟨b₁, hp⟩ | ⟨b₁, hp⟩
    · skip
      refine WO_on rfl b₁ ?_
      refine WO_v (a_mv (v := .i .i64 v) rfl) ?_
      refine WO_on rfl b₁ ?_
      refine WO_v (a_mv (v := .p r_g 0) rfl) ?_
      refine WO_on rfl b₁ ?_
      obtain ⟨x, hx₁, hp⟩ := bd_some hp
      obtain ⟨u₁, k₁, ca₁, rfl, hW₁⟩ := p_grid_Grid_Len.ok (h := h)  (hO.rdB0 (RdB.of b_g)).choose_spec (hO.rd0 s_g_cells.rd : Sl e_T_api_Cell h v_g_cells g.cells) hx₁
      refine WO_c (id := 55) (caps := []) rfl (mp_cons (v := .p r_g 0) rfl mp_nil) ca₁ ?_
      have hO₁ : Own B h k₁ [] := hO.call hW₁ rfl
      refine WO_on rfl b₁ ?_
      refine WO_v (a_lss (a := v) (b := x) rfl rfl) ?_
      refine WO_v (a_pickT (t := (decide (0 ≤ v))) (v := .b t) rfl b₁ (Eq.trans (b := V.b (decide (v < x))) rfl (congrArg V.b (Option.some.inj hp)))) ?_
      refine WO_end ?_
      exact ⟨hO₁.pick [] rfl (by decide), rfl, rfl⟩
    · skip
      refine WO_off rfl b₁ ?_
      refine WO_off rfl b₁ ?_
      refine WO_off rfl b₁ ?_
      refine WO_off rfl b₁ ?_
      refine WO_v (a_pickF (t := (decide (0 ≤ v))) (v := .b t) rfl b₁ (Eq.trans (b := V.b false) rfl (congrArg V.b (Option.some.inj hp)))) ?_
      refine WO_end ?_
      exact ⟨hO.pick [] rfl (by decide), rfl, rfl⟩
  rintro frg₁ k₂ ⟨hO₂, g₁_14, g₁_2⟩
  refine WO_v (a_mv (v := .b t) g₁_14) ?_
  obtain ⟨t1, hv₂, hp⟩ := bd_some hp
  refine WO_cut 3 (fun fr' k' => Own B h k' [] ∧ fr' 18 = .b t1) ?_ ?_
  · clear hp; rcases if_some hv₂ with ⟨b₂, hp⟩ | ⟨b₂, hp⟩
    · skip
      refine WO_on rfl b₂ ?_
      refine WO_v (a_mv (v := .i .i64 d) g₁_2) ?_
      refine WO_on rfl b₂ ?_
      obtain ⟨x1, hx₂, hp⟩ := bd_some hp
      obtain ⟨u₂, k₃, ca₂, rfl, hW₂⟩ := p_compass_Good.ok (h := k₂)   hx₂
      refine WO_c (id := 90) (caps := []) rfl (mp_cons (v := .i .i64 d) rfl mp_nil) ca₂ ?_
      have hO₃ : Own B h k₃ [] := hO₂.call hW₂ rfl
      refine WO_v (a_pickT (t := t) (v := .b t1) rfl b₂ (Eq.trans (b := V.b x1) rfl (congrArg V.b (Option.some.inj hp)))) ?_
      refine WO_end ?_
      exact ⟨hO₃.pick [] rfl (by decide), rfl⟩
    · skip
      refine WO_off rfl b₂ ?_
      refine WO_off rfl b₂ ?_
      refine WO_v (a_pickF (t := t) (v := .b t1) rfl b₂ (Eq.trans (b := V.b false) rfl (congrArg V.b (Option.some.inj hp)))) ?_
      refine WO_end ?_
      exact ⟨hO₂.pick [] rfl (by decide), rfl⟩
  rintro frg₂ k₄ ⟨hO₄, g₂_18⟩
  refine WO_v (a_mv (v := .b t1) g₂_18) ?_
  refine WO_end ?_
  refine then_n ?_
  refine W_rt ?_
  refine Ret_r (rs_t (n := 6) (v := .b t1) rfl rs_nil) ?_
  have hp := Option.some.inj hp; subst hp
  exact (And.intro rfl (hO₄.pick [] rfl (by decide)))

theorem p_grid_Grid_lay.ok {h : Hp} {g : T_grid_Grid} {v : Int} {d : Int} {w : Int} {owner : Int} {r_g : Nat} {v_g_cells : V} (H : Own (Bm h [eBox r_g [v_g_cells], eSl e_T_api_Cell v_g_cells g.cells]) h h [eBox r_g [v_g_cells], eSl e_T_api_Cell v_g_cells g.cells]) {r : T_grid_Grid} (hp : p_grid_Grid_lay g v d w owner = some r) :
    ∃ u k', Is G 76 [.p r_g 0, .i .i64 v, .i .i64 d, .i .i64 w, .i .i64 owner] h u k' ∧ ∃ (v₁ : V), V.tu [] = u ∧ Own (Bm h [eBox r_g [v_g_cells], eSl e_T_api_Cell v_g_cells g.cells]) h k' [eBox r_g [v₁], eSl e_T_api_Cell v₁ r.cells] := by
  refine WC.is (WC_of G_F_grid_Grid_lay ?_)
  unfold p_grid_Grid_lay at hp
  let B : Nat → Prop := (Bm h [eBox r_g [v_g_cells], eSl e_T_api_Cell v_g_cells g.cells])
  have hO : Own B h h [eBox r_g [v_g_cells], eSl e_T_api_Cell v_g_cells g.cells] := H
  refine W_sq ?_
  refine W_rg ?_
  refine WO_v (a_mv (v := .i .i64 d) rfl) ?_
  obtain ⟨x, hx₁, hp⟩ := bd_some hp
  obtain ⟨u₁, k₁, ca₁, rfl, hW₁⟩ := p_compass_Left.ok (h := h)   hx₁
  refine WO_c (id := 77) (caps := []) rfl (mp_cons (v := .i .i64 d) rfl (mp_cons (v := .i .i64 2) rfl mp_nil)) ca₁ ?_
  have hO₁ : Own B h k₁ [eBox r_g [v_g_cells], eSl e_T_api_Cell v_g_cells g.cells] := hO.call hW₁ rfl
  refine WO_v (a_mv (v := .i .i64 x) rfl) ?_
  refine WO_end ?_
  refine then_n ?_
  refine W_sq ?_
  refine W_dr ?_
  have hW := hO₁.bump 22
  have fr₁ := Fresh.start k₁ 22
  have nb₁ : ∀ {i : Nat}, h.n ≤ k₁.n + i := Nat.le_trans hO₁.n (Nat.le_add_right _ _)
  have hO₂ : Own B h (k₁.bump 22) [eBox r_g [v_g_cells], eSl e_T_api_Cell v_g_cells g.cells] := hW
  refine WD_v (a_mv (v := .p r_g 0) rfl) ?_
  refine WD_v (a_nilp (r := r_g) (o := 0) rfl) ?_
  refine WD_v (a_fa (r := r_g) (o := 0) (o' := 0) rfl rfl) ?_
  refine WD_v (a_ldb (cs := [v_g_cells]) (v := v_g_cells) (hO₂.box 0 rfl) rfl rfl) ?_
  refine WD_v (a_mv (v := .i .i64 v) rfl) ?_
  refine WD_v (a_mv (v := .i .i64 d) rfl) ?_
  refine WD_v (a_mv (v := .p r_g 0) rfl) ?_
  refine WD_v (a_nilp (r := r_g) (o := 0) rfl) ?_
  refine WD_v (a_fa (r := r_g) (o := 0) (o' := 0) rfl rfl) ?_
  refine WD_v (a_ldb (cs := [v_g_cells]) (v := v_g_cells) (hO₂.box 0 rfl) rfl rfl) ?_
  refine WD_v (a_mv (v := .i .i64 v) rfl) ?_
  refine WD_v (a_mv (v := .i .i64 d) rfl) ?_
  refine WD_v (a_mv (v := .i .i64 w) rfl) ?_
  refine WD_v (a_mv (v := .i .i64 owner) rfl) ?_
  obtain ⟨c₁, hp⟩ := ck_some hp
  refine WD_v (a_ixa (E := e_T_api_Cell) (z := v) (hO₂.sl 1 rfl : Sl e_T_api_Cell (k₁.bump 22) v_g_cells g.cells) rfl rfl c₁) ?_
  refine WD_v (a_faE (off' := 0) (off2 := 0) (hO₂.sl 1 rfl : Sl e_T_api_Cell (k₁.bump 22) v_g_cells g.cells) (toNat_lt c₁) rfl rfl) ?_
  obtain ⟨c₂, hp⟩ := ck_some hp
  refine WD_v (a_ixaaE (off := 0) (off2 := (0 + (d : Int).toNat * 1)) (z := d) (hO₂.sl 1 rfl : Sl e_T_api_Cell (k₁.bump 22) v_g_cells g.cells) (toNat_lt c₁) rfl rfl c₂ rfl) ?_
  refine WD_x (hO₂.ste (E := e_T_api_Cell) (y := ({ gi g.cells (v : Int).toNat with Next := ((gi g.cells (v : Int).toNat).Next).set d w })) (ws := [.i .i64 w]) 1 rfl rfl (toNat_lt c₁) rfl rfl ⟨rfl, (by have := c₂; exact (show 0 + (d : Int).toNat * 1 + 1 ≤ 8 by omega)), rfl⟩ (st_T_api_Cell_Next c₂)) ?_
  rintro _ k₃ z₁ ⟨rfl, f₁, m₁, hW⟩
  have fr₂ := fr₁.kept f₁ (by decide)
  have hO₃ : Own B h k₃ [eBox r_g [v_g_cells], eSl e_T_api_Cell v_g_cells (g.cells.set (v : Int).toNat ({ gi g.cells (v : Int).toNat with Next := ((gi g.cells (v : Int).toNat).Next).set d w }))] := hW
  obtain ⟨c₃, hp⟩ := ck_some hp
  refine WD_v (a_ixa (E := e_T_api_Cell) (z := v) (hO₃.sl 1 rfl : Sl e_T_api_Cell k₃ v_g_cells (g.cells.set (v : Int).toNat ({ gi g.cells (v : Int).toNat with Next := ((gi g.cells (v : Int).toNat).Next).set d w }))) rfl rfl c₃) ?_
  refine WD_v (a_faE (off' := 0) (off2 := 4) (hO₃.sl 1 rfl : Sl e_T_api_Cell k₃ v_g_cells (g.cells.set (v : Int).toNat ({ gi g.cells (v : Int).toNat with Next := ((gi g.cells (v : Int).toNat).Next).set d w }))) (toNat_lt c₃) rfl rfl) ?_
  refine WD_v (a_ixaaE (off := 4) (off2 := (4 + (d : Int).toNat * 1)) (z := d) (hO₃.sl 1 rfl : Sl e_T_api_Cell k₃ v_g_cells (g.cells.set (v : Int).toNat ({ gi g.cells (v : Int).toNat with Next := ((gi g.cells (v : Int).toNat).Next).set d w }))) (toNat_lt c₃) rfl rfl c₂ rfl) ?_
  refine WD_x (hO₃.ste (E := e_T_api_Cell) (y := ({ gi (g.cells.set (v : Int).toNat ({ gi g.cells (v : Int).toNat with Next := ((gi g.cells (v : Int).toNat).Next).set d w })) (v : Int).toNat with Owner := ((gi (g.cells.set (v : Int).toNat ({ gi g.cells (v : Int).toNat with Next := ((gi g.cells (v : Int).toNat).Next).set d w })) (v : Int).toNat).Owner).set d owner })) (ws := [.i .i64 owner]) 1 rfl rfl (toNat_lt c₃) rfl rfl ⟨rfl, (by have := c₂; exact (show 4 + (d : Int).toNat * 1 + 1 ≤ 8 by omega)), rfl⟩ (st_T_api_Cell_Owner c₂)) ?_
  rintro _ k₄ z₂ ⟨rfl, f₂, m₂, hW⟩
  have fr₃ := fr₂.kept f₂ (by decide)
  have hO₄ : Own B h k₄ [eBox r_g [v_g_cells], eSl e_T_api_Cell v_g_cells ((g.cells.set (v : Int).toNat ({ gi g.cells (v : Int).toNat with Next := ((gi g.cells (v : Int).toNat).Next).set d w })).set (v : Int).toNat ({ gi (g.cells.set (v : Int).toNat ({ gi g.cells (v : Int).toNat with Next := ((gi g.cells (v : Int).toNat).Next).set d w })) (v : Int).toNat with Owner := ((gi (g.cells.set (v : Int).toNat ({ gi g.cells (v : Int).toNat with Next := ((gi g.cells (v : Int).toNat).Next).set d w })) (v : Int).toNat).Owner).set d owner }))] := hW
  refine WD_end ?_
  refine And.intro ?_ ?_
  · intro q hq
    simp only [List.mem_cons, List.not_mem_nil, or_false] at hq
    rcases hq with rfl
    · refine ap_ll ?_ ?_
      · exact (fun h => nomatch h)
      · exact (fun h => nomatch h)
  refine then_n ?_
  refine W_dr ?_
  have hW := hO₄.bump 22
  have fr₄ := Fresh.start k₄ 22
  have nb₂ : ∀ {i : Nat}, h.n ≤ k₄.n + i := Nat.le_trans hO₄.n (Nat.le_add_right _ _)
  have hO₅ : Own B h (k₄.bump 22) [eBox r_g [v_g_cells], eSl e_T_api_Cell v_g_cells ((g.cells.set (v : Int).toNat ({ gi g.cells (v : Int).toNat with Next := ((gi g.cells (v : Int).toNat).Next).set d w })).set (v : Int).toNat ({ gi (g.cells.set (v : Int).toNat ({ gi g.cells (v : Int).toNat with Next := ((gi g.cells (v : Int).toNat).Next).set d w })) (v : Int).toNat with Owner := ((gi (g.cells.set (v : Int).toNat ({ gi g.cells (v : Int).toNat with Next := ((gi g.cells (v : Int).toNat).Next).set d w })) (v : Int).toNat).Owner).set d owner }))] := hW
  refine WD_v (a_mv (v := .p r_g 0) rfl) ?_
  refine WD_v (a_nilp (r := r_g) (o := 0) rfl) ?_
  refine WD_v (a_fa (r := r_g) (o := 0) (o' := 0) rfl rfl) ?_
  refine WD_v (a_ldb (cs := [v_g_cells]) (v := v_g_cells) (hO₅.box 0 rfl) rfl rfl) ?_
  refine WD_v (a_mv (v := .i .i64 w) rfl) ?_
  refine WD_v (a_mv (v := .i .i64 x) rfl) ?_
  refine WD_v (a_mv (v := .p r_g 0) rfl) ?_
  refine WD_v (a_nilp (r := r_g) (o := 0) rfl) ?_
  refine WD_v (a_fa (r := r_g) (o := 0) (o' := 0) rfl rfl) ?_
  refine WD_v (a_ldb (cs := [v_g_cells]) (v := v_g_cells) (hO₅.box 0 rfl) rfl rfl) ?_
  refine WD_v (a_mv (v := .i .i64 w) rfl) ?_
  refine WD_v (a_mv (v := .i .i64 x) rfl) ?_
  refine WD_v (a_mv (v := .i .i64 v) rfl) ?_
  refine WD_v (a_mv (v := .i .i64 owner) rfl) ?_
  obtain ⟨c₄, hp⟩ := ck_some hp
  refine WD_v (a_ixa (E := e_T_api_Cell) (z := w) (hO₅.sl 1 rfl : Sl e_T_api_Cell (k₄.bump 22) v_g_cells ((g.cells.set (v : Int).toNat ({ gi g.cells (v : Int).toNat with Next := ((gi g.cells (v : Int).toNat).Next).set d w })).set (v : Int).toNat ({ gi (g.cells.set (v : Int).toNat ({ gi g.cells (v : Int).toNat with Next := ((gi g.cells (v : Int).toNat).Next).set d w })) (v : Int).toNat with Owner := ((gi (g.cells.set (v : Int).toNat ({ gi g.cells (v : Int).toNat with Next := ((gi g.cells (v : Int).toNat).Next).set d w })) (v : Int).toNat).Owner).set d owner }))) rfl rfl c₄) ?_
  refine WD_v (a_faE (off' := 0) (off2 := 0) (hO₅.sl 1 rfl : Sl e_T_api_Cell (k₄.bump 22) v_g_cells ((g.cells.set (v : Int).toNat ({ gi g.cells (v : Int).toNat with Next := ((gi g.cells (v : Int).toNat).Next).set d w })).set (v : Int).toNat ({ gi (g.cells.set (v : Int).toNat ({ gi g.cells (v : Int).toNat with Next := ((gi g.cells (v : Int).toNat).Next).set d w })) (v : Int).toNat with Owner := ((gi (g.cells.set (v : Int).toNat ({ gi g.cells (v : Int).toNat with Next := ((gi g.cells (v : Int).toNat).Next).set d w })) (v : Int).toNat).Owner).set d owner }))) (toNat_lt c₄) rfl rfl) ?_
  obtain ⟨c₅, hp⟩ := ck_some hp
  refine WD_v (a_ixaaE (off := 0) (off2 := (0 + (x : Int).toNat * 1)) (z := x) (hO₅.sl 1 rfl : Sl e_T_api_Cell (k₄.bump 22) v_g_cells ((g.cells.set (v : Int).toNat ({ gi g.cells (v : Int).toNat with Next := ((gi g.cells (v : Int).toNat).Next).set d w })).set (v : Int).toNat ({ gi (g.cells.set (v : Int).toNat ({ gi g.cells (v : Int).toNat with Next := ((gi g.cells (v : Int).toNat).Next).set d w })) (v : Int).toNat with Owner := ((gi (g.cells.set (v : Int).toNat ({ gi g.cells (v : Int).toNat with Next := ((gi g.cells (v : Int).toNat).Next).set d w })) (v : Int).toNat).Owner).set d owner }))) (toNat_lt c₄) rfl rfl c₅ rfl) ?_
  refine WD_x (hO₅.ste (E := e_T_api_Cell) (y := ({ gi ((g.cells.set (v : Int).toNat ({ gi g.cells (v : Int).toNat with Next := ((gi g.cells (v : Int).toNat).Next).set d w })).set (v : Int).toNat ({ gi (g.cells.set (v : Int).toNat ({ gi g.cells (v : Int).toNat with Next := ((gi g.cells (v : Int).toNat).Next).set d w })) (v : Int).toNat with Owner := ((gi (g.cells.set (v : Int).toNat ({ gi g.cells (v : Int).toNat with Next := ((gi g.cells (v : Int).toNat).Next).set d w })) (v : Int).toNat).Owner).set d owner })) (w : Int).toNat with Next := ((gi ((g.cells.set (v : Int).toNat ({ gi g.cells (v : Int).toNat with Next := ((gi g.cells (v : Int).toNat).Next).set d w })).set (v : Int).toNat ({ gi (g.cells.set (v : Int).toNat ({ gi g.cells (v : Int).toNat with Next := ((gi g.cells (v : Int).toNat).Next).set d w })) (v : Int).toNat with Owner := ((gi (g.cells.set (v : Int).toNat ({ gi g.cells (v : Int).toNat with Next := ((gi g.cells (v : Int).toNat).Next).set d w })) (v : Int).toNat).Owner).set d owner })) (w : Int).toNat).Next).set x v })) (ws := [.i .i64 v]) 1 rfl rfl (toNat_lt c₄) rfl rfl ⟨rfl, (by have := c₅; exact (show 0 + (x : Int).toNat * 1 + 1 ≤ 8 by omega)), rfl⟩ (st_T_api_Cell_Next c₅)) ?_
  rintro _ k₆ z₃ ⟨rfl, f₃, m₃, hW⟩
  have fr₅ := fr₄.kept f₃ (by decide)
  have hO₆ : Own B h k₆ [eBox r_g [v_g_cells], eSl e_T_api_Cell v_g_cells (((g.cells.set (v : Int).toNat ({ gi g.cells (v : Int).toNat with Next := ((gi g.cells (v : Int).toNat).Next).set d w })).set (v : Int).toNat ({ gi (g.cells.set (v : Int).toNat ({ gi g.cells (v : Int).toNat with Next := ((gi g.cells (v : Int).toNat).Next).set d w })) (v : Int).toNat with Owner := ((gi (g.cells.set (v : Int).toNat ({ gi g.cells (v : Int).toNat with Next := ((gi g.cells (v : Int).toNat).Next).set d w })) (v : Int).toNat).Owner).set d owner })).set (w : Int).toNat ({ gi ((g.cells.set (v : Int).toNat ({ gi g.cells (v : Int).toNat with Next := ((gi g.cells (v : Int).toNat).Next).set d w })).set (v : Int).toNat ({ gi (g.cells.set (v : Int).toNat ({ gi g.cells (v : Int).toNat with Next := ((gi g.cells (v : Int).toNat).Next).set d w })) (v : Int).toNat with Owner := ((gi (g.cells.set (v : Int).toNat ({ gi g.cells (v : Int).toNat with Next := ((gi g.cells (v : Int).toNat).Next).set d w })) (v : Int).toNat).Owner).set d owner })) (w : Int).toNat with Next := ((gi ((g.cells.set (v : Int).toNat ({ gi g.cells (v : Int).toNat with Next := ((gi g.cells (v : Int).toNat).Next).set d w })).set (v : Int).toNat ({ gi (g.cells.set (v : Int).toNat ({ gi g.cells (v : Int).toNat with Next := ((gi g.cells (v : Int).toNat).Next).set d w })) (v : Int).toNat with Owner := ((gi (g.cells.set (v : Int).toNat ({ gi g.cells (v : Int).toNat with Next := ((gi g.cells (v : Int).toNat).Next).set d w })) (v : Int).toNat).Owner).set d owner })) (w : Int).toNat).Next).set x v }))] := hW
  obtain ⟨c₆, hp⟩ := ck_some hp
  refine WD_v (a_ixa (E := e_T_api_Cell) (z := w) (hO₆.sl 1 rfl : Sl e_T_api_Cell k₆ v_g_cells (((g.cells.set (v : Int).toNat ({ gi g.cells (v : Int).toNat with Next := ((gi g.cells (v : Int).toNat).Next).set d w })).set (v : Int).toNat ({ gi (g.cells.set (v : Int).toNat ({ gi g.cells (v : Int).toNat with Next := ((gi g.cells (v : Int).toNat).Next).set d w })) (v : Int).toNat with Owner := ((gi (g.cells.set (v : Int).toNat ({ gi g.cells (v : Int).toNat with Next := ((gi g.cells (v : Int).toNat).Next).set d w })) (v : Int).toNat).Owner).set d owner })).set (w : Int).toNat ({ gi ((g.cells.set (v : Int).toNat ({ gi g.cells (v : Int).toNat with Next := ((gi g.cells (v : Int).toNat).Next).set d w })).set (v : Int).toNat ({ gi (g.cells.set (v : Int).toNat ({ gi g.cells (v : Int).toNat with Next := ((gi g.cells (v : Int).toNat).Next).set d w })) (v : Int).toNat with Owner := ((gi (g.cells.set (v : Int).toNat ({ gi g.cells (v : Int).toNat with Next := ((gi g.cells (v : Int).toNat).Next).set d w })) (v : Int).toNat).Owner).set d owner })) (w : Int).toNat with Next := ((gi ((g.cells.set (v : Int).toNat ({ gi g.cells (v : Int).toNat with Next := ((gi g.cells (v : Int).toNat).Next).set d w })).set (v : Int).toNat ({ gi (g.cells.set (v : Int).toNat ({ gi g.cells (v : Int).toNat with Next := ((gi g.cells (v : Int).toNat).Next).set d w })) (v : Int).toNat with Owner := ((gi (g.cells.set (v : Int).toNat ({ gi g.cells (v : Int).toNat with Next := ((gi g.cells (v : Int).toNat).Next).set d w })) (v : Int).toNat).Owner).set d owner })) (w : Int).toNat).Next).set x v }))) rfl rfl c₆) ?_
  refine WD_v (a_faE (off' := 0) (off2 := 4) (hO₆.sl 1 rfl : Sl e_T_api_Cell k₆ v_g_cells (((g.cells.set (v : Int).toNat ({ gi g.cells (v : Int).toNat with Next := ((gi g.cells (v : Int).toNat).Next).set d w })).set (v : Int).toNat ({ gi (g.cells.set (v : Int).toNat ({ gi g.cells (v : Int).toNat with Next := ((gi g.cells (v : Int).toNat).Next).set d w })) (v : Int).toNat with Owner := ((gi (g.cells.set (v : Int).toNat ({ gi g.cells (v : Int).toNat with Next := ((gi g.cells (v : Int).toNat).Next).set d w })) (v : Int).toNat).Owner).set d owner })).set (w : Int).toNat ({ gi ((g.cells.set (v : Int).toNat ({ gi g.cells (v : Int).toNat with Next := ((gi g.cells (v : Int).toNat).Next).set d w })).set (v : Int).toNat ({ gi (g.cells.set (v : Int).toNat ({ gi g.cells (v : Int).toNat with Next := ((gi g.cells (v : Int).toNat).Next).set d w })) (v : Int).toNat with Owner := ((gi (g.cells.set (v : Int).toNat ({ gi g.cells (v : Int).toNat with Next := ((gi g.cells (v : Int).toNat).Next).set d w })) (v : Int).toNat).Owner).set d owner })) (w : Int).toNat with Next := ((gi ((g.cells.set (v : Int).toNat ({ gi g.cells (v : Int).toNat with Next := ((gi g.cells (v : Int).toNat).Next).set d w })).set (v : Int).toNat ({ gi (g.cells.set (v : Int).toNat ({ gi g.cells (v : Int).toNat with Next := ((gi g.cells (v : Int).toNat).Next).set d w })) (v : Int).toNat with Owner := ((gi (g.cells.set (v : Int).toNat ({ gi g.cells (v : Int).toNat with Next := ((gi g.cells (v : Int).toNat).Next).set d w })) (v : Int).toNat).Owner).set d owner })) (w : Int).toNat).Next).set x v }))) (toNat_lt c₆) rfl rfl) ?_
  refine WD_v (a_ixaaE (off := 4) (off2 := (4 + (x : Int).toNat * 1)) (z := x) (hO₆.sl 1 rfl : Sl e_T_api_Cell k₆ v_g_cells (((g.cells.set (v : Int).toNat ({ gi g.cells (v : Int).toNat with Next := ((gi g.cells (v : Int).toNat).Next).set d w })).set (v : Int).toNat ({ gi (g.cells.set (v : Int).toNat ({ gi g.cells (v : Int).toNat with Next := ((gi g.cells (v : Int).toNat).Next).set d w })) (v : Int).toNat with Owner := ((gi (g.cells.set (v : Int).toNat ({ gi g.cells (v : Int).toNat with Next := ((gi g.cells (v : Int).toNat).Next).set d w })) (v : Int).toNat).Owner).set d owner })).set (w : Int).toNat ({ gi ((g.cells.set (v : Int).toNat ({ gi g.cells (v : Int).toNat with Next := ((gi g.cells (v : Int).toNat).Next).set d w })).set (v : Int).toNat ({ gi (g.cells.set (v : Int).toNat ({ gi g.cells (v : Int).toNat with Next := ((gi g.cells (v : Int).toNat).Next).set d w })) (v : Int).toNat with Owner := ((gi (g.cells.set (v : Int).toNat ({ gi g.cells (v : Int).toNat with Next := ((gi g.cells (v : Int).toNat).Next).set d w })) (v : Int).toNat).Owner).set d owner })) (w : Int).toNat with Next := ((gi ((g.cells.set (v : Int).toNat ({ gi g.cells (v : Int).toNat with Next := ((gi g.cells (v : Int).toNat).Next).set d w })).set (v : Int).toNat ({ gi (g.cells.set (v : Int).toNat ({ gi g.cells (v : Int).toNat with Next := ((gi g.cells (v : Int).toNat).Next).set d w })) (v : Int).toNat with Owner := ((gi (g.cells.set (v : Int).toNat ({ gi g.cells (v : Int).toNat with Next := ((gi g.cells (v : Int).toNat).Next).set d w })) (v : Int).toNat).Owner).set d owner })) (w : Int).toNat).Next).set x v }))) (toNat_lt c₆) rfl rfl c₅ rfl) ?_
  refine WD_x (hO₆.ste (E := e_T_api_Cell) (y := ({ gi (((g.cells.set (v : Int).toNat ({ gi g.cells (v : Int).toNat with Next := ((gi g.cells (v : Int).toNat).Next).set d w })).set (v : Int).toNat ({ gi (g.cells.set (v : Int).toNat ({ gi g.cells (v : Int).toNat with Next := ((gi g.cells (v : Int).toNat).Next).set d w })) (v : Int).toNat with Owner := ((gi (g.cells.set (v : Int).toNat ({ gi g.cells (v : Int).toNat with Next := ((gi g.cells (v : Int).toNat).Next).set d w })) (v : Int).toNat).Owner).set d owner })).set (w : Int).toNat ({ gi ((g.cells.set (v : Int).toNat ({ gi g.cells (v : Int).toNat with Next := ((gi g.cells (v : Int).toNat).Next).set d w })).set (v : Int).toNat ({ gi (g.cells.set (v : Int).toNat ({ gi g.cells (v : Int).toNat with Next := ((gi g.cells (v : Int).toNat).Next).set d w })) (v : Int).toNat with Owner := ((gi (g.cells.set (v : Int).toNat ({ gi g.cells (v : Int).toNat with Next := ((gi g.cells (v : Int).toNat).Next).set d w })) (v : Int).toNat).Owner).set d owner })) (w : Int).toNat with Next := ((gi ((g.cells.set (v : Int).toNat ({ gi g.cells (v : Int).toNat with Next := ((gi g.cells (v : Int).toNat).Next).set d w })).set (v : Int).toNat ({ gi (g.cells.set (v : Int).toNat ({ gi g.cells (v : Int).toNat with Next := ((gi g.cells (v : Int).toNat).Next).set d w })) (v : Int).toNat with Owner := ((gi (g.cells.set (v : Int).toNat ({ gi g.cells (v : Int).toNat with Next := ((gi g.cells (v : Int).toNat).Next).set d w })) (v : Int).toNat).Owner).set d owner })) (w : Int).toNat).Next).set x v })) (w : Int).toNat with Owner := ((gi (((g.cells.set (v : Int).toNat ({ gi g.cells (v : Int).toNat with Next := ((gi g.cells (v : Int).toNat).Next).set d w })).set (v : Int).toNat ({ gi (g.cells.set (v : Int).toNat ({ gi g.cells (v : Int).toNat with Next := ((gi g.cells (v : Int).toNat).Next).set d w })) (v : Int).toNat with Owner := ((gi (g.cells.set (v : Int).toNat ({ gi g.cells (v : Int).toNat with Next := ((gi g.cells (v : Int).toNat).Next).set d w })) (v : Int).toNat).Owner).set d owner })).set (w : Int).toNat ({ gi ((g.cells.set (v : Int).toNat ({ gi g.cells (v : Int).toNat with Next := ((gi g.cells (v : Int).toNat).Next).set d w })).set (v : Int).toNat ({ gi (g.cells.set (v : Int).toNat ({ gi g.cells (v : Int).toNat with Next := ((gi g.cells (v : Int).toNat).Next).set d w })) (v : Int).toNat with Owner := ((gi (g.cells.set (v : Int).toNat ({ gi g.cells (v : Int).toNat with Next := ((gi g.cells (v : Int).toNat).Next).set d w })) (v : Int).toNat).Owner).set d owner })) (w : Int).toNat with Next := ((gi ((g.cells.set (v : Int).toNat ({ gi g.cells (v : Int).toNat with Next := ((gi g.cells (v : Int).toNat).Next).set d w })).set (v : Int).toNat ({ gi (g.cells.set (v : Int).toNat ({ gi g.cells (v : Int).toNat with Next := ((gi g.cells (v : Int).toNat).Next).set d w })) (v : Int).toNat with Owner := ((gi (g.cells.set (v : Int).toNat ({ gi g.cells (v : Int).toNat with Next := ((gi g.cells (v : Int).toNat).Next).set d w })) (v : Int).toNat).Owner).set d owner })) (w : Int).toNat).Next).set x v })) (w : Int).toNat).Owner).set x owner })) (ws := [.i .i64 owner]) 1 rfl rfl (toNat_lt c₆) rfl rfl ⟨rfl, (by have := c₅; exact (show 4 + (x : Int).toNat * 1 + 1 ≤ 8 by omega)), rfl⟩ (st_T_api_Cell_Owner c₅)) ?_
  rintro _ k₇ z₄ ⟨rfl, f₄, m₄, hW⟩
  have fr₆ := fr₅.kept f₄ (by decide)
  have hO₇ : Own B h k₇ [eBox r_g [v_g_cells], eSl e_T_api_Cell v_g_cells ((((g.cells.set (v : Int).toNat ({ gi g.cells (v : Int).toNat with Next := ((gi g.cells (v : Int).toNat).Next).set d w })).set (v : Int).toNat ({ gi (g.cells.set (v : Int).toNat ({ gi g.cells (v : Int).toNat with Next := ((gi g.cells (v : Int).toNat).Next).set d w })) (v : Int).toNat with Owner := ((gi (g.cells.set (v : Int).toNat ({ gi g.cells (v : Int).toNat with Next := ((gi g.cells (v : Int).toNat).Next).set d w })) (v : Int).toNat).Owner).set d owner })).set (w : Int).toNat ({ gi ((g.cells.set (v : Int).toNat ({ gi g.cells (v : Int).toNat with Next := ((gi g.cells (v : Int).toNat).Next).set d w })).set (v : Int).toNat ({ gi (g.cells.set (v : Int).toNat ({ gi g.cells (v : Int).toNat with Next := ((gi g.cells (v : Int).toNat).Next).set d w })) (v : Int).toNat with Owner := ((gi (g.cells.set (v : Int).toNat ({ gi g.cells (v : Int).toNat with Next := ((gi g.cells (v : Int).toNat).Next).set d w })) (v : Int).toNat).Owner).set d owner })) (w : Int).toNat with Next := ((gi ((g.cells.set (v : Int).toNat ({ gi g.cells (v : Int).toNat with Next := ((gi g.cells (v : Int).toNat).Next).set d w })).set (v : Int).toNat ({ gi (g.cells.set (v : Int).toNat ({ gi g.cells (v : Int).toNat with Next := ((gi g.cells (v : Int).toNat).Next).set d w })) (v : Int).toNat with Owner := ((gi (g.cells.set (v : Int).toNat ({ gi g.cells (v : Int).toNat with Next := ((gi g.cells (v : Int).toNat).Next).set d w })) (v : Int).toNat).Owner).set d owner })) (w : Int).toNat).Next).set x v })).set (w : Int).toNat ({ gi (((g.cells.set (v : Int).toNat ({ gi g.cells (v : Int).toNat with Next := ((gi g.cells (v : Int).toNat).Next).set d w })).set (v : Int).toNat ({ gi (g.cells.set (v : Int).toNat ({ gi g.cells (v : Int).toNat with Next := ((gi g.cells (v : Int).toNat).Next).set d w })) (v : Int).toNat with Owner := ((gi (g.cells.set (v : Int).toNat ({ gi g.cells (v : Int).toNat with Next := ((gi g.cells (v : Int).toNat).Next).set d w })) (v : Int).toNat).Owner).set d owner })).set (w : Int).toNat ({ gi ((g.cells.set (v : Int).toNat ({ gi g.cells (v : Int).toNat with Next := ((gi g.cells (v : Int).toNat).Next).set d w })).set (v : Int).toNat ({ gi (g.cells.set (v : Int).toNat ({ gi g.cells (v : Int).toNat with Next := ((gi g.cells (v : Int).toNat).Next).set d w })) (v : Int).toNat with Owner := ((gi (g.cells.set (v : Int).toNat ({ gi g.cells (v : Int).toNat with Next := ((gi g.cells (v : Int).toNat).Next).set d w })) (v : Int).toNat).Owner).set d owner })) (w : Int).toNat with Next := ((gi ((g.cells.set (v : Int).toNat ({ gi g.cells (v : Int).toNat with Next := ((gi g.cells (v : Int).toNat).Next).set d w })).set (v : Int).toNat ({ gi (g.cells.set (v : Int).toNat ({ gi g.cells (v : Int).toNat with Next := ((gi g.cells (v : Int).toNat).Next).set d w })) (v : Int).toNat with Owner := ((gi (g.cells.set (v : Int).toNat ({ gi g.cells (v : Int).toNat with Next := ((gi g.cells (v : Int).toNat).Next).set d w })) (v : Int).toNat).Owner).set d owner })) (w : Int).toNat).Next).set x v })) (w : Int).toNat with Owner := ((gi (((g.cells.set (v : Int).toNat ({ gi g.cells (v : Int).toNat with Next := ((gi g.cells (v : Int).toNat).Next).set d w })).set (v : Int).toNat ({ gi (g.cells.set (v : Int).toNat ({ gi g.cells (v : Int).toNat with Next := ((gi g.cells (v : Int).toNat).Next).set d w })) (v : Int).toNat with Owner := ((gi (g.cells.set (v : Int).toNat ({ gi g.cells (v : Int).toNat with Next := ((gi g.cells (v : Int).toNat).Next).set d w })) (v : Int).toNat).Owner).set d owner })).set (w : Int).toNat ({ gi ((g.cells.set (v : Int).toNat ({ gi g.cells (v : Int).toNat with Next := ((gi g.cells (v : Int).toNat).Next).set d w })).set (v : Int).toNat ({ gi (g.cells.set (v : Int).toNat ({ gi g.cells (v : Int).toNat with Next := ((gi g.cells (v : Int).toNat).Next).set d w })) (v : Int).toNat with Owner := ((gi (g.cells.set (v : Int).toNat ({ gi g.cells (v : Int).toNat with Next := ((gi g.cells (v : Int).toNat).Next).set d w })) (v : Int).toNat).Owner).set d owner })) (w : Int).toNat with Next := ((gi ((g.cells.set (v : Int).toNat ({ gi g.cells (v : Int).toNat with Next := ((gi g.cells (v : Int).toNat).Next).set d w })).set (v : Int).toNat ({ gi (g.cells.set (v : Int).toNat ({ gi g.cells (v : Int).toNat with Next := ((gi g.cells (v : Int).toNat).Next).set d w })) (v : Int).toNat with Owner := ((gi (g.cells.set (v : Int).toNat ({ gi g.cells (v : Int).toNat with Next := ((gi g.cells (v : Int).toNat).Next).set d w })) (v : Int).toNat).Owner).set d owner })) (w : Int).toNat).Next).set x v })) (w : Int).toNat).Owner).set x owner }))] := hW
  refine WD_end ?_
  refine And.intro ?_ ?_
  · intro q hq
    simp only [List.mem_cons, List.not_mem_nil, or_false] at hq
    rcases hq with rfl
    · refine ap_ll ?_ ?_
      · exact (fun h => nomatch h)
      · exact (fun h => nomatch h)
  refine Ret_n rs_nil ?_
  have hp := Option.some.inj hp; subst hp
  exact (Exists.intro v_g_cells (And.intro rfl (hO₇.pick [0, 1] rfl (by decide))))

theorem p_grid_Grid_Join.ok {h : Hp} {g : T_grid_Grid} {v : Int} {d : Int} {w : Int} {owner : Int} {r_g : Nat} {v_g_cells : V} (H : Own (Bm h [eBox r_g [v_g_cells], eSl e_T_api_Cell v_g_cells g.cells]) h h [eBox r_g [v_g_cells], eSl e_T_api_Cell v_g_cells g.cells]) {r : Int × T_grid_Grid} (hp : p_grid_Grid_Join g v d w owner = some r) :
    ∃ u k', Is G 52 [.p r_g 0, .i .i64 v, .i .i64 d, .i .i64 w, .i .i64 owner] h u k' ∧ ∃ (v₁ : V), V.i .i64 r.1 = u ∧ Own (Bm h [eBox r_g [v_g_cells], eSl e_T_api_Cell v_g_cells g.cells]) h k' [eBox r_g [v₁], eSl e_T_api_Cell v₁ r.2.cells] := by
  refine WC.is (WC_of G_F_grid_Grid_Join ?_)
  unfold p_grid_Grid_Join at hp
  let B : Nat → Prop := (Bm h [eBox r_g [v_g_cells], eSl e_T_api_Cell v_g_cells g.cells])
  have hO : Own B h h [eBox r_g [v_g_cells], eSl e_T_api_Cell v_g_cells g.cells] := H
  refine W_sq ?_
  refine W_rg ?_
  refine WO_v (a_mv (v := .i .i64 0) rfl) ?_
  refine WO_end ?_
  refine then_n ?_
  refine W_sq ?_
  refine W_bl ?_
  refine W_sq ?_
  refine W_rg ?_
  refine WO_v (a_mv (v := .p r_g 0) rfl) ?_
  refine WO_v (a_eqP rfl rfl) ?_
  refine WO_v (a_mv (v := .b false) rfl) ?_
  refine WO_end ?_
  refine then_n ?_
  refine W_cF (t := false) rfl rfl ?_
  refine W_sq ?_
  refine W_rg ?_
  refine WO_v (a_mv (v := .p r_g 0) rfl) ?_
  refine WO_v (a_mv (v := .i .i64 v) rfl) ?_
  refine WO_v (a_mv (v := .i .i64 d) rfl) ?_
  obtain ⟨x, hx₁, hp⟩ := bd_some hp
  obtain ⟨u₁, k₁, ca₁, rfl, hW₁⟩ := p_grid_Grid_is.ok (h := h)  (hO.box 0 rfl) (hO.sl 1 rfl : Sl e_T_api_Cell h v_g_cells g.cells) hx₁
  refine WO_c (id := 75) (caps := []) rfl (mp_cons (v := .p r_g 0) rfl (mp_cons (v := .i .i64 v) rfl (mp_cons (v := .i .i64 d) rfl mp_nil))) ca₁ ?_
  have hO₁ : Own B h k₁ [eBox r_g [v_g_cells], eSl e_T_api_Cell v_g_cells g.cells] := hO.call hW₁ rfl
  refine WO_v (a_not (t := x) rfl) ?_
  refine WO_v (a_mv (v := .b (!x)) rfl) ?_
  obtain ⟨t, hv₁, hp⟩ := bd_some hp
  refine WO_cut 6 (fun fr' k' => Own B h k' [eBox r_g [v_g_cells], eSl e_T_api_Cell v_g_cells g.cells] ∧ fr' 26 = .b t ∧ fr' 0 = .p r_g 0 ∧ fr' 1 = .i .i64 v ∧ fr' 2 = .i .i64 d ∧ fr' 3 = .i .i64 w ∧ fr' 4 = .i .i64 owner) ?_ ?_
  · clear hp; rcases if_some hv₁ with ⟨b₁, hp⟩ | ⟨b₁, hp⟩
    · skip
      refine WO_off rfl b₁ ?_
      refine WO_off rfl b₁ ?_
      refine WO_off rfl b₁ ?_
      refine WO_off rfl b₁ ?_
      refine WO_off rfl b₁ ?_
      refine WO_v (a_pickT (t := (!x)) (v := .b t) rfl b₁ (Eq.trans (b := V.b true) rfl (congrArg V.b (Option.some.inj hp)))) ?_
      refine WO_end ?_
      exact ⟨hO₁.pick [0, 1] rfl (by decide), rfl, rfl, rfl, rfl, rfl, rfl⟩
    · skip
      refine WO_on rfl b₁ ?_
      refine WO_v (a_mv (v := .p r_g 0) rfl) ?_
      refine WO_on rfl b₁ ?_
      refine WO_v (a_mv (v := .i .i64 w) rfl) ?_
      refine WO_on rfl b₁ ?_
      refine WO_v (a_mv (v := .i .i64 d) rfl) ?_
      refine WO_on rfl b₁ ?_
      obtain ⟨x1, hx₂, hp⟩ := bd_some hp
      obtain ⟨u₂, k₂, ca₂, rfl, hW₂⟩ := p_grid_Grid_is.ok (h := k₁)  (hO₁.box 0 rfl) (hO₁.sl 1 rfl : Sl e_T_api_Cell k₁ v_g_cells g.cells) hx₂
      refine WO_c (id := 75) (caps := []) rfl (mp_cons (v := .p r_g 0) rfl (mp_cons (v := .i .i64 w) rfl (mp_cons (v := .i .i64 d) rfl mp_nil))) ca₂ ?_
      have hO₂ : Own B h k₂ [eBox r_g [v_g_cells], eSl e_T_api_Cell v_g_cells g.cells] := hO₁.call hW₂ rfl
      refine WO_on rfl b₁ ?_
      refine WO_v (a_not (t := x1) rfl) ?_
      refine WO_v (a_pickF (t := (!x)) (v := .b t) rfl b₁ (Eq.trans (b := V.b (!x1)) rfl (congrArg V.b (Option.some.inj hp)))) ?_
      refine WO_end ?_
      exact ⟨hO₂.pick [0, 1] rfl (by decide), rfl, rfl, rfl, rfl, rfl, rfl⟩
  rintro frg₁ k₃ ⟨hO₃, g₁_26, g₁_0, g₁_1, g₁_2, g₁_3, g₁_4⟩
  refine WO_v (a_mv (v := .b t) g₁_26) ?_
  refine WO_cut 4 (fun fr' k' => k₃ = k' ∧ fr' 31 = .b (t || (decide (v = w))) ∧ fr' 0 = .p r_g 0 ∧ fr' 1 = .i .i64 v ∧ fr' 2 = .i .i64 d ∧ fr' 3 = .i .i64 w ∧ fr' 4 = .i .i64 owner) ?_ ?_
  · rcases bc t with b₂ | b₂
    · skip
      refine WO_off rfl b₂ ?_
      refine WO_off rfl b₂ ?_
      refine WO_off rfl b₂ ?_
      refine WO_v (a_pickT (t := t) (v := .b (t || (decide (v = w)))) rfl b₂ (Eq.trans (b := V.b true) rfl (or_off b₂))) ?_
      refine WO_end ?_
      exact ⟨rfl, rfl, g₁_0, g₁_1, g₁_2, g₁_3, g₁_4⟩
    · skip
      refine WO_on rfl b₂ ?_
      refine WO_v (a_mv (v := .i .i64 v) g₁_1) ?_
      refine WO_on rfl b₂ ?_
      refine WO_v (a_mv (v := .i .i64 w) g₁_3) ?_
      refine WO_on rfl b₂ ?_
      refine WO_v (a_eqI (a := v) (b := w) rfl rfl) ?_
      refine WO_v (a_pickF (t := t) (v := .b (t || (decide (v = w)))) rfl b₂ (Eq.trans (b := V.b (decide (v = w))) rfl (or_on b₂))) ?_
      refine WO_end ?_
      exact ⟨rfl, rfl, g₁_0, g₁_1, g₁_2, g₁_3, g₁_4⟩
  rintro frg₂ _ ⟨rfl, g₂_31, g₂_0, g₂_1, g₂_2, g₂_3, g₂_4⟩
  refine WO_v (a_mv (v := .b (t || (decide (v = w)))) g₂_31) ?_
  refine WO_cut 3 (fun fr' k' => k₃ = k' ∧ fr' 35 = .b ((t || (decide (v = w))) || (decide (owner < (-2)))) ∧ fr' 0 = .p r_g 0 ∧ fr' 1 = .i .i64 v ∧ fr' 2 = .i .i64 d ∧ fr' 3 = .i .i64 w ∧ fr' 4 = .i .i64 owner) ?_ ?_
  · rcases bc (t || (decide (v = w))) with b₃ | b₃
    · skip
      refine WO_off rfl b₃ ?_
      refine WO_off rfl b₃ ?_
      refine WO_v (a_pickT (t := (t || (decide (v = w)))) (v := .b ((t || (decide (v = w))) || (decide (owner < (-2))))) rfl b₃ (Eq.trans (b := V.b true) rfl (or_off b₃))) ?_
      refine WO_end ?_
      exact ⟨rfl, rfl, g₂_0, g₂_1, g₂_2, g₂_3, g₂_4⟩
    · skip
      refine WO_on rfl b₃ ?_
      refine WO_v (a_mv (v := .i .i64 owner) g₂_4) ?_
      refine WO_on rfl b₃ ?_
      refine WO_v (a_lss (a := owner) (b := (-2)) rfl rfl) ?_
      refine WO_v (a_pickF (t := (t || (decide (v = w)))) (v := .b ((t || (decide (v = w))) || (decide (owner < (-2))))) rfl b₃ (Eq.trans (b := V.b (decide (owner < (-2)))) rfl (or_on b₃))) ?_
      refine WO_end ?_
      exact ⟨rfl, rfl, g₂_0, g₂_1, g₂_2, g₂_3, g₂_4⟩
  rintro frg₃ _ ⟨rfl, g₃_35, g₃_0, g₃_1, g₃_2, g₃_3, g₃_4⟩
  refine WO_v (a_mv (v := .b ((t || (decide (v = w))) || (decide (owner < (-2))))) g₃_35) ?_
  refine WO_end ?_
  refine then_n ?_
  rcases if_some hp with ⟨b₄, hp⟩ | ⟨b₄, hp⟩
  · refine W_cT (t := ((t || (decide (v = w))) || (decide (owner < (-2))))) rfl b₄ ?_
    refine W_sq ?_
    refine W_rg ?_
    refine WO_v (a_mv (v := .i .i64 2) rfl) ?_
    refine WO_end ?_
    refine then_n ?_
    refine W_rt ?_
    refine blk_r ?_
    refine then_r ?_
    refine Ret_r (rs_t (n := 10) (v := .i .i64 2) rfl rs_nil) ?_
    have hp := Option.some.inj hp; subst hp
    exact (Exists.intro v_g_cells (And.intro rfl (hO₃.pick [0, 1] rfl (by decide))))
  · refine W_cF (t := ((t || (decide (v = w))) || (decide (owner < (-2))))) rfl b₄ ?_
    refine W_sq ?_
    obtain ⟨o₁, ho₁, hp⟩ := bd_some hp
    refine W.mono (Q := fun e fr k => match (generalizing := false) o₁ with
        | x2 => e = .normal ∧ fr 0 = .p r_g 0 ∧ fr 1 = .i .i64 v ∧ fr 2 = .i .i64 d ∧ fr 3 = .i .i64 w ∧ fr 4 = .i .i64 owner ∧ fr 36 = .b x2 ∧ Own B h k [eBox r_g [v_g_cells], eSl e_T_api_Cell v_g_cells g.cells]) ?_ ?_
    · clear hp; have hp := ho₁; clear ho₁
      refine W_dr ?_
      have hW := hO₃.bump 26
      have fr₁ := Fresh.start k₃ 26
      have nb₁ : ∀ {i : Nat}, h.n ≤ k₃.n + i := Nat.le_trans hO₃.n (Nat.le_add_right _ _)
      have hO₅ : Own B h (k₃.bump 26) [eBox r_g [v_g_cells], eSl e_T_api_Cell v_g_cells g.cells] := hW
      refine WD_v (a_mv (v := .p r_g 0) g₃_0) ?_
      refine WD_v (a_nilp (r := r_g) (o := 0) rfl) ?_
      refine WD_v (a_fa (r := r_g) (o := 0) (o' := 0) rfl rfl) ?_
      refine WD_v (a_ldb (cs := [v_g_cells]) (v := v_g_cells) (hO₅.box 0 rfl) rfl rfl) ?_
      refine WD_v (a_mv (v := .i .i64 v) g₃_1) ?_
      refine WD_v (a_mv (v := .i .i64 d) g₃_2) ?_
      obtain ⟨c₁, hp⟩ := ck_some hp
      refine WD_v (a_ixa (E := e_T_api_Cell) (z := v) (hO₅.sl 1 rfl : Sl e_T_api_Cell (k₃.bump 26) v_g_cells g.cells) rfl rfl c₁) ?_
      refine WD_v (a_faE (off' := 0) (off2 := 0) (hO₅.sl 1 rfl : Sl e_T_api_Cell (k₃.bump 26) v_g_cells g.cells) (toNat_lt c₁) rfl rfl) ?_
      obtain ⟨c₂, hp⟩ := ck_some hp
      refine WD_v (a_ixaaE (off := 0) (off2 := (0 + (d : Int).toNat * 1)) (z := d) (hO₅.sl 1 rfl : Sl e_T_api_Cell (k₃.bump 26) v_g_cells g.cells) (toNat_lt c₁) rfl rfl c₂ rfl) ?_
      refine WD_v (a_ldE (w := .i .i64 (((gi g.cells (v : Int).toNat).Next).get d)) (hO₅.sl 1 rfl : Sl e_T_api_Cell (k₃.bump 26) v_g_cells g.cells) rfl (toNat_lt c₁) (ld_T_api_Cell_Next c₂)) ?_
      refine WD_v (a_neI (a := (((gi g.cells (v : Int).toNat).Next).get d)) (b := (-1)) rfl rfl) ?_
      refine WD_v (a_mv (v := .b (!(decide (((gi g.cells (v : Int).toNat).Next).get d = (-1))))) rfl) ?_
      rcases if_some hp with ⟨b₅, hp⟩ | ⟨b₅, hp⟩
      · skip
        refine WD_off rfl b₅ ?_
        refine WD_off rfl b₅ ?_
        refine WD_off rfl b₅ ?_
        refine WD_off rfl b₅ ?_
        refine WD_off rfl b₅ ?_
        refine WD_off rfl b₅ ?_
        refine WD_off rfl b₅ ?_
        refine WD_off rfl b₅ ?_
        refine WD_off rfl b₅ ?_
        refine WD_off rfl b₅ ?_
        refine WD_off rfl b₅ ?_
        refine WD_off rfl b₅ ?_
        refine WD_v (a_pickT (t := (!(decide (((gi g.cells (v : Int).toNat).Next).get d = (-1))))) (v := .b true) rfl b₅ rfl) ?_
        refine WD_v (a_mv (v := .b true) rfl) ?_
        refine WD_end ?_
        refine And.intro ?_ ?_
        · intro q hq
          simp only [List.mem_cons, List.not_mem_nil, or_false] at hq
          rcases hq with rfl
          · exact ap_n1
        have hp := Option.some.inj hp; subst hp
        exact (And.intro rfl (And.intro (g₃_0) (And.intro (g₃_1) (And.intro (g₃_2) (And.intro (g₃_3) (And.intro (g₃_4) (And.intro (rfl) (hO₅.pick [0, 1] rfl (by decide)))))))))
      · skip
        refine WD_on rfl b₅ ?_
        refine WD_v (a_mv (v := .p r_g 0) g₃_0) ?_
        refine WD_on rfl b₅ ?_
        refine WD_v (a_nilp (r := r_g) (o := 0) rfl) ?_
        refine WD_on rfl b₅ ?_
        refine WD_v (a_fa (r := r_g) (o := 0) (o' := 0) rfl rfl) ?_
        refine WD_on rfl b₅ ?_
        refine WD_v (a_ldb (cs := [v_g_cells]) (v := v_g_cells) (hO₅.box 0 rfl) rfl rfl) ?_
        refine WD_on rfl b₅ ?_
        refine WD_v (a_mv (v := .i .i64 w) g₃_3) ?_
        refine WD_on rfl b₅ ?_
        refine WD_v (a_mv (v := .i .i64 d) g₃_2) ?_
        refine WD_on rfl b₅ ?_
        obtain ⟨x3, hx₃, hp⟩ := bd_some hp
        obtain ⟨u₃, k₆, ca₃, rfl, hW₃⟩ := p_compass_Left.ok (h := (k₃.bump 26))   hx₃
        refine WD_c (id := 77) (caps := []) rfl (mp_cons (v := .i .i64 d) rfl (mp_cons (v := .i .i64 2) rfl mp_nil)) ca₃ ?_
        have fr₂ := fr₁.call hW₃
        have hO₆ : Own B h k₆ [eBox r_g [v_g_cells], eSl e_T_api_Cell v_g_cells g.cells] := hO₅.call hW₃ rfl
        refine WD_on rfl b₅ ?_
        obtain ⟨c₃, hp⟩ := ck_some hp
        refine WD_v (a_ixa (E := e_T_api_Cell) (z := w) (hO₆.sl 1 rfl : Sl e_T_api_Cell k₆ v_g_cells g.cells) rfl rfl c₃) ?_
        refine WD_on rfl b₅ ?_
        refine WD_v (a_faE (off' := 0) (off2 := 0) (hO₆.sl 1 rfl : Sl e_T_api_Cell k₆ v_g_cells g.cells) (toNat_lt c₃) rfl rfl) ?_
        refine WD_on rfl b₅ ?_
        obtain ⟨c₄, hp⟩ := ck_some hp
        refine WD_v (a_ixaaE (off := 0) (off2 := (0 + (x3 : Int).toNat * 1)) (z := x3) (hO₆.sl 1 rfl : Sl e_T_api_Cell k₆ v_g_cells g.cells) (toNat_lt c₃) rfl rfl c₄ rfl) ?_
        refine WD_on rfl b₅ ?_
        refine WD_v (a_ldE (w := .i .i64 (((gi g.cells (w : Int).toNat).Next).get x3)) (hO₆.sl 1 rfl : Sl e_T_api_Cell k₆ v_g_cells g.cells) rfl (toNat_lt c₃) (ld_T_api_Cell_Next c₄)) ?_
        refine WD_on rfl b₅ ?_
        refine WD_v (a_neI (a := (((gi g.cells (w : Int).toNat).Next).get x3)) (b := (-1)) rfl rfl) ?_
        refine WD_v (a_pickF (t := (!(decide (((gi g.cells (v : Int).toNat).Next).get d = (-1))))) (v := .b (!(decide (((gi g.cells (w : Int).toNat).Next).get x3 = (-1))))) rfl b₅ rfl) ?_
        refine WD_v (a_mv (v := .b (!(decide (((gi g.cells (w : Int).toNat).Next).get x3 = (-1))))) rfl) ?_
        refine WD_end ?_
        refine And.intro ?_ ?_
        · intro q hq
          simp only [List.mem_cons, List.not_mem_nil, or_false] at hq
          rcases hq with rfl
          · refine ap_ol rfl rfl ?_
            · exact (fun r hm hc => hc (hW₃.base r (Nat.lt_of_lt_of_le (hO₃.ltAt 0 rfl _ (tch (v := V.p r_g 0) (ld_el hm) rfl)) (Nat.le_trans (Nat.le_add_right _ _) fr₁.n))))
        have hp := Option.some.inj hp; subst hp
        exact (And.intro rfl (And.intro (g₃_0) (And.intro (g₃_1) (And.intro (g₃_2) (And.intro (g₃_3) (And.intro (g₃_4) (And.intro (rfl) (hO₆.pick [0, 1] rfl (by decide)))))))))
    intro e₁ q₁ k₄ hJ₁
    obtain ⟨x2, rfl⟩ : ∃ x, x = o₁ := ⟨_, rfl⟩
    obtain ⟨rfl, q₁_0, q₁_1, q₁_2, q₁_3, q₁_4, q₁_36, hO₄⟩ := hJ₁
    refine then_n ?_
    rcases if_some hp with ⟨b₆, hp⟩ | ⟨b₆, hp⟩
    · refine W_cT (t := x2) q₁_36 b₆ ?_
      refine W_sq ?_
      refine W_rg ?_
      refine WO_v (a_mv (v := .i .i64 9) rfl) ?_
      refine WO_end ?_
      refine then_n ?_
      refine W_rt ?_
      refine blk_r ?_
      refine then_r ?_
      refine Ret_r (rs_t (n := 10) (v := .i .i64 9) rfl rs_nil) ?_
      have hp := Option.some.inj hp; subst hp
      exact (Exists.intro v_g_cells (And.intro rfl (hO₄.pick [0, 1] rfl (by decide))))
    · refine W_cF (t := x2) q₁_36 b₆ ?_
      refine W_sk ?_
      refine blk_n ?_
      refine then_n ?_
      refine W_sq ?_
      refine W_rg ?_
      refine WO_v (a_mv (v := .p r_g 0) q₁_0) ?_
      refine WO_v (a_mv (v := .i .i64 v) q₁_1) ?_
      refine WO_v (a_mv (v := .i .i64 d) q₁_2) ?_
      refine WO_v (a_mv (v := .i .i64 w) q₁_3) ?_
      refine WO_v (a_mv (v := .i .i64 owner) q₁_4) ?_
      obtain ⟨m, hx₄, hp⟩ := bd_some hp
      obtain ⟨u₄, k₇, ca₄, v₂, rfl, hW₄⟩ := p_grid_Grid_lay.ok (h := k₄) (g := g) (v := v) (d := d) (w := w) (owner := owner) (hO₄.toM [0, 1] rfl (by decide))  hx₄
      refine WO_c (id := 76) (caps := []) rfl (mp_cons (v := .p r_g 0) rfl (mp_cons (v := .i .i64 v) rfl (mp_cons (v := .i .i64 d) rfl (mp_cons (v := .i .i64 w) rfl (mp_cons (v := .i .i64 owner) rfl mp_nil))))) ca₄ ?_
      have hO₇ : Own B h k₇ [eBox r_g [v₂], eSl e_T_api_Cell v₂ m.cells] := (hO₄.callM [0, 1] [] rfl rfl (by decide) hW₄ rfl).pick [0, 1] rfl (by decide)
      refine WO_end ?_
      refine then_n ?_
      refine W_sq ?_
      refine W_rg ?_
      refine WO_v (a_mv (v := .i .i64 0) rfl) ?_
      refine WO_end ?_
      refine then_n ?_
      refine W_rt ?_
      refine Ret_r (rs_t (n := 10) (v := .i .i64 0) rfl rs_nil) ?_
      have hp := Option.some.inj hp; subst hp
      exact (Exists.intro v₂ (And.intro rfl (hO₇.pick [0, 1] rfl (by decide))))

theorem p_grid_Grid_Next.ok {h : Hp} {g : T_grid_Grid} {v : Int} {d : Int} {r_g : Nat} {v_g_cells : V} {w_g : Bool} (b_g : h.m r_g = some (.cells w_g [v_g_cells])) (s_g_cells : Sl e_T_api_Cell h v_g_cells g.cells) {r : Int × Int × Bool} (hp : p_grid_Grid_Next g v d = some r) :
    ∃ u k', Is G 54 [.p r_g 0, .i .i64 v, .i .i64 d] h u k' ∧ V.tu [.i .i64 r.1, .i .i64 r.2.1, .b r.2.2] = u ∧ Own (fun r => r < h.n) h k' [] := by
  refine WC.is (WC_of G_F_grid_Grid_Next ?_)
  unfold p_grid_Grid_Next at hp
  let B : Nat → Prop := (fun r => r < h.n)
  have hO : Own B h h [] := Own.start0 h
  refine W_sq ?_
  refine W_rg ?_
  refine WO_v (a_mv (v := .i .i64 0) rfl) ?_
  refine WO_v (a_mv (v := .i .i64 0) rfl) ?_
  refine WO_v (a_mv (v := .b false) rfl) ?_
  refine WO_end ?_
  refine then_n ?_
  refine W_sq ?_
  refine W_sq ?_
  refine W_rg ?_
  refine WO_v (a_mv (v := .p r_g 0) rfl) ?_
  refine WO_v (a_mv (v := .i .i64 v) rfl) ?_
  refine WO_v (a_mv (v := .i .i64 d) rfl) ?_
  obtain ⟨x, hx₁, hp⟩ := bd_some hp
  obtain ⟨u₁, k₁, ca₁, rfl, hW₁⟩ := p_grid_Grid_is.ok (h := h)  (hO.rdB0 (RdB.of b_g)).choose_spec (hO.rd0 s_g_cells.rd : Sl e_T_api_Cell h v_g_cells g.cells) hx₁
  refine WO_c (id := 75) (caps := []) rfl (mp_cons (v := .p r_g 0) rfl (mp_cons (v := .i .i64 v) rfl (mp_cons (v := .i .i64 d) rfl mp_nil))) ca₁ ?_
  have hO₁ : Own B h k₁ [] := hO.call hW₁ rfl
  refine WO_v (a_not (t := x) rfl) ?_
  refine WO_v (a_mv (v := .b (!x)) rfl) ?_
  obtain ⟨t, hv₁, hp⟩ := bd_some hp
  refine WO_cut 12 (fun fr' k' => k₁ = k' ∧ fr' 26 = .b t ∧ fr' 0 = .p r_g 0 ∧ fr' 1 = .i .i64 v ∧ fr' 2 = .i .i64 d) ?_ ?_
  · clear hp; rcases if_some hv₁ with ⟨b₁, hp⟩ | ⟨b₁, hp⟩
    · skip
      refine WO_off rfl b₁ ?_
      refine WO_off rfl b₁ ?_
      refine WO_off rfl b₁ ?_
      refine WO_off rfl b₁ ?_
      refine WO_off rfl b₁ ?_
      refine WO_off rfl b₁ ?_
      refine WO_off rfl b₁ ?_
      refine WO_off rfl b₁ ?_
      refine WO_off rfl b₁ ?_
      refine WO_off rfl b₁ ?_
      refine WO_off rfl b₁ ?_
      refine WO_v (a_pickT (t := (!x)) (v := .b t) rfl b₁ (Eq.trans (b := V.b true) rfl (congrArg V.b (Option.some.inj hp)))) ?_
      refine WO_end ?_
      exact ⟨rfl, rfl, rfl, rfl, rfl⟩
    · skip
      refine WO_on rfl b₁ ?_
      refine WO_v (a_mv (v := .p r_g 0) rfl) ?_
      refine WO_on rfl b₁ ?_
      refine WO_v (a_nilp (r := r_g) (o := 0) rfl) ?_
      refine WO_on rfl b₁ ?_
      refine WO_v (a_fa (r := r_g) (o := 0) (o' := 0) rfl rfl) ?_
      refine WO_on rfl b₁ ?_
      refine WO_v (a_ldb (cs := [v_g_cells]) (v := v_g_cells) (hO₁.rdB0 (RdB.of b_g)).choose_spec rfl rfl) ?_
      refine WO_on rfl b₁ ?_
      refine WO_v (a_mv (v := .i .i64 v) rfl) ?_
      refine WO_on rfl b₁ ?_
      refine WO_v (a_mv (v := .i .i64 d) rfl) ?_
      refine WO_on rfl b₁ ?_
      obtain ⟨c₁, hp⟩ := ck_some hp
      refine WO_v (a_ixa (E := e_T_api_Cell) (z := v) (hO₁.rd0 s_g_cells.rd : Sl e_T_api_Cell k₁ v_g_cells g.cells) rfl rfl c₁) ?_
      refine WO_on rfl b₁ ?_
      refine WO_v (a_faE (off' := 0) (off2 := 0) (hO₁.rd0 s_g_cells.rd : Sl e_T_api_Cell k₁ v_g_cells g.cells) (toNat_lt c₁) rfl rfl) ?_
      refine WO_on rfl b₁ ?_
      obtain ⟨c₂, hp⟩ := ck_some hp
      refine WO_v (a_ixaaE (off := 0) (off2 := (0 + (d : Int).toNat * 1)) (z := d) (hO₁.rd0 s_g_cells.rd : Sl e_T_api_Cell k₁ v_g_cells g.cells) (toNat_lt c₁) rfl rfl c₂ rfl) ?_
      refine WO_on rfl b₁ ?_
      refine WO_v (a_ldE (w := .i .i64 (((gi g.cells (v : Int).toNat).Next).get d)) (hO₁.rd0 s_g_cells.rd : Sl e_T_api_Cell k₁ v_g_cells g.cells) rfl (toNat_lt c₁) (ld_T_api_Cell_Next c₂)) ?_
      refine WO_on rfl b₁ ?_
      refine WO_v (a_eqI (a := (((gi g.cells (v : Int).toNat).Next).get d)) (b := (-1)) rfl rfl) ?_
      refine WO_v (a_pickF (t := (!x)) (v := .b t) rfl b₁ (Eq.trans (b := V.b (decide (((gi g.cells (v : Int).toNat).Next).get d = (-1)))) rfl (congrArg V.b (Option.some.inj hp)))) ?_
      refine WO_end ?_
      exact ⟨rfl, rfl, rfl, rfl, rfl⟩
  rintro frg₁ _ ⟨rfl, g₁_26, g₁_0, g₁_1, g₁_2⟩
  refine WO_end ?_
  refine then_n ?_
  rcases if_some hp with ⟨b₂, hp⟩ | ⟨b₂, hp⟩
  · refine W_cT (t := t) g₁_26 b₂ ?_
    refine W_sq ?_
    refine W_rg ?_
    refine WO_v (a_mv (v := .i .i64 0) rfl) ?_
    refine WO_v (a_mv (v := .i .i64 0) rfl) ?_
    refine WO_v (a_mv (v := .b false) rfl) ?_
    refine WO_end ?_
    refine then_n ?_
    refine W_rt ?_
    refine then_r ?_
    refine Ret_r (rs_t (n := 6) (v := .i .i64 0) rfl (rs_t (n := 7) (v := .i .i64 0) rfl (rs_t (n := 8) (v := .b false) rfl rs_nil))) ?_
    have hp := Option.some.inj hp; subst hp
    exact (And.intro rfl (hO₁.pick [] rfl (by decide)))
  · refine W_cF (t := t) g₁_26 b₂ ?_
    refine W_sk ?_
    refine then_n ?_
    refine W_sq ?_
    refine W_qd ?_
    have hW := hO₁.bump 23
    have hO₂ : Own B h (k₁.bump 23) [] := hW
    refine WQ_v rfl (a_mv (v := .p r_g 0) g₁_0) ?_
    refine WQ_v rfl (a_nilp (r := r_g) (o := 0) rfl) ?_
    refine WQ_v rfl (a_fa (r := r_g) (o := 0) (o' := 0) rfl rfl) ?_
    refine WQ_v rfl (a_ldb (cs := [v_g_cells]) (v := v_g_cells) (hO₂.rdB0 (RdB.of b_g)).choose_spec rfl rfl) ?_
    refine WQ_v rfl (a_mv (v := .i .i64 v) g₁_1) ?_
    refine WQ_v rfl (a_mv (v := .i .i64 d) g₁_2) ?_
    obtain ⟨c₃, hp⟩ := ck_some hp
    refine WQ_v rfl (a_ixa (E := e_T_api_Cell) (z := v) (hO₂.rd0 s_g_cells.rd : Sl e_T_api_Cell (k₁.bump 23) v_g_cells g.cells) rfl rfl c₃) ?_
    refine WQ_v rfl (a_faE (off' := 0) (off2 := 0) (hO₂.rd0 s_g_cells.rd : Sl e_T_api_Cell (k₁.bump 23) v_g_cells g.cells) (toNat_lt c₃) rfl rfl) ?_
    obtain ⟨c₄, hp⟩ := ck_some hp
    refine WQ_v rfl (a_ixaaE (off := 0) (off2 := (0 + (d : Int).toNat * 1)) (z := d) (hO₂.rd0 s_g_cells.rd : Sl e_T_api_Cell (k₁.bump 23) v_g_cells g.cells) (toNat_lt c₃) rfl rfl c₄ rfl) ?_
    refine WQ_v rfl (a_ldE (w := .i .i64 (((gi g.cells (v : Int).toNat).Next).get d)) (hO₂.rd0 s_g_cells.rd : Sl e_T_api_Cell (k₁.bump 23) v_g_cells g.cells) rfl (toNat_lt c₃) (ld_T_api_Cell_Next c₄)) ?_
    refine WQ_v rfl (a_mv (v := .p r_g 0) g₁_0) ?_
    refine WQ_v rfl (a_nilp (r := r_g) (o := 0) rfl) ?_
    refine WQ_v rfl (a_fa (r := r_g) (o := 0) (o' := 0) rfl rfl) ?_
    refine WQ_v rfl (a_ldb (cs := [v_g_cells]) (v := v_g_cells) (hO₂.rdB0 (RdB.of b_g)).choose_spec rfl rfl) ?_
    refine WQ_v rfl (a_mv (v := .i .i64 v) g₁_1) ?_
    refine WQ_v rfl (a_mv (v := .i .i64 d) g₁_2) ?_
    refine WQ_v rfl (a_ixa (E := e_T_api_Cell) (z := v) (hO₂.rd0 s_g_cells.rd : Sl e_T_api_Cell (k₁.bump 23) v_g_cells g.cells) rfl rfl c₃) ?_
    refine WQ_v rfl (a_faE (off' := 0) (off2 := 4) (hO₂.rd0 s_g_cells.rd : Sl e_T_api_Cell (k₁.bump 23) v_g_cells g.cells) (toNat_lt c₃) rfl rfl) ?_
    refine WQ_v rfl (a_ixaaE (off := 4) (off2 := (4 + (d : Int).toNat * 1)) (z := d) (hO₂.rd0 s_g_cells.rd : Sl e_T_api_Cell (k₁.bump 23) v_g_cells g.cells) (toNat_lt c₃) rfl rfl c₄ rfl) ?_
    refine WQ_v rfl (a_ldE (w := .i .i64 (((gi g.cells (v : Int).toNat).Owner).get d)) (hO₂.rd0 s_g_cells.rd : Sl e_T_api_Cell (k₁.bump 23) v_g_cells g.cells) rfl (toNat_lt c₃) (ld_T_api_Cell_Owner c₄)) ?_
    refine WQ_v rfl (a_mv (v := .i .i64 (((gi g.cells (v : Int).toNat).Next).get d)) rfl) ?_
    refine WQ_v rfl (a_mv (v := .i .i64 (((gi g.cells (v : Int).toNat).Owner).get d)) rfl) ?_
    refine WQ_v rfl (a_mv (v := .b true) rfl) ?_
    refine WQ_end ?_
    refine then_n ?_
    refine W_rt ?_
    refine Ret_r (rs_t (n := 6) (v := .i .i64 (((gi g.cells (v : Int).toNat).Next).get d)) rfl (rs_t (n := 7) (v := .i .i64 (((gi g.cells (v : Int).toNat).Owner).get d)) rfl (rs_t (n := 8) (v := .b true) rfl rs_nil))) ?_
    have hp := Option.some.inj hp; subst hp
    exact (And.intro rfl (hO₂.pick [] rfl (by decide)))

theorem p_grid_Grid_Add.ok {h : Hp} {g : T_grid_Grid} {r_g : Nat} {v_g_cells : V} (H : Own (Bm h [eBox r_g [v_g_cells], eSl e_T_api_Cell v_g_cells g.cells]) h h [eBox r_g [v_g_cells], eSl e_T_api_Cell v_g_cells g.cells]) {r : Int × Int × T_grid_Grid} (hp : p_grid_Grid_Add g = some r) :
    ∃ u k', Is G 50 [.p r_g 0] h u k' ∧ ∃ (v₁ : V), V.tu [.i .i64 r.1, .i .i64 r.2.1] = u ∧ Own (Bm h [eBox r_g [v_g_cells], eSl e_T_api_Cell v_g_cells g.cells]) h k' [eBox r_g [v₁], eSl e_T_api_Cell v₁ r.2.2.cells] := by
  refine WC.is (WC_of G_F_grid_Grid_Add ?_)
  unfold p_grid_Grid_Add at hp
  let B : Nat → Prop := (Bm h [eBox r_g [v_g_cells], eSl e_T_api_Cell v_g_cells g.cells])
  have hO : Own B h h [eBox r_g [v_g_cells], eSl e_T_api_Cell v_g_cells g.cells] := H
  refine W_sq ?_
  refine W_rg ?_
  refine WO_v (a_mv (v := .i .i64 0) rfl) ?_
  refine WO_v (a_mv (v := .i .i64 0) rfl) ?_
  refine WO_end ?_
  refine then_n ?_
  refine W_sq ?_
  refine W_bl ?_
  refine W_sq ?_
  refine W_rg ?_
  refine WO_v (a_mv (v := .p r_g 0) rfl) ?_
  refine WO_v (a_eqP rfl rfl) ?_
  refine WO_v (a_mv (v := .b false) rfl) ?_
  refine WO_end ?_
  refine then_n ?_
  refine W_cF (t := false) rfl rfl ?_
  refine W_sq ?_
  refine W_rg ?_
  refine WO_v (a_mv (v := .p r_g 0) rfl) ?_
  obtain ⟨x, hx₁, hp⟩ := bd_some hp
  obtain ⟨u₁, k₁, ca₁, rfl, hW₁⟩ := p_grid_Grid_Len.ok (h := h)  (hO.box 0 rfl) (hO.sl 1 rfl : Sl e_T_api_Cell h v_g_cells g.cells) hx₁
  refine WO_c (id := 55) (caps := []) rfl (mp_cons (v := .p r_g 0) rfl mp_nil) ca₁ ?_
  have hO₁ : Own B h k₁ [eBox r_g [v_g_cells], eSl e_T_api_Cell v_g_cells g.cells] := hO.call hW₁ rfl
  refine WO_v (a_eqI (a := x) (b := 4096) rfl rfl) ?_
  refine WO_v (a_mv (v := .b (decide (x = 4096))) rfl) ?_
  refine WO_end ?_
  refine then_n ?_
  rcases if_some hp with ⟨b₁, hp⟩ | ⟨b₁, hp⟩
  · refine W_cT (t := (decide (x = 4096))) rfl b₁ ?_
    refine W_sq ?_
    refine W_rg ?_
    refine WO_v (a_mv (v := .i .i64 0) rfl) ?_
    refine WO_v (a_mv (v := .i .i64 6) rfl) ?_
    refine WO_end ?_
    refine then_n ?_
    refine W_rt ?_
    refine blk_r ?_
    refine then_r ?_
    refine Ret_r (rs_t (n := 2) (v := .i .i64 0) rfl (rs_t (n := 3) (v := .i .i64 6) rfl rs_nil)) ?_
    have hp := Option.some.inj hp; subst hp
    exact (Exists.intro v_g_cells (And.intro rfl (hO₁.pick [0, 1] rfl (by decide))))
  · refine W_cF (t := (decide (x = 4096))) rfl b₁ ?_
    refine W_sk ?_
    refine blk_n ?_
    refine then_n ?_
    refine W_sq ?_
    refine W_dr ?_
    have hW := hO₁.bump 11
    have fr₁ := Fresh.start k₁ 11
    have nb₁ : ∀ {i : Nat}, h.n ≤ k₁.n + i := Nat.le_trans hO₁.n (Nat.le_add_right _ _)
    have hO₂ : Own B h (k₁.bump 11) [eBox r_g [v_g_cells], eSl e_T_api_Cell v_g_cells g.cells] := hW
    refine WD_v (a_mv (v := .p r_g 0) rfl) ?_
    refine WD_v (a_mv (v := .p r_g 0) rfl) ?_
    refine WD_v (a_nilp (r := r_g) (o := 0) rfl) ?_
    refine WD_v (a_fa (r := r_g) (o := 0) (o' := 0) rfl rfl) ?_
    refine WD_v (a_ldb (cs := [v_g_cells]) (v := v_g_cells) (hO₂.box 0 rfl) rfl rfl) ?_
    obtain ⟨x1, hx₂, hp⟩ := bd_some hp
    obtain ⟨u₂, k₃, ca₂, rfl, hW₂⟩ := p_grid_empty.ok (h := (k₁.bump 11))   hx₂
    refine WD_c (id := 74) (caps := []) rfl mp_nil ca₂ ?_
    have fr₂ := fr₁.call hW₂
    have hO₃ : Own B h k₃ [eBox r_g [v_g_cells], eSl e_T_api_Cell v_g_cells g.cells] := hO₂.call hW₂ rfl
    refine WD_x (hO₃.bsl (E := e_T_api_Cell) (l := [x1]) ⟨fr₂.m 6 (by decide) (by decide), nb₁⟩ (by rw [(ev_cons (v := .ag (e_T_api_Cell.c x1)) rfl ev_nil)]; rfl) rfl) ?_
    rintro v₂ k₄ z₁ ⟨r₁, f₁, hW⟩
    have fr₃ := fr₂.kept f₁ (by decide)
    have hO₄ : Own B h k₄ [eBox r_g [v_g_cells], eSl e_T_api_Cell v_g_cells g.cells, eSl e_T_api_Cell v₂ [x1]] := hW
    obtain ⟨c₁, hp⟩ := ck_some hp
    refine WD_x (hO₄.app (E := e_T_api_Cell) (bytes := 64) 1 ⟨fr₃.m 7 (by decide) (by decide), nb₁⟩ rfl (hO₄.sl 2 rfl : Sl e_T_api_Cell k₄ v₂ [x1]) rfl rfl (fun _ => rfl) c₁ (by decide)) ?_
    rintro v₃ k₅ z₂ ⟨f₂, hW⟩
    have fr₄ := fr₃.kept f₂ (by decide)
    have hO₅ : Own B h k₅ [eBox r_g [v_g_cells], eSl e_T_api_Cell v₃ (g.cells ++ [x1]), eSl e_T_api_Cell v₂ [x1]] := hW
    refine WD_v (a_nilp (r := r_g) (o := 0) rfl) ?_
    refine WD_v (a_fa (r := r_g) (o := 0) (o' := 0) rfl rfl) ?_
    refine WD_x (hO₅.stb (ws := [v₃]) (cs' := [v₃]) (v := v₃) 0 rfl rfl rfl (hO₅.sl 1 rfl : Sl e_T_api_Cell k₅ v₃ (g.cells ++ [x1])).cells ⟨rfl, Nat.le_of_ble_eq_true rfl, (all_cons (hO₅.sl 1 rfl : Sl e_T_api_Cell k₅ v₃ (g.cells ++ [x1])).oneV rfl)⟩ rfl) ?_
    rintro _ k₆ z₃ ⟨rfl, f₃, m₁, hW⟩
    have fr₅ := fr₄.kept f₃ (by decide)
    have hO₆ : Own B h k₆ [eBox r_g [v₃], eSl e_T_api_Cell v₃ (g.cells ++ [x1]), eSl e_T_api_Cell v₂ [x1]] := hW
    refine WD_end ?_
    refine And.intro ?_ ?_
    · intro q hq
      simp only [List.mem_cons, List.not_mem_nil, or_false] at hq
      rcases hq with rfl | rfl
      · refine ap_ol rfl rfl ?_
        · exact (fun r hm hc => hc (hW₂.base r (Nat.lt_of_lt_of_le (hO₁.ltAt 0 rfl _ (tch (v := V.p r_g 0) (ld_el hm) rfl)) (Nat.le_trans (Nat.le_add_right _ _) fr₁.n))))
      · refine ap_ll ?_ ?_
        · exact (fun h => nomatch h)
        · exact (fun _ hm => Nat.lt_irrefl _ (Nat.lt_of_lt_of_le (hO₁.ltAt 0 rfl _ (tch (v := V.p r_g 0) (ld_el hm) rfl)) (Nat.le_add_right _ _)))
    refine then_n ?_
    refine W_sq ?_
    refine W_rg ?_
    refine WO_v (a_mv (v := .p r_g 0) rfl) ?_
    obtain ⟨x2, hx₃, hp⟩ := bd_some hp
    obtain ⟨u₃, k₇, ca₃, rfl, hW₃⟩ := p_grid_Grid_Len.ok (h := k₆)  (hO₆.box 0 rfl) (hO₆.sl 1 rfl : Sl e_T_api_Cell k₆ v₃ (g.cells ++ [x1])) hx₃
    refine WO_c (id := 55) (caps := []) rfl (mp_cons (v := .p r_g 0) rfl mp_nil) ca₃ ?_
    have hO₇ : Own B h k₇ [eBox r_g [v₃], eSl e_T_api_Cell v₃ (g.cells ++ [x1]), eSl e_T_api_Cell v₂ [x1]] := hO₆.call hW₃ rfl
    obtain ⟨c₂, hp⟩ := ck_some hp
    refine WO_v (a_sub (a := x2) (b := 1) rfl rfl c₂) ?_
    refine WO_v (a_mv (v := .i .i64 (x2 - 1)) rfl) ?_
    refine WO_v (a_mv (v := .i .i64 0) rfl) ?_
    refine WO_end ?_
    refine then_n ?_
    refine W_rt ?_
    refine Ret_r (rs_t (n := 2) (v := .i .i64 (x2 - 1)) rfl (rs_t (n := 3) (v := .i .i64 0) rfl rs_nil)) ?_
    have hp := Option.some.inj hp; subst hp
    exact (Exists.intro v₃ (And.intro rfl (hO₇.pick [0, 1] rfl (by decide))))

theorem p_grid_Grid_Split.ok {h : Hp} {g : T_grid_Grid} {v : Int} {d : Int} {r_g : Nat} {v_g_cells : V} (H : Own (Bm h [eBox r_g [v_g_cells], eSl e_T_api_Cell v_g_cells g.cells]) h h [eBox r_g [v_g_cells], eSl e_T_api_Cell v_g_cells g.cells]) {r : Int × Int × T_grid_Grid} (hp : p_grid_Grid_Split g v d = some r) :
    ∃ u k', Is G 48 [.p r_g 0, .i .i64 v, .i .i64 d] h u k' ∧ ∃ (v₁ : V), V.tu [.i .i64 r.1, .i .i64 r.2.1] = u ∧ Own (Bm h [eBox r_g [v_g_cells], eSl e_T_api_Cell v_g_cells g.cells]) h k' [eBox r_g [v₁], eSl e_T_api_Cell v₁ r.2.2.cells] := by
  refine WC.is (WC_of G_F_grid_Grid_Split ?_)
  unfold p_grid_Grid_Split at hp
  let B : Nat → Prop := (Bm h [eBox r_g [v_g_cells], eSl e_T_api_Cell v_g_cells g.cells])
  have hO : Own B h h [eBox r_g [v_g_cells], eSl e_T_api_Cell v_g_cells g.cells] := H
  refine W_sq ?_
  refine W_rg ?_
  refine WO_v (a_mv (v := .i .i64 0) rfl) ?_
  refine WO_v (a_mv (v := .i .i64 0) rfl) ?_
  refine WO_end ?_
  refine then_n ?_
  refine W_sq ?_
  refine W_bl ?_
  refine W_sq ?_
  refine W_rg ?_
  refine WO_v (a_mv (v := .p r_g 0) rfl) ?_
  refine WO_v (a_eqP rfl rfl) ?_
  refine WO_v (a_mv (v := .b false) rfl) ?_
  refine WO_end ?_
  refine then_n ?_
  refine W_cF (t := false) rfl rfl ?_
  refine W_sq ?_
  refine W_rg ?_
  refine WO_v (a_mv (v := .p r_g 0) rfl) ?_
  refine WO_v (a_mv (v := .i .i64 v) rfl) ?_
  refine WO_v (a_mv (v := .i .i64 d) rfl) ?_
  obtain ⟨x, hx₁, hp⟩ := bd_some hp
  obtain ⟨u₁, k₁, ca₁, rfl, hW₁⟩ := p_grid_Grid_is.ok (h := h)  (hO.box 0 rfl) (hO.sl 1 rfl : Sl e_T_api_Cell h v_g_cells g.cells) hx₁
  refine WO_c (id := 75) (caps := []) rfl (mp_cons (v := .p r_g 0) rfl (mp_cons (v := .i .i64 v) rfl (mp_cons (v := .i .i64 d) rfl mp_nil))) ca₁ ?_
  have hO₁ : Own B h k₁ [eBox r_g [v_g_cells], eSl e_T_api_Cell v_g_cells g.cells] := hO.call hW₁ rfl
  refine WO_v (a_not (t := x) rfl) ?_
  refine WO_v (a_mv (v := .b (!x)) rfl) ?_
  refine WO_end ?_
  refine then_n ?_
  rcases if_some hp with ⟨b₁, hp⟩ | ⟨b₁, hp⟩
  · refine W_cT (t := (!x)) rfl b₁ ?_
    refine W_sq ?_
    refine W_rg ?_
    refine WO_v (a_mv (v := .i .i64 0) rfl) ?_
    refine WO_v (a_mv (v := .i .i64 2) rfl) ?_
    refine WO_end ?_
    refine then_n ?_
    refine W_rt ?_
    refine blk_r ?_
    refine then_r ?_
    refine Ret_r (rs_t (n := 6) (v := .i .i64 0) rfl (rs_t (n := 7) (v := .i .i64 2) rfl rs_nil)) ?_
    have hp := Option.some.inj hp; subst hp
    exact (Exists.intro v_g_cells (And.intro rfl (hO₁.pick [0, 1] rfl (by decide))))
  · refine W_cF (t := (!x)) rfl b₁ ?_
    refine W_sk ?_
    refine blk_n ?_
    refine then_n ?_
    refine W_sq ?_
    refine W_rg ?_
    refine WO_v (a_mv (v := .p r_g 0) rfl) ?_
    refine WO_v (a_mv (v := .i .i64 v) rfl) ?_
    refine WO_v (a_mv (v := .i .i64 d) rfl) ?_
    obtain ⟨⟨x1, x2, x3⟩, hx₂, hp⟩ := bd_some hp
    obtain ⟨u₂, k₂, ca₂, rfl, hW₂⟩ := p_grid_Grid_Next.ok (h := k₁)  (hO₁.box 0 rfl) (hO₁.sl 1 rfl : Sl e_T_api_Cell k₁ v_g_cells g.cells) hx₂
    refine WO_c (id := 54) (caps := []) rfl (mp_cons (v := .p r_g 0) rfl (mp_cons (v := .i .i64 v) rfl (mp_cons (v := .i .i64 d) rfl mp_nil))) ca₂ ?_
    have hO₂ : Own B h k₂ [eBox r_g [v_g_cells], eSl e_T_api_Cell v_g_cells g.cells] := hO₁.call hW₂ rfl
    refine WO_v (a_mv (v := .tu [.i .i64 x1, .i .i64 x2, .b x3]) rfl) ?_
    refine WO_v (a_ext (vs := [.i .i64 x1, .i .i64 x2, .b x3]) (v := .i .i64 x1) rfl rfl) ?_
    refine WO_v (a_ext (vs := [.i .i64 x1, .i .i64 x2, .b x3]) (v := .i .i64 x2) rfl rfl) ?_
    refine WO_v (a_ext (vs := [.i .i64 x1, .i .i64 x2, .b x3]) (v := .b x3) rfl rfl) ?_
    refine WO_v (a_mv (v := .i .i64 x1) rfl) ?_
    refine WO_v (a_mv (v := .i .i64 x2) rfl) ?_
    refine WO_v (a_mv (v := .b x3) rfl) ?_
    refine WO_end ?_
    refine then_n ?_
    refine W_sq ?_
    refine W_sq ?_
    refine W_rg ?_
    refine WO_v (a_mv (v := .b x3) rfl) ?_
    refine WO_v (a_not (t := x3) rfl) ?_
    refine WO_end ?_
    refine then_n ?_
    rcases if_some hp with ⟨b₂, hp⟩ | ⟨b₂, hp⟩
    · refine W_cT (t := (!x3)) rfl b₂ ?_
      refine W_sq ?_
      refine W_rg ?_
      refine WO_v (a_mv (v := .i .i64 0) rfl) ?_
      refine WO_v (a_mv (v := .i .i64 9) rfl) ?_
      refine WO_end ?_
      refine then_n ?_
      refine W_rt ?_
      refine then_r ?_
      refine Ret_r (rs_t (n := 6) (v := .i .i64 0) rfl (rs_t (n := 7) (v := .i .i64 9) rfl rs_nil)) ?_
      have hp := Option.some.inj hp; subst hp
      exact (Exists.intro v_g_cells (And.intro rfl (hO₂.pick [0, 1] rfl (by decide))))
    · refine W_cF (t := (!x3)) rfl b₂ ?_
      refine W_sk ?_
      refine then_n ?_
      refine W_sq ?_
      refine W_rg ?_
      refine WO_v (a_mv (v := .p r_g 0) rfl) ?_
      obtain ⟨⟨x4, x5, m⟩, hx₃, hp⟩ := bd_some hp
      obtain ⟨u₃, k₃, ca₃, v₂, rfl, hW₃⟩ := p_grid_Grid_Add.ok (h := k₂) (g := g) (hO₂.toM [0, 1] rfl (by decide))  hx₃
      refine WO_c (id := 50) (caps := []) rfl (mp_cons (v := .p r_g 0) rfl mp_nil) ca₃ ?_
      have hO₃ : Own B h k₃ [eBox r_g [v₂], eSl e_T_api_Cell v₂ m.cells] := (hO₂.callM [0, 1] [] rfl rfl (by decide) hW₃ rfl).pick [0, 1] rfl (by decide)
      refine WO_v (a_mv (v := .tu [.i .i64 x4, .i .i64 x5]) rfl) ?_
      refine WO_v (a_ext (vs := [.i .i64 x4, .i .i64 x5]) (v := .i .i64 x4) rfl rfl) ?_
      refine WO_v (a_ext (vs := [.i .i64 x4, .i .i64 x5]) (v := .i .i64 x5) rfl rfl) ?_
      refine WO_v (a_mv (v := .i .i64 x4) rfl) ?_
      refine WO_v (a_mv (v := .i .i64 x5) rfl) ?_
      refine WO_end ?_
      refine then_n ?_
      refine W_sq ?_
      refine W_sq ?_
      refine W_rg ?_
      refine WO_v (a_mv (v := .i .i64 x5) rfl) ?_
      refine WO_v (a_neI (a := x5) (b := 0) rfl rfl) ?_
      refine WO_end ?_
      refine then_n ?_
      rcases if_some hp with ⟨b₃, hp⟩ | ⟨b₃, hp⟩
      · refine W_cT (t := (!(decide (x5 = 0)))) rfl b₃ ?_
        refine W_sq ?_
        refine W_rg ?_
        refine WO_v (a_mv (v := .i .i64 x5) rfl) ?_
        refine WO_v (a_mv (v := .i .i64 0) rfl) ?_
        refine WO_v (a_mv (v := .i .i64 x5) rfl) ?_
        refine WO_end ?_
        refine then_n ?_
        refine W_rt ?_
        refine then_r ?_
        refine Ret_r (rs_t (n := 6) (v := .i .i64 0) rfl (rs_t (n := 7) (v := .i .i64 x5) rfl rs_nil)) ?_
        have hp := Option.some.inj hp; subst hp
        exact (Exists.intro v₂ (And.intro rfl (hO₃.pick [0, 1] rfl (by decide))))
      · refine W_cF (t := (!(decide (x5 = 0)))) rfl b₃ ?_
        refine W_sk ?_
        refine then_n ?_
        refine W_sq ?_
        refine W_rg ?_
        refine WO_v (a_mv (v := .p r_g 0) rfl) ?_
        refine WO_v (a_mv (v := .i .i64 v) rfl) ?_
        refine WO_v (a_mv (v := .i .i64 d) rfl) ?_
        refine WO_v (a_mv (v := .i .i64 x4) rfl) ?_
        refine WO_v (a_mv (v := .i .i64 x2) rfl) ?_
        obtain ⟨m1, hx₄, hp⟩ := bd_some hp
        obtain ⟨u₄, k₄, ca₄, v₃, rfl, hW₄⟩ := p_grid_Grid_lay.ok (h := k₃) (g := m) (v := v) (d := d) (w := x4) (owner := x2) (hO₃.toM [0, 1] rfl (by decide))  hx₄
        refine WO_c (id := 76) (caps := []) rfl (mp_cons (v := .p r_g 0) rfl (mp_cons (v := .i .i64 v) rfl (mp_cons (v := .i .i64 d) rfl (mp_cons (v := .i .i64 x4) rfl (mp_cons (v := .i .i64 x2) rfl mp_nil))))) ca₄ ?_
        have hO₄ : Own B h k₄ [eBox r_g [v₃], eSl e_T_api_Cell v₃ m1.cells] := (hO₃.callM [0, 1] [] rfl rfl (by decide) hW₄ rfl).pick [0, 1] rfl (by decide)
        refine WO_end ?_
        refine then_n ?_
        refine W_sq ?_
        refine W_rg ?_
        refine WO_v (a_mv (v := .p r_g 0) rfl) ?_
        refine WO_v (a_mv (v := .i .i64 x4) rfl) ?_
        refine WO_v (a_mv (v := .i .i64 d) rfl) ?_
        refine WO_v (a_mv (v := .i .i64 x1) rfl) ?_
        refine WO_v (a_mv (v := .i .i64 x2) rfl) ?_
        obtain ⟨m2, hx₅, hp⟩ := bd_some hp
        obtain ⟨u₅, k₅, ca₅, v₄, rfl, hW₅⟩ := p_grid_Grid_lay.ok (h := k₄) (g := m1) (v := x4) (d := d) (w := x1) (owner := x2) (hO₄.toM [0, 1] rfl (by decide))  hx₅
        refine WO_c (id := 76) (caps := []) rfl (mp_cons (v := .p r_g 0) rfl (mp_cons (v := .i .i64 x4) rfl (mp_cons (v := .i .i64 d) rfl (mp_cons (v := .i .i64 x1) rfl (mp_cons (v := .i .i64 x2) rfl mp_nil))))) ca₅ ?_
        have hO₅ : Own B h k₅ [eBox r_g [v₄], eSl e_T_api_Cell v₄ m2.cells] := (hO₄.callM [0, 1] [] rfl rfl (by decide) hW₅ rfl).pick [0, 1] rfl (by decide)
        refine WO_end ?_
        refine then_n ?_
        refine W_sq ?_
        refine W_rg ?_
        refine WO_v (a_mv (v := .i .i64 x4) rfl) ?_
        refine WO_v (a_mv (v := .i .i64 x4) rfl) ?_
        refine WO_v (a_mv (v := .i .i64 0) rfl) ?_
        refine WO_end ?_
        refine then_n ?_
        refine W_rt ?_
        refine Ret_r (rs_t (n := 6) (v := .i .i64 x4) rfl (rs_t (n := 7) (v := .i .i64 0) rfl rs_nil)) ?_
        have hp := Option.some.inj hp; subst hp
        exact (Exists.intro v₄ (And.intro rfl (hO₅.pick [0, 1] rfl (by decide))))

theorem p_muntinlaw10_wakes.ok {h : Hp}    {r : Bool} (hp : p_muntinlaw10_wakes  = some r) :
    ∃ u k', Is G 47 [] h u k' ∧ V.b r = u ∧ Own (fun r => r < h.n) h k' [] := by
  refine WC.is (WC_of G_F_muntinlaw10_wakes ?_)
  unfold p_muntinlaw10_wakes at hp
  let B : Nat → Prop := (fun r => r < h.n)
  have hO : Own B h h [] := Own.start0 h
  refine W_sq ?_
  refine W_rg ?_
  refine WO_v (a_mv (v := .b false) rfl) ?_
  refine WO_end ?_
  refine then_n ?_
  refine W_sq ?_
  refine W_rg ?_
  obtain ⟨⟨x, x1⟩, hx₁, hp⟩ := bd_some hp
  obtain ⟨u₁, k₁, ca₁, r₁, v₁, rfl, hW₁⟩ := p_grid_New.ok (h := h)   hx₁
  refine WO_c (id := 45) (caps := []) rfl (mp_cons (v := .i .i64 2) rfl mp_nil) ca₁ ?_
  have hO₁ : Own B h k₁ [eIf (x).isSome (eBox r₁ [v₁]), eIf (x).isSome (eSl e_T_api_Cell v₁ ((x.getD default).cells))] := hO.call hW₁ rfl
  refine WO_v (a_mv (v := .tu [(if (x).isSome = true then V.p r₁ 0 else V.pn), .i .i64 x1]) rfl) ?_
  refine WO_v (a_ext (vs := [(if (x).isSome = true then V.p r₁ 0 else V.pn), .i .i64 x1]) (v := (if (x).isSome = true then V.p r₁ 0 else V.pn)) rfl rfl) ?_
  refine WO_v (a_ext (vs := [(if (x).isSome = true then V.p r₁ 0 else V.pn), .i .i64 x1]) (v := .i .i64 x1) rfl rfl) ?_
  refine WO_v (a_mv (v := (if (x).isSome = true then V.p r₁ 0 else V.pn)) rfl) ?_
  refine WO_v (a_mv (v := .i .i64 x1) rfl) ?_
  refine WO_end ?_
  refine then_n ?_
  refine W_sq ?_
  refine W_rg ?_
  refine WO_v (a_mv (v := (if (x).isSome = true then V.p r₁ 0 else V.pn)) rfl) ?_
  obtain ⟨g, hg₁, hp⟩ := bd_some hp
  replace hg₁ : x = some g := hg₁
  have hO₂ : Own B h k₁ [eBox r₁ [v₁], eSl e_T_api_Cell v₁ g.cells] := by have hq := hO₁; rw [hg₁] at hq; exact hq
  obtain ⟨⟨x2, m⟩, hx₂, hp⟩ := bd_some hp
  obtain ⟨u₂, k₂, ca₂, v₂, rfl, hW₂⟩ := p_grid_Grid_Join.ok (h := k₁) (g := g) (v := 0) (d := 0) (w := 1) (owner := 0) (hO₂.toM [0, 1] rfl (by decide))  hx₂
  refine WO_c (id := 52) (caps := []) rfl (mp_cons (v := .p r₁ 0) (unw hg₁) (mp_cons (v := .i .i64 0) rfl (mp_cons (v := .i .i64 0) rfl (mp_cons (v := .i .i64 1) rfl (mp_cons (v := .i .i64 0) rfl mp_nil))))) ca₂ ?_
  have hO₃ : Own B h k₂ [eBox r₁ [v₂], eSl e_T_api_Cell v₂ m.cells] := (hO₂.callM [0, 1] [] rfl rfl (by decide) hW₂ rfl).pick [0, 1] rfl (by decide)
  refine WO_v (a_mv (v := .i .i64 x2) rfl) ?_
  refine WO_end ?_
  refine then_n ?_
  refine W_sq ?_
  refine W_rg ?_
  refine WO_v (a_mv (v := .p r₁ 0) (unw hg₁)) ?_
  obtain ⟨⟨x3, x4, m1⟩, hx₃, hp⟩ := bd_some hp
  obtain ⟨u₃, k₃, ca₃, v₃, rfl, hW₃⟩ := p_grid_Grid_Split.ok (h := k₂) (g := m) (v := 0) (d := 0) (hO₃.toM [0, 1] rfl (by decide))  hx₃
  refine WO_c (id := 48) (caps := []) rfl (mp_cons (v := .p r₁ 0) rfl (mp_cons (v := .i .i64 0) rfl (mp_cons (v := .i .i64 0) rfl mp_nil))) ca₃ ?_
  have hO₄ : Own B h k₃ [eBox r₁ [v₃], eSl e_T_api_Cell v₃ m1.cells] := (hO₃.callM [0, 1] [] rfl rfl (by decide) hW₃ rfl).pick [0, 1] rfl (by decide)
  refine WO_v (a_mv (v := .tu [.i .i64 x3, .i .i64 x4]) rfl) ?_
  refine WO_v (a_ext (vs := [.i .i64 x3, .i .i64 x4]) (v := .i .i64 x3) rfl rfl) ?_
  refine WO_v (a_ext (vs := [.i .i64 x3, .i .i64 x4]) (v := .i .i64 x4) rfl rfl) ?_
  refine WO_v (a_mv (v := .i .i64 x3) rfl) ?_
  refine WO_v (a_mv (v := .i .i64 x4) rfl) ?_
  refine WO_end ?_
  refine then_n ?_
  refine W_sq ?_
  refine W_rg ?_
  refine WO_v (a_mv (v := .p r₁ 0) (unw hg₁)) ?_
  obtain ⟨⟨x5, x6, x7⟩, hx₄, hp⟩ := bd_some hp
  obtain ⟨u₄, k₄, ca₄, rfl, hW₄⟩ := p_grid_Grid_Next.ok (h := k₃)  (hO₄.box 0 rfl) (hO₄.sl 1 rfl : Sl e_T_api_Cell k₃ v₃ m1.cells) hx₄
  refine WO_c (id := 54) (caps := []) rfl (mp_cons (v := .p r₁ 0) rfl (mp_cons (v := .i .i64 2) rfl (mp_cons (v := .i .i64 0) rfl mp_nil))) ca₄ ?_
  have hO₅ : Own B h k₄ [eBox r₁ [v₃], eSl e_T_api_Cell v₃ m1.cells] := hO₄.call hW₄ rfl
  refine WO_v (a_mv (v := .tu [.i .i64 x5, .i .i64 x6, .b x7]) rfl) ?_
  refine WO_v (a_ext (vs := [.i .i64 x5, .i .i64 x6, .b x7]) (v := .i .i64 x5) rfl rfl) ?_
  refine WO_v (a_ext (vs := [.i .i64 x5, .i .i64 x6, .b x7]) (v := .i .i64 x6) rfl rfl) ?_
  refine WO_v (a_ext (vs := [.i .i64 x5, .i .i64 x6, .b x7]) (v := .b x7) rfl rfl) ?_
  refine WO_v (a_mv (v := .i .i64 x5) rfl) ?_
  refine WO_v (a_mv (v := .i .i64 x6) rfl) ?_
  refine WO_v (a_mv (v := .b x7) rfl) ?_
  refine WO_end ?_
  refine then_n ?_
  refine W_sq ?_
  refine W_rg ?_
  obtain ⟨⟨x8, x9⟩, hx₅, hp⟩ := bd_some hp
  obtain ⟨u₅, k₅, ca₅, r₂, v₄, rfl, hW₅⟩ := p_grid_New.ok (h := k₄)   hx₅
  refine WO_c (id := 45) (caps := []) rfl (mp_cons (v := .i .i64 (-1)) rfl mp_nil) ca₅ ?_
  have hO₆ : Own B h k₅ [eBox r₁ [v₃], eSl e_T_api_Cell v₃ m1.cells, eIf (x8).isSome (eBox r₂ [v₄]), eIf (x8).isSome (eSl e_T_api_Cell v₄ ((x8.getD default).cells))] := hO₅.call hW₅ rfl
  refine WO_v (a_mv (v := .tu [(if (x8).isSome = true then V.p r₂ 0 else V.pn), .i .i64 x9]) rfl) ?_
  refine WO_v (a_ext (vs := [(if (x8).isSome = true then V.p r₂ 0 else V.pn), .i .i64 x9]) (v := (if (x8).isSome = true then V.p r₂ 0 else V.pn)) rfl rfl) ?_
  refine WO_v (a_ext (vs := [(if (x8).isSome = true then V.p r₂ 0 else V.pn), .i .i64 x9]) (v := .i .i64 x9) rfl rfl) ?_
  refine WO_v (a_mv (v := (if (x8).isSome = true then V.p r₂ 0 else V.pn)) rfl) ?_
  refine WO_v (a_mv (v := .i .i64 x9) rfl) ?_
  refine WO_end ?_
  refine then_n ?_
  refine W_sq ?_
  refine W_rg ?_
  refine WO_v (a_mv (v := .i .i64 x1) rfl) ?_
  refine WO_v (a_eqI (a := x1) (b := 0) rfl rfl) ?_
  refine WO_v (a_mv (v := .b (decide (x1 = 0))) rfl) ?_
  refine WO_cut 3 (fun fr' k' => k₅ = k' ∧ fr' 37 = .b ((decide (x1 = 0)) && (decide (x2 = 0))) ∧ fr' 10 = .i .i64 x9 ∧ fr' 4 = .i .i64 x3 ∧ fr' 5 = .i .i64 x4 ∧ fr' 6 = .i .i64 x5 ∧ fr' 7 = .i .i64 x6 ∧ fr' 8 = .b x7) ?_ ?_
  · rcases bc (decide (x1 = 0)) with b₁ | b₁
    · skip
      refine WO_on rfl b₁ ?_
      refine WO_v (a_mv (v := .i .i64 x2) rfl) ?_
      refine WO_on rfl b₁ ?_
      refine WO_v (a_eqI (a := x2) (b := 0) rfl rfl) ?_
      refine WO_v (a_pickT (t := (decide (x1 = 0))) (v := .b ((decide (x1 = 0)) && (decide (x2 = 0)))) rfl b₁ (Eq.trans (b := V.b (decide (x2 = 0))) rfl (and_on b₁))) ?_
      refine WO_end ?_
      exact ⟨rfl, rfl, rfl, rfl, rfl, rfl, rfl, rfl⟩
    · skip
      refine WO_off rfl b₁ ?_
      refine WO_off rfl b₁ ?_
      refine WO_v (a_pickF (t := (decide (x1 = 0))) (v := .b ((decide (x1 = 0)) && (decide (x2 = 0)))) rfl b₁ (Eq.trans (b := V.b false) rfl (and_off b₁))) ?_
      refine WO_end ?_
      exact ⟨rfl, rfl, rfl, rfl, rfl, rfl, rfl, rfl⟩
  rintro frg₁ _ ⟨rfl, g₁_37, g₁_10, g₁_4, g₁_5, g₁_6, g₁_7, g₁_8⟩
  refine WO_v (a_mv (v := .b ((decide (x1 = 0)) && (decide (x2 = 0)))) g₁_37) ?_
  refine WO_cut 3 (fun fr' k' => k₅ = k' ∧ fr' 41 = .b (((decide (x1 = 0)) && (decide (x2 = 0))) && (decide (x3 = 2))) ∧ fr' 10 = .i .i64 x9 ∧ fr' 5 = .i .i64 x4 ∧ fr' 6 = .i .i64 x5 ∧ fr' 7 = .i .i64 x6 ∧ fr' 8 = .b x7) ?_ ?_
  · rcases bc ((decide (x1 = 0)) && (decide (x2 = 0))) with b₂ | b₂
    · skip
      refine WO_on rfl b₂ ?_
      refine WO_v (a_mv (v := .i .i64 x3) g₁_4) ?_
      refine WO_on rfl b₂ ?_
      refine WO_v (a_eqI (a := x3) (b := 2) rfl rfl) ?_
      refine WO_v (a_pickT (t := ((decide (x1 = 0)) && (decide (x2 = 0)))) (v := .b (((decide (x1 = 0)) && (decide (x2 = 0))) && (decide (x3 = 2)))) rfl b₂ (Eq.trans (b := V.b (decide (x3 = 2))) rfl (and_on b₂))) ?_
      refine WO_end ?_
      exact ⟨rfl, rfl, g₁_10, g₁_5, g₁_6, g₁_7, g₁_8⟩
    · skip
      refine WO_off rfl b₂ ?_
      refine WO_off rfl b₂ ?_
      refine WO_v (a_pickF (t := ((decide (x1 = 0)) && (decide (x2 = 0)))) (v := .b (((decide (x1 = 0)) && (decide (x2 = 0))) && (decide (x3 = 2)))) rfl b₂ (Eq.trans (b := V.b false) rfl (and_off b₂))) ?_
      refine WO_end ?_
      exact ⟨rfl, rfl, g₁_10, g₁_5, g₁_6, g₁_7, g₁_8⟩
  rintro frg₂ _ ⟨rfl, g₂_41, g₂_10, g₂_5, g₂_6, g₂_7, g₂_8⟩
  refine WO_v (a_mv (v := .b (((decide (x1 = 0)) && (decide (x2 = 0))) && (decide (x3 = 2)))) g₂_41) ?_
  refine WO_cut 3 (fun fr' k' => k₅ = k' ∧ fr' 45 = .b ((((decide (x1 = 0)) && (decide (x2 = 0))) && (decide (x3 = 2))) && (decide (x4 = 0))) ∧ fr' 10 = .i .i64 x9 ∧ fr' 6 = .i .i64 x5 ∧ fr' 7 = .i .i64 x6 ∧ fr' 8 = .b x7) ?_ ?_
  · rcases bc (((decide (x1 = 0)) && (decide (x2 = 0))) && (decide (x3 = 2))) with b₃ | b₃
    · skip
      refine WO_on rfl b₃ ?_
      refine WO_v (a_mv (v := .i .i64 x4) g₂_5) ?_
      refine WO_on rfl b₃ ?_
      refine WO_v (a_eqI (a := x4) (b := 0) rfl rfl) ?_
      refine WO_v (a_pickT (t := (((decide (x1 = 0)) && (decide (x2 = 0))) && (decide (x3 = 2)))) (v := .b ((((decide (x1 = 0)) && (decide (x2 = 0))) && (decide (x3 = 2))) && (decide (x4 = 0)))) rfl b₃ (Eq.trans (b := V.b (decide (x4 = 0))) rfl (and_on b₃))) ?_
      refine WO_end ?_
      exact ⟨rfl, rfl, g₂_10, g₂_6, g₂_7, g₂_8⟩
    · skip
      refine WO_off rfl b₃ ?_
      refine WO_off rfl b₃ ?_
      refine WO_v (a_pickF (t := (((decide (x1 = 0)) && (decide (x2 = 0))) && (decide (x3 = 2)))) (v := .b ((((decide (x1 = 0)) && (decide (x2 = 0))) && (decide (x3 = 2))) && (decide (x4 = 0)))) rfl b₃ (Eq.trans (b := V.b false) rfl (and_off b₃))) ?_
      refine WO_end ?_
      exact ⟨rfl, rfl, g₂_10, g₂_6, g₂_7, g₂_8⟩
  rintro frg₃ _ ⟨rfl, g₃_45, g₃_10, g₃_6, g₃_7, g₃_8⟩
  refine WO_v (a_mv (v := .b ((((decide (x1 = 0)) && (decide (x2 = 0))) && (decide (x3 = 2))) && (decide (x4 = 0)))) g₃_45) ?_
  refine WO_cut 3 (fun fr' k' => k₅ = k' ∧ fr' 49 = .b (((((decide (x1 = 0)) && (decide (x2 = 0))) && (decide (x3 = 2))) && (decide (x4 = 0))) && (decide (x5 = 1))) ∧ fr' 10 = .i .i64 x9 ∧ fr' 7 = .i .i64 x6 ∧ fr' 8 = .b x7) ?_ ?_
  · rcases bc ((((decide (x1 = 0)) && (decide (x2 = 0))) && (decide (x3 = 2))) && (decide (x4 = 0))) with b₄ | b₄
    · skip
      refine WO_on rfl b₄ ?_
      refine WO_v (a_mv (v := .i .i64 x5) g₃_6) ?_
      refine WO_on rfl b₄ ?_
      refine WO_v (a_eqI (a := x5) (b := 1) rfl rfl) ?_
      refine WO_v (a_pickT (t := ((((decide (x1 = 0)) && (decide (x2 = 0))) && (decide (x3 = 2))) && (decide (x4 = 0)))) (v := .b (((((decide (x1 = 0)) && (decide (x2 = 0))) && (decide (x3 = 2))) && (decide (x4 = 0))) && (decide (x5 = 1)))) rfl b₄ (Eq.trans (b := V.b (decide (x5 = 1))) rfl (and_on b₄))) ?_
      refine WO_end ?_
      exact ⟨rfl, rfl, g₃_10, g₃_7, g₃_8⟩
    · skip
      refine WO_off rfl b₄ ?_
      refine WO_off rfl b₄ ?_
      refine WO_v (a_pickF (t := ((((decide (x1 = 0)) && (decide (x2 = 0))) && (decide (x3 = 2))) && (decide (x4 = 0)))) (v := .b (((((decide (x1 = 0)) && (decide (x2 = 0))) && (decide (x3 = 2))) && (decide (x4 = 0))) && (decide (x5 = 1)))) rfl b₄ (Eq.trans (b := V.b false) rfl (and_off b₄))) ?_
      refine WO_end ?_
      exact ⟨rfl, rfl, g₃_10, g₃_7, g₃_8⟩
  rintro frg₄ _ ⟨rfl, g₄_49, g₄_10, g₄_7, g₄_8⟩
  refine WO_v (a_mv (v := .b (((((decide (x1 = 0)) && (decide (x2 = 0))) && (decide (x3 = 2))) && (decide (x4 = 0))) && (decide (x5 = 1)))) g₄_49) ?_
  refine WO_cut 3 (fun fr' k' => k₅ = k' ∧ fr' 53 = .b ((((((decide (x1 = 0)) && (decide (x2 = 0))) && (decide (x3 = 2))) && (decide (x4 = 0))) && (decide (x5 = 1))) && (decide (x6 = 0))) ∧ fr' 10 = .i .i64 x9 ∧ fr' 8 = .b x7) ?_ ?_
  · rcases bc (((((decide (x1 = 0)) && (decide (x2 = 0))) && (decide (x3 = 2))) && (decide (x4 = 0))) && (decide (x5 = 1))) with b₅ | b₅
    · skip
      refine WO_on rfl b₅ ?_
      refine WO_v (a_mv (v := .i .i64 x6) g₄_7) ?_
      refine WO_on rfl b₅ ?_
      refine WO_v (a_eqI (a := x6) (b := 0) rfl rfl) ?_
      refine WO_v (a_pickT (t := (((((decide (x1 = 0)) && (decide (x2 = 0))) && (decide (x3 = 2))) && (decide (x4 = 0))) && (decide (x5 = 1)))) (v := .b ((((((decide (x1 = 0)) && (decide (x2 = 0))) && (decide (x3 = 2))) && (decide (x4 = 0))) && (decide (x5 = 1))) && (decide (x6 = 0)))) rfl b₅ (Eq.trans (b := V.b (decide (x6 = 0))) rfl (and_on b₅))) ?_
      refine WO_end ?_
      exact ⟨rfl, rfl, g₄_10, g₄_8⟩
    · skip
      refine WO_off rfl b₅ ?_
      refine WO_off rfl b₅ ?_
      refine WO_v (a_pickF (t := (((((decide (x1 = 0)) && (decide (x2 = 0))) && (decide (x3 = 2))) && (decide (x4 = 0))) && (decide (x5 = 1)))) (v := .b ((((((decide (x1 = 0)) && (decide (x2 = 0))) && (decide (x3 = 2))) && (decide (x4 = 0))) && (decide (x5 = 1))) && (decide (x6 = 0)))) rfl b₅ (Eq.trans (b := V.b false) rfl (and_off b₅))) ?_
      refine WO_end ?_
      exact ⟨rfl, rfl, g₄_10, g₄_8⟩
  rintro frg₅ _ ⟨rfl, g₅_53, g₅_10, g₅_8⟩
  refine WO_v (a_mv (v := .b ((((((decide (x1 = 0)) && (decide (x2 = 0))) && (decide (x3 = 2))) && (decide (x4 = 0))) && (decide (x5 = 1))) && (decide (x6 = 0)))) g₅_53) ?_
  refine WO_cut 2 (fun fr' k' => k₅ = k' ∧ fr' 56 = .b (((((((decide (x1 = 0)) && (decide (x2 = 0))) && (decide (x3 = 2))) && (decide (x4 = 0))) && (decide (x5 = 1))) && (decide (x6 = 0))) && x7) ∧ fr' 10 = .i .i64 x9) ?_ ?_
  · rcases bc ((((((decide (x1 = 0)) && (decide (x2 = 0))) && (decide (x3 = 2))) && (decide (x4 = 0))) && (decide (x5 = 1))) && (decide (x6 = 0))) with b₆ | b₆
    · skip
      refine WO_on rfl b₆ ?_
      refine WO_v (a_mv (v := .b x7) g₅_8) ?_
      refine WO_v (a_pickT (t := ((((((decide (x1 = 0)) && (decide (x2 = 0))) && (decide (x3 = 2))) && (decide (x4 = 0))) && (decide (x5 = 1))) && (decide (x6 = 0)))) (v := .b (((((((decide (x1 = 0)) && (decide (x2 = 0))) && (decide (x3 = 2))) && (decide (x4 = 0))) && (decide (x5 = 1))) && (decide (x6 = 0))) && x7)) rfl b₆ (Eq.trans (b := V.b x7) rfl (and_on b₆))) ?_
      refine WO_end ?_
      exact ⟨rfl, rfl, g₅_10⟩
    · skip
      refine WO_off rfl b₆ ?_
      refine WO_v (a_pickF (t := ((((((decide (x1 = 0)) && (decide (x2 = 0))) && (decide (x3 = 2))) && (decide (x4 = 0))) && (decide (x5 = 1))) && (decide (x6 = 0)))) (v := .b (((((((decide (x1 = 0)) && (decide (x2 = 0))) && (decide (x3 = 2))) && (decide (x4 = 0))) && (decide (x5 = 1))) && (decide (x6 = 0))) && x7)) rfl b₆ (Eq.trans (b := V.b false) rfl (and_off b₆))) ?_
      refine WO_end ?_
      exact ⟨rfl, rfl, g₅_10⟩
  rintro frg₆ _ ⟨rfl, g₆_56, g₆_10⟩
  refine WO_v (a_mv (v := .b (((((((decide (x1 = 0)) && (decide (x2 = 0))) && (decide (x3 = 2))) && (decide (x4 = 0))) && (decide (x5 = 1))) && (decide (x6 = 0))) && x7)) g₆_56) ?_
  refine WO_cut 3 (fun fr' k' => k₅ = k' ∧ fr' 60 = .b ((((((((decide (x1 = 0)) && (decide (x2 = 0))) && (decide (x3 = 2))) && (decide (x4 = 0))) && (decide (x5 = 1))) && (decide (x6 = 0))) && x7) && (decide (x9 = 2)))) ?_ ?_
  · rcases bc (((((((decide (x1 = 0)) && (decide (x2 = 0))) && (decide (x3 = 2))) && (decide (x4 = 0))) && (decide (x5 = 1))) && (decide (x6 = 0))) && x7) with b₇ | b₇
    · skip
      refine WO_on rfl b₇ ?_
      refine WO_v (a_mv (v := .i .i64 x9) g₆_10) ?_
      refine WO_on rfl b₇ ?_
      refine WO_v (a_eqI (a := x9) (b := 2) rfl rfl) ?_
      refine WO_v (a_pickT (t := (((((((decide (x1 = 0)) && (decide (x2 = 0))) && (decide (x3 = 2))) && (decide (x4 = 0))) && (decide (x5 = 1))) && (decide (x6 = 0))) && x7)) (v := .b ((((((((decide (x1 = 0)) && (decide (x2 = 0))) && (decide (x3 = 2))) && (decide (x4 = 0))) && (decide (x5 = 1))) && (decide (x6 = 0))) && x7) && (decide (x9 = 2)))) rfl b₇ (Eq.trans (b := V.b (decide (x9 = 2))) rfl (and_on b₇))) ?_
      refine WO_end ?_
      exact ⟨rfl, rfl⟩
    · skip
      refine WO_off rfl b₇ ?_
      refine WO_off rfl b₇ ?_
      refine WO_v (a_pickF (t := (((((((decide (x1 = 0)) && (decide (x2 = 0))) && (decide (x3 = 2))) && (decide (x4 = 0))) && (decide (x5 = 1))) && (decide (x6 = 0))) && x7)) (v := .b ((((((((decide (x1 = 0)) && (decide (x2 = 0))) && (decide (x3 = 2))) && (decide (x4 = 0))) && (decide (x5 = 1))) && (decide (x6 = 0))) && x7) && (decide (x9 = 2)))) rfl b₇ (Eq.trans (b := V.b false) rfl (and_off b₇))) ?_
      refine WO_end ?_
      exact ⟨rfl, rfl⟩
  rintro frg₇ _ ⟨rfl, g₇_60⟩
  refine WO_v (a_mv (v := .b ((((((((decide (x1 = 0)) && (decide (x2 = 0))) && (decide (x3 = 2))) && (decide (x4 = 0))) && (decide (x5 = 1))) && (decide (x6 = 0))) && x7) && (decide (x9 = 2)))) g₇_60) ?_
  obtain ⟨t, hv₁, hp⟩ := bd_some hp
  refine WO_cut 5 (fun fr' k' => Own B h k' [eBox r₁ [v₃], eSl e_T_api_Cell v₃ m1.cells, eIf (x8).isSome (eBox r₂ [v₄]), eIf (x8).isSome (eSl e_T_api_Cell v₄ ((x8.getD default).cells))] ∧ fr' 66 = .b t) ?_ ?_
  · clear hp; rcases if_some hv₁ with ⟨b₈, hp⟩ | ⟨b₈, hp⟩
    · skip
      refine WO_on rfl b₈ ?_
      refine WO_v (a_build (cs := e_T_api_Cell.c (⟨(⟨0, 0, 0, 0⟩ : A4 Int), (⟨0, 0, 0, 0⟩ : A4 Int)⟩ : T_api_Cell)) (by rw [ev_nil]; rfl)) ?_
      refine WO_on rfl b₈ ?_
      refine WO_x (hO₆.bsl (E := e_T_api_Cell) (l := [(⟨(⟨0, 0, 0, 0⟩ : A4 Int), (⟨0, 0, 0, 0⟩ : A4 Int)⟩ : T_api_Cell)]) hO₆.fr (by rw [(ev_cons (v := .ag (e_T_api_Cell.c (⟨(⟨0, 0, 0, 0⟩ : A4 Int), (⟨0, 0, 0, 0⟩ : A4 Int)⟩ : T_api_Cell))) rfl ev_nil)]; rfl) rfl) ?_
      rintro v₅ k₆ ⟨r₃, f₁, hW⟩
      have hO₇ : Own B h k₆ [eBox r₁ [v₃], eSl e_T_api_Cell v₃ m1.cells, eIf (x8).isSome (eBox r₂ [v₄]), eIf (x8).isSome (eSl e_T_api_Cell v₄ ((x8.getD default).cells)), eSl e_T_api_Cell v₅ [(⟨(⟨0, 0, 0, 0⟩ : A4 Int), (⟨0, 0, 0, 0⟩ : A4 Int)⟩ : T_api_Cell)]] := hW
      refine WO_on rfl b₈ ?_
      obtain ⟨x10, hx₆, hp⟩ := bd_some hp
      obtain ⟨u₆, k₇, ca₆, rfl, hW₆⟩ := p_grid_Check.ok (h := k₆)  (hO₇.sl 4 rfl : Sl e_T_api_Cell k₆ v₅ [(⟨(⟨0, 0, 0, 0⟩ : A4 Int), (⟨0, 0, 0, 0⟩ : A4 Int)⟩ : T_api_Cell)]) hx₆
      refine WO_c (id := 66) (caps := []) rfl (mp_cons (v := v₅) rfl mp_nil) ca₆ ?_
      have hO₈ : Own B h k₇ [eBox r₁ [v₃], eSl e_T_api_Cell v₃ m1.cells, eIf (x8).isSome (eBox r₂ [v₄]), eIf (x8).isSome (eSl e_T_api_Cell v₄ ((x8.getD default).cells)), eSl e_T_api_Cell v₅ [(⟨(⟨0, 0, 0, 0⟩ : A4 Int), (⟨0, 0, 0, 0⟩ : A4 Int)⟩ : T_api_Cell)]] := hO₇.call hW₆ rfl
      refine WO_on rfl b₈ ?_
      refine WO_v (a_eqI (a := x10) (b := 3) rfl rfl) ?_
      refine WO_v (a_pickT (t := ((((((((decide (x1 = 0)) && (decide (x2 = 0))) && (decide (x3 = 2))) && (decide (x4 = 0))) && (decide (x5 = 1))) && (decide (x6 = 0))) && x7) && (decide (x9 = 2)))) (v := .b t) rfl b₈ (Eq.trans (b := V.b (decide (x10 = 3))) rfl (congrArg V.b (Option.some.inj hp)))) ?_
      refine WO_end ?_
      exact ⟨hO₈.pick [0, 1, 2, 3] rfl (by decide), rfl⟩
    · skip
      refine WO_off rfl b₈ ?_
      refine WO_off rfl b₈ ?_
      refine WO_off rfl b₈ ?_
      refine WO_off rfl b₈ ?_
      refine WO_v (a_pickF (t := ((((((((decide (x1 = 0)) && (decide (x2 = 0))) && (decide (x3 = 2))) && (decide (x4 = 0))) && (decide (x5 = 1))) && (decide (x6 = 0))) && x7) && (decide (x9 = 2)))) (v := .b t) rfl b₈ (Eq.trans (b := V.b false) rfl (congrArg V.b (Option.some.inj hp)))) ?_
      refine WO_end ?_
      exact ⟨hO₆.pick [0, 1, 2, 3] rfl (by decide), rfl⟩
  rintro frg₈ k₈ ⟨hO₉, g₈_66⟩
  refine WO_v (a_mv (v := .b t) g₈_66) ?_
  refine WO_end ?_
  refine then_n ?_
  refine W_rt ?_
  refine Ret_r (rs_t (n := 0) (v := .b t) rfl rs_nil) ?_
  have hp := Option.some.inj hp; subst hp
  exact (And.intro rfl (hO₉.pick [] rfl (by decide)))

theorem p_grid_Grid_Cells.ok {h : Hp} {g : T_grid_Grid} {r_g : Nat} {v_g_cells : V} {w_g : Bool} (b_g : h.m r_g = some (.cells w_g [v_g_cells])) (s_g_cells : Sl e_T_api_Cell h v_g_cells g.cells) {r : (List T_api_Cell)} (hp : p_grid_Grid_Cells g = some r) :
    ∃ u k', Is G 57 [.p r_g 0] h u k' ∧ ∃ (v₁ : V), v₁ = u ∧ Own (fun r => r < h.n) h k' [eSl e_T_api_Cell v₁ r] := by
  refine WC.is (WC_of G_F_grid_Grid_Cells ?_)
  unfold p_grid_Grid_Cells at hp
  let B : Nat → Prop := (fun r => r < h.n)
  have hO : Own B h h [] := Own.start0 h
  refine W_sq ?_
  refine W_rg ?_
  refine WO_v (a_mv (v := .sn) rfl) ?_
  refine WO_end ?_
  refine then_n ?_
  refine W_sq ?_
  refine W_sq ?_
  refine W_rg ?_
  refine WO_v (a_mv (v := .p r_g 0) rfl) ?_
  refine WO_v (a_eqP rfl rfl) ?_
  refine WO_end ?_
  refine then_n ?_
  refine W_cF (t := false) rfl rfl ?_
  refine W_sk ?_
  refine then_n ?_
  refine W_sq ?_
  refine W_rg ?_
  refine WO_v (a_mv (v := .p r_g 0) rfl) ?_
  refine WO_v (a_nilp (r := r_g) (o := 0) rfl) ?_
  refine WO_v (a_fa (r := r_g) (o := 0) (o' := 0) rfl rfl) ?_
  refine WO_v (a_ldb (cs := [v_g_cells]) (v := v_g_cells) (hO.rdB0 (RdB.of b_g)).choose_spec rfl rfl) ?_
  obtain ⟨x, hx₁, hp⟩ := bd_some hp
  obtain ⟨u₁, k₁, ca₁, v₂, rfl, hW₁⟩ := p_slices_Clone_api_Cell.ok (h := h)  (hO.rd0 s_g_cells.rd : Sl e_T_api_Cell h v_g_cells g.cells) hx₁
  refine WO_c (id := 51) (caps := []) rfl (mp_cons (v := v_g_cells) rfl mp_nil) ca₁ ?_
  have hO₁ : Own B h k₁ [eSl e_T_api_Cell v₂ x] := hO.call hW₁ rfl
  refine WO_v (a_mv (v := v₂) rfl) ?_
  refine WO_end ?_
  refine then_n ?_
  refine W_rt ?_
  refine Ret_r (rs_t (n := 2) (v := v₂) rfl rs_nil) ?_
  have hp := Option.some.inj hp; subst hp
  exact (Exists.intro v₂ (And.intro rfl (hO₁.pick [0] rfl (by decide))))

theorem p_muntinref10_Same.ok {h : Hp} {a : List T_api_Cell} {b : List T_api_Cell} {v_a : V} {v_b : V} (s_a : Sl e_T_api_Cell h v_a a) (s_b : Sl e_T_api_Cell h v_b b) {r : Bool} (hp : p_muntinref10_Same a b = some r) :
    ∃ u k', Is G 56 [v_a, v_b] h u k' ∧ V.b r = u ∧ Own (fun r => r < h.n) h k' [] := by
  refine WC.is (WC_of G_F_muntinref10_Same ?_)
  unfold p_muntinref10_Same at hp
  let B : Nat → Prop := (fun r => r < h.n)
  have hO : Own B h h [] := Own.start0 h
  refine W_sq ?_
  refine W_rg ?_
  refine WO_v (a_mv (v := .b false) rfl) ?_
  refine WO_end ?_
  refine then_n ?_
  refine W_sq ?_
  refine W_sq ?_
  refine W_rg ?_
  refine WO_v (a_mv (v := v_a) rfl) ?_
  refine WO_v (a_len (hO.rd0 s_a.rd : Sl e_T_api_Cell h v_a a) rfl) ?_
  refine WO_v (a_mv (v := v_b) rfl) ?_
  refine WO_v (a_len (hO.rd0 s_b.rd : Sl e_T_api_Cell h v_b b) rfl) ?_
  refine WO_v (a_neI (a := (a.length : Int)) (b := (b.length : Int)) rfl rfl) ?_
  refine WO_end ?_
  refine then_n ?_
  rcases if_some hp with ⟨b₁, hp⟩ | ⟨b₁, hp⟩
  · refine W_cT (t := (!(decide ((a.length : Int) = (b.length : Int))))) rfl b₁ ?_
    refine W_sq ?_
    refine W_rg ?_
    refine WO_v (a_mv (v := .b false) rfl) ?_
    refine WO_end ?_
    refine then_n ?_
    refine W_rt ?_
    refine then_r ?_
    refine Ret_r (rs_t (n := 4) (v := .b false) rfl rs_nil) ?_
    have hp := Option.some.inj hp; subst hp
    exact (And.intro rfl (hO.pick [] rfl (by decide)))
  · refine W_cF (t := (!(decide ((a.length : Int) = (b.length : Int))))) rfl b₁ ?_
    refine W_sk ?_
    refine then_n ?_
    refine W_sq ?_
    refine W_sq ?_
    refine W_rg ?_
    refine WO_v (a_mv (v := .i .i64 0) rfl) ?_
    refine WO_end ?_
    refine then_n ?_
    refine W_bl ?_
    obtain ⟨o₁, ho₁, hp⟩ := bd_some hp
    refine W.mono (Q := fun e fr k => match (generalizing := false) o₁ with
        | .inl _ => e = (.exit 0) ∧ Own B h k []
        | .inr _ => e = .ret ∧ fr 4 = .b false ∧ Own B h k []) ?_ ?_
    · clear hp
      refine W_loopF (fun st fr k => match st with | i => fr 0 = v_a ∧ fr 1 = v_b ∧ fr 5 = .i .i64 i ∧ Own B h k []) ho₁ (s := 0) (And.intro (rfl) (And.intro (rfl) (And.intro (rfl) (hO.pick [] rfl (by decide))))) ?_
      rintro i q₂ k₂ ⟨q₂_0, q₂_1, q₂_5, hO₂⟩ o₂ hp
      dsimp only [p_muntinref10_Same.s0] at hp
      refine W_sq ?_
      refine W_sq ?_
      refine W_rg ?_
      refine WO_v (a_mv (v := .i .i64 i) q₂_5) ?_
      refine WO_v (a_mv (v := v_a) q₂_0) ?_
      refine WO_v (a_len (hO₂.rd0 s_a.rd : Sl e_T_api_Cell k₂ v_a a) rfl) ?_
      refine WO_v (a_lss (a := i) (b := (a.length : Int)) rfl rfl) ?_
      refine WO_end ?_
      refine then_n ?_
      rcases if_some hp with ⟨b₂, hp⟩ | ⟨b₂, hp⟩
      · refine W_cT (t := (decide (i < (a.length : Int)))) rfl b₂ ?_
        refine W_sk ?_
        refine then_n ?_
        refine W_sq ?_
        refine W_bl ?_
        refine W_sq ?_
        refine W_qd ?_
        have hW := hO₂.bump 9
        have hO₃ : Own B h (k₂.bump 9) [] := hW
        refine WQ_v rfl (a_mv (v := v_a) q₂_0) ?_
        refine WQ_v rfl (a_mv (v := .i .i64 i) q₂_5) ?_
        obtain ⟨c₁, hp⟩ := ck_some hp
        refine WQ_v rfl (a_ixa (E := e_T_api_Cell) (z := i) (hO₃.rd0 s_a.rd : Sl e_T_api_Cell (k₂.bump 9) v_a a) rfl rfl c₁) ?_
        refine WQ_v rfl (a_ldA (E := e_T_api_Cell) (hO₃.rd0 s_a.rd : Sl e_T_api_Cell (k₂.bump 9) v_a a) rfl (toNat_lt c₁)) ?_
        refine WQ_v rfl (a_mv (v := v_b) q₂_1) ?_
        refine WQ_v rfl (a_mv (v := .i .i64 i) q₂_5) ?_
        obtain ⟨c₂, hp⟩ := ck_some hp
        refine WQ_v rfl (a_ixa (E := e_T_api_Cell) (z := i) (hO₃.rd0 s_b.rd : Sl e_T_api_Cell (k₂.bump 9) v_b b) rfl rfl c₂) ?_
        refine WQ_v rfl (a_ldA (E := e_T_api_Cell) (hO₃.rd0 s_b.rd : Sl e_T_api_Cell (k₂.bump 9) v_b b) rfl (toNat_lt c₂)) ?_
        refine WQ_v rfl (a_neA (as := e_T_api_Cell.c (gi a (i : Int).toNat)) (bs := e_T_api_Cell.c (gi b (i : Int).toNat)) rfl rfl (Mu.e_T_api_Cell.same _ _)) ?_
        refine WQ_end ?_
        refine then_n ?_
        rcases if_some hp with ⟨b₃, hp⟩ | ⟨b₃, hp⟩
        · refine W_cT (t := (!(decide (gi a (i : Int).toNat = gi b (i : Int).toNat)))) rfl b₃ ?_
          refine W_sq ?_
          refine W_rg ?_
          refine WO_v (a_mv (v := .b false) rfl) ?_
          refine WO_end ?_
          refine then_n ?_
          refine W_rt ?_
          refine blk_r ?_
          refine then_r ?_
          have hp := Option.some.inj hp; subst hp
          refine (Or.inr (Exists.intro (.inr ()) (And.intro rfl (And.intro (fun h => nomatch h) (fun he => ?_)))))
          subst he; exact (And.intro rfl (And.intro (rfl) (hO₃.pick [] rfl (by decide))))
        · refine W_cF (t := (!(decide (gi a (i : Int).toNat = gi b (i : Int).toNat)))) rfl b₃ ?_
          refine W_sk ?_
          refine blk_n ?_
          refine then_n ?_
          refine W_rg ?_
          refine WO_v (a_mv (v := .i .i64 i) q₂_5) ?_
          obtain ⟨c₃, hp⟩ := ck_some hp
          refine WO_v (a_add (a := i) (b := 1) rfl rfl c₃) ?_
          refine WO_v (a_mv (v := .i .i64 (i + 1)) rfl) ?_
          refine WO_end ?_
          have hp := Option.some.inj hp; subst hp
          exact (Or.inl (Exists.intro (i + 1) (And.intro rfl (And.intro rfl (And.intro (q₂_0) (And.intro (q₂_1) (And.intro (rfl) (hO₃.pick [] rfl (by decide)))))))))
      · refine W_cF (t := (decide (i < (a.length : Int)))) rfl b₂ ?_
        refine W_ex ?_
        refine then_e ?_
        have hp := Option.some.inj hp; subst hp
        refine (Or.inr (Exists.intro (.inl ()) (And.intro rfl (And.intro (fun h => nomatch h) (fun he => ?_)))))
        subst he; exact (And.intro rfl (hO₂.pick [] rfl (by decide)))
    intro e₁ q₁ k₁ hJ₁
    rcases o₁ with _ | _
    · obtain ⟨rfl, hO₁⟩ := hJ₁
      refine blk_i ?_
      refine then_n ?_
      refine W_sq ?_
      refine W_rg ?_
      refine WO_v (a_mv (v := .b true) rfl) ?_
      refine WO_end ?_
      refine then_n ?_
      refine W_rt ?_
      refine Ret_r (rs_t (n := 4) (v := .b true) rfl rs_nil) ?_
      have hp := Option.some.inj hp; subst hp
      exact (And.intro rfl (hO₁.pick [] rfl (by decide)))
    · obtain ⟨rfl, q₁_4, hO₁⟩ := hJ₁
      refine blk_r ?_
      refine then_r ?_
      refine Ret_r (rs_t (n := 4) (v := .b false) q₁_4 rs_nil) ?_
      have hp := Option.some.inj hp; subst hp
      exact (And.intro rfl (hO₁.pick [] rfl (by decide)))

theorem p_muntinlaw10_GridTurns.ok {h : Hp} {z : T_muntinlaw10_Case} {v_z_Places_At : V} {v_z_Places_Bits : V} {v_z_Places_Own : V} {v_z_Raw : V} (s_z_Places_At : Sl e_u8 h v_z_Places_At z.Places.At) (s_z_Places_Bits : Sl e_u8 h v_z_Places_Bits z.Places.Bits) (s_z_Places_Own : Sl e_i8 h v_z_Places_Own z.Places.Own) (s_z_Raw : Sl e_T_api_Cell h v_z_Raw z.Raw) {r : Bool} (hp : p_muntinlaw10_GridTurns z = some r) :
    ∃ u k', Is G 106 [.ag [v_z_Places_At, v_z_Places_Bits, v_z_Places_Own, v_z_Raw, .i .u8 z.At.a, .i .u8 z.At.b, .i .i64 z.V]] h u k' ∧ V.b r = u ∧ Own (fun r => r < h.n) h k' [] := by
  refine WC.is (WC_of G_F_muntinlaw10_GridTurns ?_)
  unfold p_muntinlaw10_GridTurns at hp
  let B : Nat → Prop := (fun r => r < h.n)
  have hO : Own B h h [] := Own.start0 h
  refine W_sq ?_
  refine W_rg ?_
  refine WO_x (hO.boxd (v := .ag [v_z_Places_At, v_z_Places_Bits, v_z_Places_Own, v_z_Raw, .i .u8 z.At.a, .i .u8 z.At.b, .i .i64 z.V]) (cs := [v_z_Places_At, v_z_Places_Bits, v_z_Places_Own, v_z_Raw, .i .u8 z.At.a, .i .u8 z.At.b, .i .i64 z.V]) hO.fr rfl rfl) ?_
  rintro _ k₁ ⟨r₁, rfl, n₁, f₁, hW⟩
  have hO₁ : Own B h k₁ [eBox r₁ [v_z_Places_At, v_z_Places_Bits, v_z_Places_Own, v_z_Raw, .i .u8 z.At.a, .i .u8 z.At.b, .i .i64 z.V]] := hW
  refine WO_v (a_mv (v := .b false) rfl) ?_
  refine WO_end ?_
  refine then_n ?_
  refine W_sq ?_
  refine W_rg ?_
  refine WO_v (a_fa (r := r₁) (o := 0) (o' := 0) rfl rfl) ?_
  refine WO_v (a_ldbA (cs := [v_z_Places_At, v_z_Places_Bits, v_z_Places_Own, v_z_Raw, .i .u8 z.At.a, .i .u8 z.At.b, .i .i64 z.V]) (ws := [v_z_Places_At, v_z_Places_Bits, v_z_Places_Own]) (hO₁.box 0 rfl) rfl rfl) ?_
  obtain ⟨⟨x, x1⟩, hx₁, hp⟩ := bd_some hp
  obtain ⟨u₁, k₂, ca₁, v₁, v₂, rfl, hW₁⟩ := p_muntinref10_Make.ok (h := k₁)  (hO₁.rd0 s_z_Places_At.rd : Sl e_u8 k₁ v_z_Places_At z.Places.At) (hO₁.rd0 s_z_Places_Bits.rd : Sl e_u8 k₁ v_z_Places_Bits z.Places.Bits) (hO₁.rd0 s_z_Places_Own.rd : Sl e_i8 k₁ v_z_Places_Own z.Places.Own) hx₁
  refine WO_c (id := 28) (caps := []) rfl (mp_cons (v := .ag [v_z_Places_At, v_z_Places_Bits, v_z_Places_Own]) rfl (mp_cons (v := .i .i64 12) rfl mp_nil)) ca₁ ?_
  have hO₂ : Own B h k₂ [eBox r₁ [v_z_Places_At, v_z_Places_Bits, v_z_Places_Own, v_z_Raw, .i .u8 z.At.a, .i .u8 z.At.b, .i .i64 z.V], eSl e_T_api_Cell v₁ x, eSl e_T_api_Point v₂ x1] := hO₁.call hW₁ rfl
  refine WO_v (a_mv (v := .tu [v₁, v₂]) rfl) ?_
  refine WO_v (a_ext (vs := [v₁, v₂]) (v := v₁) rfl rfl) ?_
  refine WO_v (a_ext (vs := [v₁, v₂]) (v := v₂) rfl rfl) ?_
  refine WO_v (a_mv (v := v₁) rfl) ?_
  refine WO_v (a_mv (v := v₂) rfl) ?_
  refine WO_end ?_
  refine then_n ?_
  refine W_sq ?_
  refine W_rg ?_
  refine WO_v (a_mv (v := v₁) rfl) ?_
  obtain ⟨x2, hx₂, hp⟩ := bd_some hp
  obtain ⟨u₂, k₃, ca₂, v₃, rfl, hW₂⟩ := p_slices_Clone_api_Cell.ok (h := k₂)  (hO₂.sl 1 rfl : Sl e_T_api_Cell k₂ v₁ x) hx₂
  refine WO_c (id := 51) (caps := []) rfl (mp_cons (v := v₁) rfl mp_nil) ca₂ ?_
  have hO₃ : Own B h k₃ [eBox r₁ [v_z_Places_At, v_z_Places_Bits, v_z_Places_Own, v_z_Raw, .i .u8 z.At.a, .i .u8 z.At.b, .i .i64 z.V], eSl e_T_api_Cell v₁ x, eSl e_T_api_Point v₂ x1, eSl e_T_api_Cell v₃ x2] := hO₂.call hW₂ rfl
  refine WO_v (a_mv (v := v₃) rfl) ?_
  refine WO_end ?_
  refine then_n ?_
  refine W_sq ?_
  refine W_sq ?_
  refine W_rg ?_
  refine WO_v (a_mv (v := v₃) rfl) ?_
  refine WO_v (a_len (hO₃.sl 3 rfl : Sl e_T_api_Cell k₃ v₃ x2) rfl) ?_
  refine WO_v (a_gtr (a := (x2.length : Int)) (b := 0) rfl rfl) ?_
  refine WO_end ?_
  refine then_n ?_
  obtain ⟨o₁, ho₁, hp⟩ := bd_some hp
  refine W.mono (Q := fun e fr k => match (generalizing := false) o₁ with
      | m => e = .normal ∧ fr 1 = .p r₁ 0 ∧ fr 3 = v₁ ∧ fr 5 = v₃ ∧ Own B h k [eBox r₁ [v_z_Places_At, v_z_Places_Bits, v_z_Places_Own, v_z_Raw, .i .u8 z.At.a, .i .u8 z.At.b, .i .i64 z.V], eSl e_T_api_Cell v₁ x, eSl e_T_api_Cell v₃ m]) ?_ ?_
  · clear hp; have hp := ho₁; clear ho₁
    rcases if_some hp with ⟨b₁, hp⟩ | ⟨b₁, hp⟩
    · refine W_cT (t := (decide (0 < (x2.length : Int)))) rfl b₁ ?_
      refine W_dr ?_
      have hW := hO₃.bump 19
      have fr₁ := Fresh.start k₃ 19
      have nb₁ : ∀ {i : Nat}, h.n ≤ k₃.n + i := Nat.le_trans hO₃.n (Nat.le_add_right _ _)
      have hO₅ : Own B h (k₃.bump 19) [eBox r₁ [v_z_Places_At, v_z_Places_Bits, v_z_Places_Own, v_z_Raw, .i .u8 z.At.a, .i .u8 z.At.b, .i .i64 z.V], eSl e_T_api_Cell v₁ x, eSl e_T_api_Point v₂ x1, eSl e_T_api_Cell v₃ x2] := hW
      refine WD_v (a_mv (v := v₃) rfl) ?_
      refine WD_v (a_fa (r := r₁) (o := 0) (o' := 4) rfl rfl) ?_
      refine WD_v (a_ixaa (o := 4) (o' := 4) (z := 0) rfl rfl (by decide) rfl) ?_
      refine WD_v (a_ldb (cs := [v_z_Places_At, v_z_Places_Bits, v_z_Places_Own, v_z_Raw, .i .u8 z.At.a, .i .u8 z.At.b, .i .i64 z.V]) (v := .i .u8 (z.At.get 0)) (hO₅.box 0 rfl) rfl rfl) ?_
      obtain ⟨c₁, hp⟩ := ck_some hp
      refine WD_v (a_conv (a := (z.At.get 0)) rfl c₁) ?_
      refine WD_v (a_mv (v := v₃) rfl) ?_
      refine WD_v (a_len (hO₅.sl 3 rfl : Sl e_T_api_Cell (k₃.bump 19) v₃ x2) rfl) ?_
      obtain ⟨c₂, hp⟩ := ck_some hp
      refine WD_v (a_rem (a := (z.At.get 0)) (b := (x2.length : Int)) rfl rfl c₂) ?_
      refine WD_v (a_fa (r := r₁) (o := 0) (o' := 4) rfl rfl) ?_
      refine WD_v (a_ixaa (o := 4) (o' := 5) (z := 1) rfl rfl (by decide) rfl) ?_
      refine WD_v (a_ldb (cs := [v_z_Places_At, v_z_Places_Bits, v_z_Places_Own, v_z_Raw, .i .u8 z.At.a, .i .u8 z.At.b, .i .i64 z.V]) (v := .i .u8 (z.At.get 1)) (hO₅.box 0 rfl) rfl rfl) ?_
      obtain ⟨c₃, hp⟩ := ck_some hp
      refine WD_v (a_conv (a := (z.At.get 1)) rfl c₃) ?_
      refine WD_v (a_rem (a := (z.At.get 1)) (b := 4) rfl rfl (by decide)) ?_
      refine WD_v (a_fa (r := r₁) (o := 0) (o' := 6) rfl rfl) ?_
      refine WD_v (a_ldb (cs := [v_z_Places_At, v_z_Places_Bits, v_z_Places_Own, v_z_Raw, .i .u8 z.At.a, .i .u8 z.At.b, .i .i64 z.V]) (v := .i .i64 z.V) (hO₅.box 0 rfl) rfl rfl) ?_
      obtain ⟨c₄, hp⟩ := ck_some hp
      refine WD_v (a_ixa (E := e_T_api_Cell) (z := ((z.At.get 0).tmod (x2.length : Int))) (hO₅.sl 3 rfl : Sl e_T_api_Cell (k₃.bump 19) v₃ x2) rfl rfl c₄) ?_
      refine WD_v (a_faE (off' := 0) (off2 := 4) (hO₅.sl 3 rfl : Sl e_T_api_Cell (k₃.bump 19) v₃ x2) (toNat_lt c₄) rfl rfl) ?_
      obtain ⟨c₅, hp⟩ := ck_some hp
      refine WD_v (a_ixaaE (off := 4) (off2 := (4 + ((z.At.get 1).tmod 4 : Int).toNat * 1)) (z := ((z.At.get 1).tmod 4)) (hO₅.sl 3 rfl : Sl e_T_api_Cell (k₃.bump 19) v₃ x2) (toNat_lt c₄) rfl rfl c₅ rfl) ?_
      refine WD_x (hO₅.ste (E := e_T_api_Cell) (y := ({ gi x2 ((z.At.get 0).tmod (x2.length : Int) : Int).toNat with Owner := ((gi x2 ((z.At.get 0).tmod (x2.length : Int) : Int).toNat).Owner).set ((z.At.get 1).tmod 4) z.V })) (ws := [.i .i64 z.V]) 3 rfl rfl (toNat_lt c₄) rfl rfl ⟨rfl, (by have := c₅; exact (show 4 + ((z.At.get 1).tmod 4 : Int).toNat * 1 + 1 ≤ 8 by omega)), rfl⟩ (st_T_api_Cell_Owner c₅)) ?_
      rintro _ k₆ z₁ ⟨rfl, f₂, m₁, hW⟩
      have fr₂ := fr₁.kept f₂ (by decide)
      have hO₆ : Own B h k₆ [eBox r₁ [v_z_Places_At, v_z_Places_Bits, v_z_Places_Own, v_z_Raw, .i .u8 z.At.a, .i .u8 z.At.b, .i .i64 z.V], eSl e_T_api_Cell v₁ x, eSl e_T_api_Point v₂ x1, eSl e_T_api_Cell v₃ (x2.set ((z.At.get 0).tmod (x2.length : Int) : Int).toNat ({ gi x2 ((z.At.get 0).tmod (x2.length : Int) : Int).toNat with Owner := ((gi x2 ((z.At.get 0).tmod (x2.length : Int) : Int).toNat).Owner).set ((z.At.get 1).tmod 4) z.V }))] := hW
      refine WD_end ?_
      refine And.intro ?_ ?_
      · intro q hq
        simp only [List.mem_cons, List.not_mem_nil, or_false] at hq
        rcases hq with rfl | rfl | rfl
        · refine ap_ll ?_ ?_
          · exact (fun h => nomatch h)
          · exact (fun h => nomatch h)
        · refine ap_ll ?_ ?_
          · exact (fun h => nomatch h)
          · exact (fun h => nomatch h)
        · refine ap_ll ?_ ?_
          · exact (fun h => nomatch h)
          · exact (fun h => nomatch h)
      have hp := Option.some.inj hp; subst hp
      exact (And.intro rfl (And.intro (rfl) (And.intro (rfl) (And.intro (rfl) (hO₆.pick [0, 1, 3] rfl (by decide))))))
    · refine W_cF (t := (decide (0 < (x2.length : Int)))) rfl b₁ ?_
      refine W_sk ?_
      have hp := Option.some.inj hp; subst hp
      exact (And.intro rfl (And.intro (rfl) (And.intro (rfl) (And.intro (rfl) (hO₃.pick [0, 1, 3] rfl (by decide))))))
  intro e₁ q₁ k₄ hJ₁
  obtain ⟨m, rfl⟩ : ∃ x, x = o₁ := ⟨_, rfl⟩
  obtain ⟨rfl, q₁_1, q₁_3, q₁_5, hO₄⟩ := hJ₁
  refine then_n ?_
  refine W_sq ?_
  refine W_sq ?_
  refine W_rg ?_
  refine WO_v (a_mv (v := v₃) q₁_5) ?_
  obtain ⟨x3, hx₃, hp⟩ := bd_some hp
  obtain ⟨u₃, k₇, ca₃, v₄, rfl, hW₃⟩ := p_muntinref10_Turned.ok (h := k₄)  (hO₄.sl 2 rfl : Sl e_T_api_Cell k₄ v₃ m) hx₃
  refine WO_c (id := 116) (caps := []) rfl (mp_cons (v := v₃) rfl mp_nil) ca₃ ?_
  have hO₇ : Own B h k₇ [eBox r₁ [v_z_Places_At, v_z_Places_Bits, v_z_Places_Own, v_z_Raw, .i .u8 z.At.a, .i .u8 z.At.b, .i .i64 z.V], eSl e_T_api_Cell v₁ x, eSl e_T_api_Cell v₃ m, eSl e_T_api_Cell v₄ x3] := hO₄.call hW₃ rfl
  obtain ⟨x4, hx₄, hp⟩ := bd_some hp
  obtain ⟨u₄, k₈, ca₄, rfl, hW₄⟩ := p_grid_Check.ok (h := k₇)  (hO₇.sl 3 rfl : Sl e_T_api_Cell k₇ v₄ x3) hx₄
  refine WO_c (id := 66) (caps := []) rfl (mp_cons (v := v₄) rfl mp_nil) ca₄ ?_
  have hO₈ : Own B h k₈ [eBox r₁ [v_z_Places_At, v_z_Places_Bits, v_z_Places_Own, v_z_Raw, .i .u8 z.At.a, .i .u8 z.At.b, .i .i64 z.V], eSl e_T_api_Cell v₁ x, eSl e_T_api_Cell v₃ m, eSl e_T_api_Cell v₄ x3] := hO₇.call hW₄ rfl
  refine WO_v (a_neI (a := x4) (b := 0) rfl rfl) ?_
  refine WO_v (a_mv (v := v₃) q₁_5) ?_
  obtain ⟨x5, hx₅, hp⟩ := bd_some hp
  obtain ⟨u₅, k₉, ca₅, rfl, hW₅⟩ := p_grid_Check.ok (h := k₈)  (hO₈.sl 2 rfl : Sl e_T_api_Cell k₈ v₃ m) hx₅
  refine WO_c (id := 66) (caps := []) rfl (mp_cons (v := v₃) rfl mp_nil) ca₅ ?_
  have hO₉ : Own B h k₉ [eBox r₁ [v_z_Places_At, v_z_Places_Bits, v_z_Places_Own, v_z_Raw, .i .u8 z.At.a, .i .u8 z.At.b, .i .i64 z.V], eSl e_T_api_Cell v₁ x, eSl e_T_api_Cell v₃ m, eSl e_T_api_Cell v₄ x3] := hO₈.call hW₅ rfl
  refine WO_v (a_neI (a := x5) (b := 0) rfl rfl) ?_
  refine WO_v (a_neB (a := (!(decide (x4 = 0)))) (b := (!(decide (x5 = 0)))) rfl rfl) ?_
  refine WO_end ?_
  refine then_n ?_
  rcases if_some hp with ⟨b₂, hp⟩ | ⟨b₂, hp⟩
  · refine W_cT (t := (!(decide ((!(decide (x4 = 0))) = (!(decide (x5 = 0))))))) rfl b₂ ?_
    refine W_sq ?_
    refine W_rg ?_
    refine WO_v (a_mv (v := .b false) rfl) ?_
    refine WO_end ?_
    refine then_n ?_
    refine W_rt ?_
    refine then_r ?_
    refine Ret_r (rs_t (n := 2) (v := .b false) rfl rs_nil) ?_
    have hp := Option.some.inj hp; subst hp
    exact (And.intro rfl (hO₉.pick [] rfl (by decide)))
  · refine W_cF (t := (!(decide ((!(decide (x4 = 0))) = (!(decide (x5 = 0))))))) rfl b₂ ?_
    refine W_sk ?_
    refine then_n ?_
    refine W_sq ?_
    refine W_rg ?_
    refine WO_v (a_mv (v := v₁) q₁_3) ?_
    obtain ⟨⟨x6, x7⟩, hx₆, hp⟩ := bd_some hp
    obtain ⟨u₆, k₁₀, ca₆, r₂, v₅, rfl, hW₆⟩ := p_grid_Of.ok (h := k₉)  (hO₉.sl 1 rfl : Sl e_T_api_Cell k₉ v₁ x) hx₆
    refine WO_c (id := 119) (caps := []) rfl (mp_cons (v := v₁) rfl mp_nil) ca₆ ?_
    have hO₁₀ : Own B h k₁₀ [eBox r₁ [v_z_Places_At, v_z_Places_Bits, v_z_Places_Own, v_z_Raw, .i .u8 z.At.a, .i .u8 z.At.b, .i .i64 z.V], eSl e_T_api_Cell v₁ x, eSl e_T_api_Cell v₃ m, eSl e_T_api_Cell v₄ x3, eIf (x6).isSome (eBox r₂ [v₅]), eIf (x6).isSome (eSl e_T_api_Cell v₅ ((x6.getD default).cells))] := hO₉.call hW₆ rfl
    refine WO_v (a_mv (v := .tu [(if (x6).isSome = true then V.p r₂ 0 else V.pn), .i .i64 x7]) rfl) ?_
    refine WO_v (a_ext (vs := [(if (x6).isSome = true then V.p r₂ 0 else V.pn), .i .i64 x7]) (v := (if (x6).isSome = true then V.p r₂ 0 else V.pn)) rfl rfl) ?_
    refine WO_v (a_ext (vs := [(if (x6).isSome = true then V.p r₂ 0 else V.pn), .i .i64 x7]) (v := .i .i64 x7) rfl rfl) ?_
    refine WO_v (a_mv (v := (if (x6).isSome = true then V.p r₂ 0 else V.pn)) rfl) ?_
    refine WO_v (a_mv (v := .i .i64 x7) rfl) ?_
    refine WO_end ?_
    refine then_n ?_
    refine W_sq ?_
    refine W_rg ?_
    refine WO_v (a_mv (v := v₁) q₁_3) ?_
    obtain ⟨x8, hx₇, hp⟩ := bd_some hp
    obtain ⟨u₇, k₁₁, ca₇, v₆, rfl, hW₇⟩ := p_muntinref10_Turned.ok (h := k₁₀)  (hO₁₀.sl 1 rfl : Sl e_T_api_Cell k₁₀ v₁ x) hx₇
    refine WO_c (id := 116) (caps := []) rfl (mp_cons (v := v₁) rfl mp_nil) ca₇ ?_
    have hO₁₁ : Own B h k₁₁ [eBox r₁ [v_z_Places_At, v_z_Places_Bits, v_z_Places_Own, v_z_Raw, .i .u8 z.At.a, .i .u8 z.At.b, .i .i64 z.V], eSl e_T_api_Cell v₁ x, eSl e_T_api_Cell v₃ m, eSl e_T_api_Cell v₄ x3, eIf (x6).isSome (eBox r₂ [v₅]), eIf (x6).isSome (eSl e_T_api_Cell v₅ ((x6.getD default).cells)), eSl e_T_api_Cell v₆ x8] := hO₁₀.call hW₇ rfl
    obtain ⟨⟨x9, x10⟩, hx₈, hp⟩ := bd_some hp
    obtain ⟨u₈, k₁₂, ca₈, r₃, v₇, rfl, hW₈⟩ := p_grid_Of.ok (h := k₁₁)  (hO₁₁.sl 6 rfl : Sl e_T_api_Cell k₁₁ v₆ x8) hx₈
    refine WO_c (id := 119) (caps := []) rfl (mp_cons (v := v₆) rfl mp_nil) ca₈ ?_
    have hO₁₂ : Own B h k₁₂ [eBox r₁ [v_z_Places_At, v_z_Places_Bits, v_z_Places_Own, v_z_Raw, .i .u8 z.At.a, .i .u8 z.At.b, .i .i64 z.V], eSl e_T_api_Cell v₁ x, eSl e_T_api_Cell v₃ m, eSl e_T_api_Cell v₄ x3, eIf (x6).isSome (eBox r₂ [v₅]), eIf (x6).isSome (eSl e_T_api_Cell v₅ ((x6.getD default).cells)), eSl e_T_api_Cell v₆ x8, eIf (x9).isSome (eBox r₃ [v₇]), eIf (x9).isSome (eSl e_T_api_Cell v₇ ((x9.getD default).cells))] := hO₁₁.call hW₈ rfl
    refine WO_v (a_mv (v := .tu [(if (x9).isSome = true then V.p r₃ 0 else V.pn), .i .i64 x10]) rfl) ?_
    refine WO_v (a_ext (vs := [(if (x9).isSome = true then V.p r₃ 0 else V.pn), .i .i64 x10]) (v := (if (x9).isSome = true then V.p r₃ 0 else V.pn)) rfl rfl) ?_
    refine WO_v (a_ext (vs := [(if (x9).isSome = true then V.p r₃ 0 else V.pn), .i .i64 x10]) (v := .i .i64 x10) rfl rfl) ?_
    refine WO_v (a_mv (v := (if (x9).isSome = true then V.p r₃ 0 else V.pn)) rfl) ?_
    refine WO_v (a_mv (v := .i .i64 x10) rfl) ?_
    refine WO_end ?_
    refine then_n ?_
    refine W_sq ?_
    refine W_sq ?_
    refine W_rg ?_
    obtain ⟨x11, hx₉, hp⟩ := bd_some hp
    obtain ⟨u₉, k₁₃, ca₉, rfl, hW₉⟩ := p_muntinlaw10_wakes.ok (h := k₁₂)   hx₉
    refine WO_c (id := 47) (caps := []) rfl mp_nil ca₉ ?_
    have hO₁₃ : Own B h k₁₃ [eBox r₁ [v_z_Places_At, v_z_Places_Bits, v_z_Places_Own, v_z_Raw, .i .u8 z.At.a, .i .u8 z.At.b, .i .i64 z.V], eSl e_T_api_Cell v₁ x, eSl e_T_api_Cell v₃ m, eSl e_T_api_Cell v₄ x3, eIf (x6).isSome (eBox r₂ [v₅]), eIf (x6).isSome (eSl e_T_api_Cell v₅ ((x6.getD default).cells)), eSl e_T_api_Cell v₆ x8, eIf (x9).isSome (eBox r₃ [v₇]), eIf (x9).isSome (eSl e_T_api_Cell v₇ ((x9.getD default).cells))] := hO₁₂.call hW₉ rfl
    refine WO_v (a_not (t := x11) rfl) ?_
    refine WO_v (a_mv (v := .b (!x11)) rfl) ?_
    refine WO_cut 3 (fun fr' k' => k₁₃ = k' ∧ fr' 69 = .b ((!x11) || (!(decide (x7 = 0)))) ∧ fr' 1 = .p r₁ 0 ∧ fr' 3 = v₁ ∧ fr' 6 = (if (x6).isSome = true then V.p r₂ 0 else V.pn) ∧ fr' 8 = (if (x9).isSome = true then V.p r₃ 0 else V.pn) ∧ fr' 9 = .i .i64 x10) ?_ ?_
    · rcases bc (!x11) with b₃ | b₃
      · skip
        refine WO_off rfl b₃ ?_
        refine WO_off rfl b₃ ?_
        refine WO_v (a_pickT (t := (!x11)) (v := .b ((!x11) || (!(decide (x7 = 0))))) rfl b₃ (Eq.trans (b := V.b true) rfl (or_off b₃))) ?_
        refine WO_end ?_
        exact ⟨rfl, rfl, q₁_1, q₁_3, rfl, rfl, rfl⟩
      · skip
        refine WO_on rfl b₃ ?_
        refine WO_v (a_mv (v := .i .i64 x7) rfl) ?_
        refine WO_on rfl b₃ ?_
        refine WO_v (a_neI (a := x7) (b := 0) rfl rfl) ?_
        refine WO_v (a_pickF (t := (!x11)) (v := .b ((!x11) || (!(decide (x7 = 0))))) rfl b₃ (Eq.trans (b := V.b (!(decide (x7 = 0)))) rfl (or_on b₃))) ?_
        refine WO_end ?_
        exact ⟨rfl, rfl, q₁_1, q₁_3, rfl, rfl, rfl⟩
    rintro frg₁ _ ⟨rfl, g₁_69, g₁_1, g₁_3, g₁_6, g₁_8, g₁_9⟩
    refine WO_v (a_mv (v := .b ((!x11) || (!(decide (x7 = 0))))) g₁_69) ?_
    refine WO_cut 3 (fun fr' k' => k₁₃ = k' ∧ fr' 73 = .b (((!x11) || (!(decide (x7 = 0)))) || (!(decide (x10 = 0)))) ∧ fr' 1 = .p r₁ 0 ∧ fr' 3 = v₁ ∧ fr' 6 = (if (x6).isSome = true then V.p r₂ 0 else V.pn) ∧ fr' 8 = (if (x9).isSome = true then V.p r₃ 0 else V.pn)) ?_ ?_
    · rcases bc ((!x11) || (!(decide (x7 = 0)))) with b₄ | b₄
      · skip
        refine WO_off rfl b₄ ?_
        refine WO_off rfl b₄ ?_
        refine WO_v (a_pickT (t := ((!x11) || (!(decide (x7 = 0))))) (v := .b (((!x11) || (!(decide (x7 = 0)))) || (!(decide (x10 = 0))))) rfl b₄ (Eq.trans (b := V.b true) rfl (or_off b₄))) ?_
        refine WO_end ?_
        exact ⟨rfl, rfl, g₁_1, g₁_3, g₁_6, g₁_8⟩
      · skip
        refine WO_on rfl b₄ ?_
        refine WO_v (a_mv (v := .i .i64 x10) g₁_9) ?_
        refine WO_on rfl b₄ ?_
        refine WO_v (a_neI (a := x10) (b := 0) rfl rfl) ?_
        refine WO_v (a_pickF (t := ((!x11) || (!(decide (x7 = 0))))) (v := .b (((!x11) || (!(decide (x7 = 0)))) || (!(decide (x10 = 0))))) rfl b₄ (Eq.trans (b := V.b (!(decide (x10 = 0)))) rfl (or_on b₄))) ?_
        refine WO_end ?_
        exact ⟨rfl, rfl, g₁_1, g₁_3, g₁_6, g₁_8⟩
    rintro frg₂ _ ⟨rfl, g₂_73, g₂_1, g₂_3, g₂_6, g₂_8⟩
    refine WO_end ?_
    refine then_n ?_
    rcases if_some hp with ⟨b₅, hp⟩ | ⟨b₅, hp⟩
    · refine W_cT (t := (((!x11) || (!(decide (x7 = 0)))) || (!(decide (x10 = 0))))) g₂_73 b₅ ?_
      refine W_sq ?_
      refine W_rg ?_
      refine WO_v (a_mv (v := .b false) rfl) ?_
      refine WO_end ?_
      refine then_n ?_
      refine W_rt ?_
      refine then_r ?_
      refine Ret_r (rs_t (n := 2) (v := .b false) rfl rs_nil) ?_
      have hp := Option.some.inj hp; subst hp
      exact (And.intro rfl (hO₁₃.pick [] rfl (by decide)))
    · refine W_cF (t := (((!x11) || (!(decide (x7 = 0)))) || (!(decide (x10 = 0))))) g₂_73 b₅ ?_
      refine W_sk ?_
      refine then_n ?_
      refine W_sq ?_
      refine W_qd ?_
      have hW := hO₁₃.bump 15
      have hO₁₄ : Own B h (k₁₃.bump 15) [eBox r₁ [v_z_Places_At, v_z_Places_Bits, v_z_Places_Own, v_z_Raw, .i .u8 z.At.a, .i .u8 z.At.b, .i .i64 z.V], eSl e_T_api_Cell v₁ x, eSl e_T_api_Cell v₃ m, eSl e_T_api_Cell v₄ x3, eIf (x6).isSome (eBox r₂ [v₅]), eIf (x6).isSome (eSl e_T_api_Cell v₅ ((x6.getD default).cells)), eSl e_T_api_Cell v₆ x8, eIf (x9).isSome (eBox r₃ [v₇]), eIf (x9).isSome (eSl e_T_api_Cell v₇ ((x9.getD default).cells))] := hW
      refine WQ_v rfl (a_fa (r := r₁) (o := 0) (o' := 4) g₂_1 rfl) ?_
      refine WQ_v rfl (a_ixaa (o := 4) (o' := 4) (z := 0) rfl rfl (by decide) rfl) ?_
      refine WQ_v rfl (a_ldb (cs := [v_z_Places_At, v_z_Places_Bits, v_z_Places_Own, v_z_Raw, .i .u8 z.At.a, .i .u8 z.At.b, .i .i64 z.V]) (v := .i .u8 (z.At.get 0)) (hO₁₄.box 0 rfl) rfl rfl) ?_
      obtain ⟨c₆, hp⟩ := ck_some hp
      refine WQ_v rfl (a_conv (a := (z.At.get 0)) rfl c₆) ?_
      refine WQ_v rfl (a_mv (v := v₁) g₂_3) ?_
      refine WQ_v rfl (a_len (hO₁₄.sl 1 rfl : Sl e_T_api_Cell (k₁₃.bump 15) v₁ x) rfl) ?_
      obtain ⟨c₇, hp⟩ := ck_some hp
      refine WQ_v rfl (a_add (a := (x.length : Int)) (b := 1) rfl rfl c₇) ?_
      obtain ⟨c₈, hp⟩ := ck_some hp
      refine WQ_v rfl (a_rem (a := (z.At.get 0)) (b := ((x.length : Int) + 1)) rfl rfl c₈) ?_
      refine WQ_v rfl (a_fa (r := r₁) (o := 0) (o' := 4) g₂_1 rfl) ?_
      refine WQ_v rfl (a_ixaa (o := 4) (o' := 5) (z := 1) rfl rfl (by decide) rfl) ?_
      refine WQ_v rfl (a_ldb (cs := [v_z_Places_At, v_z_Places_Bits, v_z_Places_Own, v_z_Raw, .i .u8 z.At.a, .i .u8 z.At.b, .i .i64 z.V]) (v := .i .u8 (z.At.get 1)) (hO₁₄.box 0 rfl) rfl rfl) ?_
      obtain ⟨c₉, hp⟩ := ck_some hp
      refine WQ_v rfl (a_conv (a := (z.At.get 1)) rfl c₉) ?_
      refine WQ_v rfl (a_rem (a := (z.At.get 1)) (b := 4) rfl rfl (by decide)) ?_
      refine WQ_v rfl (a_mv (v := .i .i64 ((z.At.get 0).tmod ((x.length : Int) + 1))) rfl) ?_
      refine WQ_v rfl (a_mv (v := .i .i64 ((z.At.get 1).tmod 4)) rfl) ?_
      refine WQ_end ?_
      refine then_n ?_
      refine W_sq ?_
      refine W_rg ?_
      refine WO_v (a_mv (v := (if (x6).isSome = true then V.p r₂ 0 else V.pn)) g₂_6) ?_
      refine WO_v (a_mv (v := .i .i64 ((z.At.get 0).tmod ((x.length : Int) + 1))) rfl) ?_
      refine WO_v (a_mv (v := .i .i64 ((z.At.get 1).tmod 4)) rfl) ?_
      obtain ⟨g, hg₁, hp⟩ := bd_some hp
      replace hg₁ : x6 = some g := hg₁
      have hO₁₅ : Own B h (k₁₃.bump 15) [eBox r₁ [v_z_Places_At, v_z_Places_Bits, v_z_Places_Own, v_z_Raw, .i .u8 z.At.a, .i .u8 z.At.b, .i .i64 z.V], eSl e_T_api_Cell v₁ x, eSl e_T_api_Cell v₃ m, eSl e_T_api_Cell v₄ x3, eBox r₂ [v₅], eSl e_T_api_Cell v₅ g.cells, eSl e_T_api_Cell v₆ x8, eIf (x9).isSome (eBox r₃ [v₇]), eIf (x9).isSome (eSl e_T_api_Cell v₇ ((x9.getD default).cells))] := by have hq := hO₁₄; rw [hg₁] at hq; exact hq
      obtain ⟨⟨x12, x13, m1⟩, hx₁₀, hp⟩ := bd_some hp
      obtain ⟨u₁₀, k₁₅, ca₁₀, v₈, rfl, hW₁₀⟩ := p_grid_Grid_Split.ok (h := (k₁₃.bump 15)) (g := g) (v := ((z.At.get 0).tmod ((x.length : Int) + 1))) (d := ((z.At.get 1).tmod 4)) (hO₁₅.toM [4, 5] rfl (by decide))  hx₁₀
      refine WO_c (id := 48) (caps := []) rfl (mp_cons (v := .p r₂ 0) (unw hg₁) (mp_cons (v := .i .i64 ((z.At.get 0).tmod ((x.length : Int) + 1))) rfl (mp_cons (v := .i .i64 ((z.At.get 1).tmod 4)) rfl mp_nil))) ca₁₀ ?_
      have hO₁₆ : Own B h k₁₅ [eBox r₁ [v_z_Places_At, v_z_Places_Bits, v_z_Places_Own, v_z_Raw, .i .u8 z.At.a, .i .u8 z.At.b, .i .i64 z.V], eSl e_T_api_Cell v₁ x, eSl e_T_api_Cell v₃ m, eSl e_T_api_Cell v₄ x3, eBox r₂ [v₈], eSl e_T_api_Cell v₈ m1.cells, eSl e_T_api_Cell v₆ x8, eIf (x9).isSome (eBox r₃ [v₇]), eIf (x9).isSome (eSl e_T_api_Cell v₇ ((x9.getD default).cells))] := (hO₁₅.callM [4, 5] [0, 1, 2, 3, 6, 7, 8] rfl rfl (by decide) hW₁₀ rfl).pick [0, 1, 2, 3, 7, 8, 4, 5, 6] rfl (by decide)
      refine WO_v (a_mv (v := .tu [.i .i64 x12, .i .i64 x13]) rfl) ?_
      refine WO_v (a_ext (vs := [.i .i64 x12, .i .i64 x13]) (v := .i .i64 x12) rfl rfl) ?_
      refine WO_v (a_ext (vs := [.i .i64 x12, .i .i64 x13]) (v := .i .i64 x13) rfl rfl) ?_
      refine WO_v (a_mv (v := .i .i64 x12) rfl) ?_
      refine WO_v (a_mv (v := .i .i64 x13) rfl) ?_
      refine WO_end ?_
      refine then_n ?_
      refine W_sq ?_
      refine W_rg ?_
      refine WO_v (a_mv (v := (if (x9).isSome = true then V.p r₃ 0 else V.pn)) g₂_8) ?_
      refine WO_v (a_mv (v := .i .i64 ((z.At.get 0).tmod ((x.length : Int) + 1))) rfl) ?_
      refine WO_v (a_mv (v := .i .i64 ((z.At.get 1).tmod 4)) rfl) ?_
      obtain ⟨c₁₀, hp⟩ := ck_some hp
      refine WO_v (a_add (a := ((z.At.get 1).tmod 4)) (b := 1) rfl rfl c₁₀) ?_
      refine WO_v (a_rem (a := (((z.At.get 1).tmod 4) + 1)) (b := 4) rfl rfl (by decide)) ?_
      obtain ⟨g1, hg₂, hp⟩ := bd_some hp
      replace hg₂ : x9 = some g1 := hg₂
      have hO₁₇ : Own B h k₁₅ [eBox r₁ [v_z_Places_At, v_z_Places_Bits, v_z_Places_Own, v_z_Raw, .i .u8 z.At.a, .i .u8 z.At.b, .i .i64 z.V], eSl e_T_api_Cell v₁ x, eSl e_T_api_Cell v₃ m, eSl e_T_api_Cell v₄ x3, eBox r₂ [v₈], eSl e_T_api_Cell v₈ m1.cells, eSl e_T_api_Cell v₆ x8, eBox r₃ [v₇], eSl e_T_api_Cell v₇ g1.cells] := by have hq := hO₁₆; rw [hg₂] at hq; exact hq
      obtain ⟨⟨x14, x15, m2⟩, hx₁₁, hp⟩ := bd_some hp
      obtain ⟨u₁₁, k₁₆, ca₁₁, v₉, rfl, hW₁₁⟩ := p_grid_Grid_Split.ok (h := k₁₅) (g := g1) (v := ((z.At.get 0).tmod ((x.length : Int) + 1))) (d := ((((z.At.get 1).tmod 4) + 1).tmod 4)) (hO₁₇.toM [7, 8] rfl (by decide))  hx₁₁
      refine WO_c (id := 48) (caps := []) rfl (mp_cons (v := .p r₃ 0) (unw hg₂) (mp_cons (v := .i .i64 ((z.At.get 0).tmod ((x.length : Int) + 1))) rfl (mp_cons (v := .i .i64 ((((z.At.get 1).tmod 4) + 1).tmod 4)) rfl mp_nil))) ca₁₁ ?_
      have hO₁₈ : Own B h k₁₆ [eBox r₁ [v_z_Places_At, v_z_Places_Bits, v_z_Places_Own, v_z_Raw, .i .u8 z.At.a, .i .u8 z.At.b, .i .i64 z.V], eSl e_T_api_Cell v₁ x, eSl e_T_api_Cell v₃ m, eSl e_T_api_Cell v₄ x3, eBox r₂ [v₈], eSl e_T_api_Cell v₈ m1.cells, eSl e_T_api_Cell v₆ x8, eBox r₃ [v₉], eSl e_T_api_Cell v₉ m2.cells] := (hO₁₇.callM [7, 8] [0, 1, 2, 3, 4, 5, 6] rfl rfl (by decide) hW₁₁ rfl).pick [0, 1, 2, 3, 4, 5, 6, 7, 8] rfl (by decide)
      refine WO_v (a_mv (v := .tu [.i .i64 x14, .i .i64 x15]) rfl) ?_
      refine WO_v (a_ext (vs := [.i .i64 x14, .i .i64 x15]) (v := .i .i64 x14) rfl rfl) ?_
      refine WO_v (a_ext (vs := [.i .i64 x14, .i .i64 x15]) (v := .i .i64 x15) rfl rfl) ?_
      refine WO_v (a_mv (v := .i .i64 x14) rfl) ?_
      refine WO_v (a_mv (v := .i .i64 x15) rfl) ?_
      refine WO_end ?_
      refine then_n ?_
      refine W_sq ?_
      refine W_rg ?_
      refine WO_v (a_mv (v := .i .i64 x12) rfl) ?_
      refine WO_v (a_mv (v := .i .i64 x14) rfl) ?_
      refine WO_v (a_eqI (a := x12) (b := x14) rfl rfl) ?_
      refine WO_v (a_mv (v := .b (decide (x12 = x14))) rfl) ?_
      refine WO_cut 4 (fun fr' k' => k₁₆ = k' ∧ fr' 110 = .b ((decide (x12 = x14)) && (decide (x13 = x15))) ∧ fr' 6 = .p r₂ 0 ∧ fr' 8 = .p r₃ 0) ?_ ?_
      · rcases bc (decide (x12 = x14)) with b₆ | b₆
        · skip
          refine WO_on rfl b₆ ?_
          refine WO_v (a_mv (v := .i .i64 x13) rfl) ?_
          refine WO_on rfl b₆ ?_
          refine WO_v (a_mv (v := .i .i64 x15) rfl) ?_
          refine WO_on rfl b₆ ?_
          refine WO_v (a_eqI (a := x13) (b := x15) rfl rfl) ?_
          refine WO_v (a_pickT (t := (decide (x12 = x14))) (v := .b ((decide (x12 = x14)) && (decide (x13 = x15)))) rfl b₆ (Eq.trans (b := V.b (decide (x13 = x15))) rfl (and_on b₆))) ?_
          refine WO_end ?_
          exact ⟨rfl, rfl, (Eq.trans g₂_6 (unw hg₁)), (Eq.trans g₂_8 (unw hg₂))⟩
        · skip
          refine WO_off rfl b₆ ?_
          refine WO_off rfl b₆ ?_
          refine WO_off rfl b₆ ?_
          refine WO_v (a_pickF (t := (decide (x12 = x14))) (v := .b ((decide (x12 = x14)) && (decide (x13 = x15)))) rfl b₆ (Eq.trans (b := V.b false) rfl (and_off b₆))) ?_
          refine WO_end ?_
          exact ⟨rfl, rfl, (Eq.trans g₂_6 (unw hg₁)), (Eq.trans g₂_8 (unw hg₂))⟩
      rintro frg₃ _ ⟨rfl, g₃_110, g₃_6, g₃_8⟩
      refine WO_v (a_mv (v := .b ((decide (x12 = x14)) && (decide (x13 = x15)))) g₃_110) ?_
      obtain ⟨t, hv₁, hp⟩ := bd_some hp
      refine WO_cut 7 (fun fr' k' => Own B h k' [eBox r₁ [v_z_Places_At, v_z_Places_Bits, v_z_Places_Own, v_z_Raw, .i .u8 z.At.a, .i .u8 z.At.b, .i .i64 z.V], eSl e_T_api_Cell v₁ x, eSl e_T_api_Cell v₃ m, eSl e_T_api_Cell v₄ x3, eBox r₂ [v₈], eSl e_T_api_Cell v₈ m1.cells, eSl e_T_api_Cell v₆ x8, eBox r₃ [v₉], eSl e_T_api_Cell v₉ m2.cells] ∧ fr' 118 = .b t) ?_ ?_
      · clear hp; rcases if_some hv₁ with ⟨b₇, hp⟩ | ⟨b₇, hp⟩
        · skip
          refine WO_on rfl b₇ ?_
          refine WO_v (a_mv (v := .p r₂ 0) g₃_6) ?_
          refine WO_on rfl b₇ ?_
          obtain ⟨x16, hx₁₂, hp⟩ := bd_some hp
          obtain ⟨u₁₂, k₁₇, ca₁₂, v₁₀, rfl, hW₁₂⟩ := p_grid_Grid_Cells.ok (h := k₁₆)  (hO₁₈.box 4 rfl) (hO₁₈.sl 5 rfl : Sl e_T_api_Cell k₁₆ v₈ m1.cells) hx₁₂
          refine WO_c (id := 57) (caps := []) rfl (mp_cons (v := .p r₂ 0) rfl mp_nil) ca₁₂ ?_
          have hO₁₉ : Own B h k₁₇ [eBox r₁ [v_z_Places_At, v_z_Places_Bits, v_z_Places_Own, v_z_Raw, .i .u8 z.At.a, .i .u8 z.At.b, .i .i64 z.V], eSl e_T_api_Cell v₁ x, eSl e_T_api_Cell v₃ m, eSl e_T_api_Cell v₄ x3, eBox r₂ [v₈], eSl e_T_api_Cell v₈ m1.cells, eSl e_T_api_Cell v₆ x8, eBox r₃ [v₉], eSl e_T_api_Cell v₉ m2.cells, eSl e_T_api_Cell v₁₀ x16] := hO₁₈.call hW₁₂ rfl
          refine WO_on rfl b₇ ?_
          obtain ⟨x17, hx₁₃, hp⟩ := bd_some hp
          obtain ⟨u₁₃, k₁₈, ca₁₃, v₁₁, rfl, hW₁₃⟩ := p_muntinref10_Turned.ok (h := k₁₇)  (hO₁₉.sl 9 rfl : Sl e_T_api_Cell k₁₇ v₁₀ x16) hx₁₃
          refine WO_c (id := 116) (caps := []) rfl (mp_cons (v := v₁₀) rfl mp_nil) ca₁₃ ?_
          have hO₂₀ : Own B h k₁₈ [eBox r₁ [v_z_Places_At, v_z_Places_Bits, v_z_Places_Own, v_z_Raw, .i .u8 z.At.a, .i .u8 z.At.b, .i .i64 z.V], eSl e_T_api_Cell v₁ x, eSl e_T_api_Cell v₃ m, eSl e_T_api_Cell v₄ x3, eBox r₂ [v₈], eSl e_T_api_Cell v₈ m1.cells, eSl e_T_api_Cell v₆ x8, eBox r₃ [v₉], eSl e_T_api_Cell v₉ m2.cells, eSl e_T_api_Cell v₁₀ x16, eSl e_T_api_Cell v₁₁ x17] := hO₁₉.call hW₁₃ rfl
          refine WO_on rfl b₇ ?_
          refine WO_v (a_mv (v := .p r₃ 0) g₃_8) ?_
          refine WO_on rfl b₇ ?_
          obtain ⟨x18, hx₁₄, hp⟩ := bd_some hp
          obtain ⟨u₁₄, k₁₉, ca₁₄, v₁₂, rfl, hW₁₄⟩ := p_grid_Grid_Cells.ok (h := k₁₈)  (hO₂₀.box 7 rfl) (hO₂₀.sl 8 rfl : Sl e_T_api_Cell k₁₈ v₉ m2.cells) hx₁₄
          refine WO_c (id := 57) (caps := []) rfl (mp_cons (v := .p r₃ 0) rfl mp_nil) ca₁₄ ?_
          have hO₂₁ : Own B h k₁₉ [eBox r₁ [v_z_Places_At, v_z_Places_Bits, v_z_Places_Own, v_z_Raw, .i .u8 z.At.a, .i .u8 z.At.b, .i .i64 z.V], eSl e_T_api_Cell v₁ x, eSl e_T_api_Cell v₃ m, eSl e_T_api_Cell v₄ x3, eBox r₂ [v₈], eSl e_T_api_Cell v₈ m1.cells, eSl e_T_api_Cell v₆ x8, eBox r₃ [v₉], eSl e_T_api_Cell v₉ m2.cells, eSl e_T_api_Cell v₁₀ x16, eSl e_T_api_Cell v₁₁ x17, eSl e_T_api_Cell v₁₂ x18] := hO₂₀.call hW₁₄ rfl
          refine WO_on rfl b₇ ?_
          obtain ⟨x19, hx₁₅, hp⟩ := bd_some hp
          obtain ⟨u₁₅, k₂₀, ca₁₅, rfl, hW₁₅⟩ := p_muntinref10_Same.ok (h := k₁₉)  (hO₂₁.sl 10 rfl : Sl e_T_api_Cell k₁₉ v₁₁ x17) (hO₂₁.sl 11 rfl : Sl e_T_api_Cell k₁₉ v₁₂ x18) hx₁₅
          refine WO_c (id := 56) (caps := []) rfl (mp_cons (v := v₁₁) rfl (mp_cons (v := v₁₂) rfl mp_nil)) ca₁₅ ?_
          have hO₂₂ : Own B h k₂₀ [eBox r₁ [v_z_Places_At, v_z_Places_Bits, v_z_Places_Own, v_z_Raw, .i .u8 z.At.a, .i .u8 z.At.b, .i .i64 z.V], eSl e_T_api_Cell v₁ x, eSl e_T_api_Cell v₃ m, eSl e_T_api_Cell v₄ x3, eBox r₂ [v₈], eSl e_T_api_Cell v₈ m1.cells, eSl e_T_api_Cell v₆ x8, eBox r₃ [v₉], eSl e_T_api_Cell v₉ m2.cells, eSl e_T_api_Cell v₁₀ x16, eSl e_T_api_Cell v₁₁ x17, eSl e_T_api_Cell v₁₂ x18] := hO₂₁.call hW₁₅ rfl
          refine WO_v (a_pickT (t := ((decide (x12 = x14)) && (decide (x13 = x15)))) (v := .b t) rfl b₇ (Eq.trans (b := V.b x19) rfl (congrArg V.b (Option.some.inj hp)))) ?_
          refine WO_end ?_
          exact ⟨hO₂₂.pick [0, 1, 2, 3, 4, 5, 6, 7, 8] rfl (by decide), rfl⟩
        · skip
          refine WO_off rfl b₇ ?_
          refine WO_off rfl b₇ ?_
          refine WO_off rfl b₇ ?_
          refine WO_off rfl b₇ ?_
          refine WO_off rfl b₇ ?_
          refine WO_off rfl b₇ ?_
          refine WO_v (a_pickF (t := ((decide (x12 = x14)) && (decide (x13 = x15)))) (v := .b t) rfl b₇ (Eq.trans (b := V.b false) rfl (congrArg V.b (Option.some.inj hp)))) ?_
          refine WO_end ?_
          exact ⟨hO₁₈.pick [0, 1, 2, 3, 4, 5, 6, 7, 8] rfl (by decide), rfl⟩
      rintro frg₄ k₂₁ ⟨hO₂₃, g₄_118⟩
      refine WO_v (a_mv (v := .b t) g₄_118) ?_
      refine WO_end ?_
      refine then_n ?_
      refine W_rt ?_
      refine Ret_r (rs_t (n := 2) (v := .b t) rfl rs_nil) ?_
      have hp := Option.some.inj hp; subst hp
      exact (And.intro rfl (hO₂₃.pick [] rfl (by decide)))

end Mu
