/- The code comes to what was worked out. -/
import Derived.Test.YteedifiifkghkaaMuDf
import Derived.Test.YteedifiifkghkaaMuPa
import Derived.Test.YteedifiifkghkaaMuC1
set_option linter.unusedVariables false
set_option linter.unnecessarySimpa false
set_option linter.unusedSimpArgs false
set_option maxHeartbeats 2000000
set_option maxRecDepth 10000
namespace Mu
open Go (IntKind BinOp UnOp)
theorem p_muntinlaw13_JoinPaths.ok {h : Hp} {z : T_muntinref10_Places} {v : Int} {w : Int} {v_z_At : V} {v_z_Bits : V} {v_z_Own : V} (s_z_At : Sl e_u8 h v_z_At z.At) (s_z_Bits : Sl e_u8 h v_z_Bits z.Bits) (s_z_Own : Sl e_i8 h v_z_Own z.Own) {r : Bool} (hp : p_muntinlaw13_JoinPaths z v w = some r) :
    ∃ u k', Is G 7 [.ag [v_z_At, v_z_Bits, v_z_Own], .i .i64 v, .i .i64 w] h u k' ∧ V.b r = u ∧ Own (fun r => r < h.n) h k' [] := by
  refine WC.is (WC_of G_F_muntinlaw13_JoinPaths ?_)
  unfold p_muntinlaw13_JoinPaths at hp
  let B : Nat → Prop := (fun r => r < h.n)
  have hO : Own B h h [] := Own.start0 h
  refine W_sq ?_
  refine W_rg ?_
  refine WO_x (hO.boxd (v := .ag [v_z_At, v_z_Bits, v_z_Own]) (cs := [v_z_At, v_z_Bits, v_z_Own]) hO.fr rfl rfl) ?_
  rintro _ k₁ ⟨r₁, rfl, n₁, f₁, hW⟩
  have hO₁ : Own B h k₁ [eBox r₁ [v_z_At, v_z_Bits, v_z_Own]] := hW
  refine WO_v (a_mv (v := .b false) rfl) ?_
  refine WO_end ?_
  refine then_n ?_
  refine W_sq ?_
  refine W_rg ?_
  refine WO_v (a_ldbA (cs := [v_z_At, v_z_Bits, v_z_Own]) (ws := [v_z_At, v_z_Bits, v_z_Own]) (hO₁.box 0 rfl) rfl rfl) ?_
  obtain ⟨⟨x, x1⟩, hx₁, hp⟩ := bd_some hp
  obtain ⟨u₁, k₂, ca₁, v₁, v₂, rfl, hW₁⟩ := p_muntinref10_Make.ok (h := k₁)  (hO₁.rd0 s_z_At.rd : Sl e_u8 k₁ v_z_At z.At) (hO₁.rd0 s_z_Bits.rd : Sl e_u8 k₁ v_z_Bits z.Bits) (hO₁.rd0 s_z_Own.rd : Sl e_i8 k₁ v_z_Own z.Own) hx₁
  refine WO_c (id := 28) (caps := []) rfl (mp_cons (v := .ag [v_z_At, v_z_Bits, v_z_Own]) rfl (mp_cons (v := .i .i64 20) rfl mp_nil)) ca₁ ?_
  have hO₂ : Own B h k₂ [eBox r₁ [v_z_At, v_z_Bits, v_z_Own], eSl e_T_api_Cell v₁ x, eSl e_T_api_Point v₂ x1] := hO₁.call hW₁ rfl
  refine WO_v (a_mv (v := .tu [v₁, v₂]) rfl) ?_
  refine WO_v (a_ext (vs := [v₁, v₂]) (v := v₁) rfl rfl) ?_
  refine WO_v (a_ext (vs := [v₁, v₂]) (v := v₂) rfl rfl) ?_
  refine WO_v (a_mv (v := v₁) rfl) ?_
  refine WO_v (a_mv (v := v₂) rfl) ?_
  refine WO_end ?_
  refine then_n ?_
  refine W_sq ?_
  refine W_sq ?_
  refine W_dr ?_
  have hW := hO₂.bump 19
  have fr₁ := Fresh.start k₂ 19
  have nb₁ : ∀ {i : Nat}, h.n ≤ k₂.n + i := Nat.le_trans hO₂.n (Nat.le_add_right _ _)
  have hO₃ : Own B h (k₂.bump 19) [eBox r₁ [v_z_At, v_z_Bits, v_z_Own], eSl e_T_api_Cell v₁ x, eSl e_T_api_Point v₂ x1] := hW
  refine WD_v (a_mv (v := .i .i64 v) rfl) ?_
  refine WD_v (a_mv (v := .i .i64 w) rfl) ?_
  refine WD_v (a_build (cs := e_A2_i64.c (⟨v, w⟩ : A2 Int)) (by rw [(ev_cons (v := .i .i64 v) rfl (ev_cons (v := .i .i64 w) rfl ev_nil))]; rfl)) ?_
  refine WD_v (a_mv (v := .i .i64 v) rfl) ?_
  refine WD_v (a_mx (a := 0) (b := v) rfl rfl) ?_
  refine WD_v (a_mv (v := v₁) rfl) ?_
  refine WD_v (a_len (hO₃.sl 1 rfl : Sl e_T_api_Cell (k₂.bump 19) v₁ x) rfl) ?_
  obtain ⟨c₁, hp⟩ := ck_some hp
  refine WD_v (a_add (a := (x.length : Int)) (b := 1) rfl rfl c₁) ?_
  obtain ⟨c₂, hp⟩ := ck_some hp
  refine WD_v (a_rem (a := (max 0 v)) (b := ((x.length : Int) + 1)) rfl rfl c₂) ?_
  refine WD_v (a_mv (v := .i .i64 w) rfl) ?_
  refine WD_v (a_mx (a := 0) (b := w) rfl rfl) ?_
  refine WD_v (a_mv (v := v₁) rfl) ?_
  refine WD_v (a_len (hO₃.sl 1 rfl : Sl e_T_api_Cell (k₂.bump 19) v₁ x) rfl) ?_
  refine WD_v (a_add (a := (x.length : Int)) (b := 1) rfl rfl c₁) ?_
  refine WD_v (a_rem (a := (max 0 w)) (b := ((x.length : Int) + 1)) rfl rfl c₂) ?_
  refine WD_v (a_build (cs := e_A2_i64.c (⟨(max 0 v).tmod ((x.length : Int) + 1), (max 0 w).tmod ((x.length : Int) + 1)⟩ : A2 Int)) (by rw [(ev_cons (v := .i .i64 ((max 0 v).tmod ((x.length : Int) + 1))) rfl (ev_cons (v := .i .i64 ((max 0 w).tmod ((x.length : Int) + 1))) rfl ev_nil))]; rfl)) ?_
  refine WD_x (hO₃.bsl (E := e_A2_i64) (l := [(⟨v, w⟩ : A2 Int), (⟨(max 0 v).tmod ((x.length : Int) + 1), (max 0 w).tmod ((x.length : Int) + 1)⟩ : A2 Int)]) ⟨fr₁.m 16 (by decide) (by decide), nb₁⟩ (by rw [(ev_cons (v := .ag (e_A2_i64.c (⟨v, w⟩ : A2 Int))) rfl (ev_cons (v := .ag (e_A2_i64.c (⟨(max 0 v).tmod ((x.length : Int) + 1), (max 0 w).tmod ((x.length : Int) + 1)⟩ : A2 Int))) rfl ev_nil))]; rfl) rfl) ?_
  rintro v₃ k₄ z₁ ⟨r₂, f₂, hW⟩
  have fr₂ := fr₁.kept f₂ (by decide)
  have hO₄ : Own B h k₄ [eBox r₁ [v_z_At, v_z_Bits, v_z_Own], eSl e_T_api_Cell v₁ x, eSl e_T_api_Point v₂ x1, eSl e_A2_i64 v₃ [(⟨v, w⟩ : A2 Int), (⟨(max 0 v).tmod ((x.length : Int) + 1), (max 0 w).tmod ((x.length : Int) + 1)⟩ : A2 Int)]] := hW
  refine WD_v (a_len (hO₄.sl 3 rfl : Sl e_A2_i64 k₄ v₃ [(⟨v, w⟩ : A2 Int), (⟨(max 0 v).tmod ((x.length : Int) + 1), (max 0 w).tmod ((x.length : Int) + 1)⟩ : A2 Int)]) rfl) ?_
  refine WD_v (a_mv (v := .i .i64 0) rfl) ?_
  refine WD_end ?_
  refine And.intro ?_ ?_
  · intro q hq
    cases hq
  refine then_n ?_
  refine W_bl ?_
  obtain ⟨o₁, ho₁, hp⟩ := bd_some hp
  refine W.mono (Q := fun e fr k => match (generalizing := false) o₁ with
      | .inl _ => e = (.exit 0) ∧ Own B h k []
      | .inr _ => e = .ret ∧ fr 6 = .b false ∧ Own B h k []) ?_ ?_
  · clear hp
    refine W_loopF (fun st fr k => match st with | x2 => fr 7 = v₁ ∧ fr 38 = v₃ ∧ fr 39 = .i .i64 ([(⟨v, w⟩ : A2 Int), (⟨(max 0 v).tmod ((x.length : Int) + 1), (max 0 w).tmod ((x.length : Int) + 1)⟩ : A2 Int)].length : Int) ∧ fr 40 = .i .i64 x2 ∧ Own B h k [eSl e_T_api_Cell v₁ x, eSl e_A2_i64 v₃ [(⟨v, w⟩ : A2 Int), (⟨(max 0 v).tmod ((x.length : Int) + 1), (max 0 w).tmod ((x.length : Int) + 1)⟩ : A2 Int)]]) ho₁ (s := 0) (And.intro (rfl) (And.intro (rfl) (And.intro (rfl) (And.intro (rfl) (hO₄.pick [1, 3] rfl (by decide)))))) ?_
    rintro x2 q₂ k₆ ⟨q₂_7, q₂_38, q₂_39, q₂_40, hO₆⟩ o₂ hp
    dsimp only [p_muntinlaw13_JoinPaths.s0] at hp
    refine W_sq ?_
    refine W_rg ?_
    refine WO_v (a_lss (a := x2) (b := ([(⟨v, w⟩ : A2 Int), (⟨(max 0 v).tmod ((x.length : Int) + 1), (max 0 w).tmod ((x.length : Int) + 1)⟩ : A2 Int)].length : Int)) q₂_40 q₂_39) ?_
    refine WO_end ?_
    refine then_n ?_
    refine W_sq ?_
    rcases if_some hp with ⟨b₁, hp⟩ | ⟨b₁, hp⟩
    · refine W_cT (t := (decide (x2 < ([(⟨v, w⟩ : A2 Int), (⟨(max 0 v).tmod ((x.length : Int) + 1), (max 0 w).tmod ((x.length : Int) + 1)⟩ : A2 Int)].length : Int)))) rfl b₁ ?_
      refine W_sk ?_
      refine then_n ?_
      refine W_sq ?_
      refine W_bl ?_
      refine W_sq ?_
      refine W_rg ?_
      obtain ⟨c₃, hp⟩ := ck_some hp
      refine WO_v (a_ixa (E := e_A2_i64) (z := x2) (hO₆.sl 1 rfl : Sl e_A2_i64 k₆ v₃ [(⟨v, w⟩ : A2 Int), (⟨(max 0 v).tmod ((x.length : Int) + 1), (max 0 w).tmod ((x.length : Int) + 1)⟩ : A2 Int)]) q₂_38 q₂_40 c₃) ?_
      refine WO_v (a_ldA (E := e_A2_i64) (hO₆.sl 1 rfl : Sl e_A2_i64 k₆ v₃ [(⟨v, w⟩ : A2 Int), (⟨(max 0 v).tmod ((x.length : Int) + 1), (max 0 w).tmod ((x.length : Int) + 1)⟩ : A2 Int)]) rfl (toNat_lt c₃)) ?_
      refine WO_x (hO₆.alloc (cs := e_A2_i64.c (⟨0, 0⟩ : A2 Int)) hO₆.fr) ?_
      rintro _ k₇ ⟨r₃, rfl, n₂, f₃, hW⟩
      have hO₇ : Own B h k₇ [eSl e_T_api_Cell v₁ x, eSl e_A2_i64 v₃ [(⟨v, w⟩ : A2 Int), (⟨(max 0 v).tmod ((x.length : Int) + 1), (max 0 w).tmod ((x.length : Int) + 1)⟩ : A2 Int)], eBox r₃ (e_A2_i64.c (⟨0, 0⟩ : A2 Int))] := hW
      refine WO_x (hO₇.stb (ws := e_A2_i64.c (gi [(⟨v, w⟩ : A2 Int), (⟨(max 0 v).tmod ((x.length : Int) + 1), (max 0 w).tmod ((x.length : Int) + 1)⟩ : A2 Int)] (x2 : Int).toNat)) (cs' := e_A2_i64.c (gi [(⟨v, w⟩ : A2 Int), (⟨(max 0 v).tmod ((x.length : Int) + 1), (max 0 w).tmod ((x.length : Int) + 1)⟩ : A2 Int)] (x2 : Int).toNat)) (v := .ag (e_A2_i64.c (gi [(⟨v, w⟩ : A2 Int), (⟨(max 0 v).tmod ((x.length : Int) + 1), (max 0 w).tmod ((x.length : Int) + 1)⟩ : A2 Int)] (x2 : Int).toNat))) 2 rfl rfl rfl rfl ⟨rfl, Nat.le_of_ble_eq_true rfl, rfl⟩ rfl) ?_
      rintro _ k₈ ⟨rfl, f₄, m₁, hW⟩
      have hO₈ : Own B h k₈ [eSl e_T_api_Cell v₁ x, eSl e_A2_i64 v₃ [(⟨v, w⟩ : A2 Int), (⟨(max 0 v).tmod ((x.length : Int) + 1), (max 0 w).tmod ((x.length : Int) + 1)⟩ : A2 Int)], eBox r₃ (e_A2_i64.c (gi [(⟨v, w⟩ : A2 Int), (⟨(max 0 v).tmod ((x.length : Int) + 1), (max 0 w).tmod ((x.length : Int) + 1)⟩ : A2 Int)] (x2 : Int).toNat))] := hW
      refine WO_end ?_
      refine then_n ?_
      refine W_sq ?_
      refine W_rg ?_
      refine WO_v (a_mv (v := v₁) q₂_7) ?_
      refine WO_v (a_ixaa (o := 0) (o' := 0) (z := 0) rfl rfl (by decide) rfl) ?_
      refine WO_v (a_ldb (cs := (e_A2_i64.c (gi [(⟨v, w⟩ : A2 Int), (⟨(max 0 v).tmod ((x.length : Int) + 1), (max 0 w).tmod ((x.length : Int) + 1)⟩ : A2 Int)] (x2 : Int).toNat))) (v := .i .i64 ((gi [(⟨v, w⟩ : A2 Int), (⟨(max 0 v).tmod ((x.length : Int) + 1), (max 0 w).tmod ((x.length : Int) + 1)⟩ : A2 Int)] (x2 : Int).toNat).get 0)) (hO₈.box 2 rfl) rfl rfl) ?_
      refine WO_v (a_ixaa (o := 0) (o' := 1) (z := 1) rfl rfl (by decide) rfl) ?_
      refine WO_v (a_ldb (cs := (e_A2_i64.c (gi [(⟨v, w⟩ : A2 Int), (⟨(max 0 v).tmod ((x.length : Int) + 1), (max 0 w).tmod ((x.length : Int) + 1)⟩ : A2 Int)] (x2 : Int).toNat))) (v := .i .i64 ((gi [(⟨v, w⟩ : A2 Int), (⟨(max 0 v).tmod ((x.length : Int) + 1), (max 0 w).tmod ((x.length : Int) + 1)⟩ : A2 Int)] (x2 : Int).toNat).get 1)) (hO₈.box 2 rfl) rfl rfl) ?_
      obtain ⟨⟨x3, x4⟩, hx₂, hp⟩ := bd_some hp
      obtain ⟨u₂, k₉, ca₂, v₄, rfl, hW₂⟩ := p_join_Path.ok (h := k₈)  (hO₈.sl 0 rfl : Sl e_T_api_Cell k₈ v₁ x) hx₂
      refine WO_c (id := 35) (caps := []) rfl (mp_cons (v := v₁) rfl (mp_cons (v := .i .i64 ((gi [(⟨v, w⟩ : A2 Int), (⟨(max 0 v).tmod ((x.length : Int) + 1), (max 0 w).tmod ((x.length : Int) + 1)⟩ : A2 Int)] (x2 : Int).toNat).get 0)) rfl (mp_cons (v := .i .i64 ((gi [(⟨v, w⟩ : A2 Int), (⟨(max 0 v).tmod ((x.length : Int) + 1), (max 0 w).tmod ((x.length : Int) + 1)⟩ : A2 Int)] (x2 : Int).toNat).get 1)) rfl mp_nil))) ca₂ ?_
      have hO₉ : Own B h k₉ [eSl e_T_api_Cell v₁ x, eSl e_A2_i64 v₃ [(⟨v, w⟩ : A2 Int), (⟨(max 0 v).tmod ((x.length : Int) + 1), (max 0 w).tmod ((x.length : Int) + 1)⟩ : A2 Int)], eBox r₃ (e_A2_i64.c (gi [(⟨v, w⟩ : A2 Int), (⟨(max 0 v).tmod ((x.length : Int) + 1), (max 0 w).tmod ((x.length : Int) + 1)⟩ : A2 Int)] (x2 : Int).toNat)), eSl eInt v₄ x3] := hO₈.call hW₂ rfl
      refine WO_v (a_mv (v := .tu [v₄, .i .i64 x4]) rfl) ?_
      refine WO_v (a_ext (vs := [v₄, .i .i64 x4]) (v := v₄) rfl rfl) ?_
      refine WO_v (a_ext (vs := [v₄, .i .i64 x4]) (v := .i .i64 x4) rfl rfl) ?_
      refine WO_v (a_mv (v := v₄) rfl) ?_
      refine WO_v (a_mv (v := .i .i64 x4) rfl) ?_
      refine WO_end ?_
      refine then_n ?_
      refine W_sq ?_
      refine W_sq ?_
      refine W_rg ?_
      refine WO_v (a_ixaa (o := 0) (o' := 0) (z := 0) rfl rfl (by decide) rfl) ?_
      refine WO_v (a_ldb (cs := (e_A2_i64.c (gi [(⟨v, w⟩ : A2 Int), (⟨(max 0 v).tmod ((x.length : Int) + 1), (max 0 w).tmod ((x.length : Int) + 1)⟩ : A2 Int)] (x2 : Int).toNat))) (v := .i .i64 ((gi [(⟨v, w⟩ : A2 Int), (⟨(max 0 v).tmod ((x.length : Int) + 1), (max 0 w).tmod ((x.length : Int) + 1)⟩ : A2 Int)] (x2 : Int).toNat).get 0)) (hO₉.box 2 rfl) rfl rfl) ?_
      refine WO_v (a_ixaa (o := 0) (o' := 1) (z := 1) rfl rfl (by decide) rfl) ?_
      refine WO_v (a_ldb (cs := (e_A2_i64.c (gi [(⟨v, w⟩ : A2 Int), (⟨(max 0 v).tmod ((x.length : Int) + 1), (max 0 w).tmod ((x.length : Int) + 1)⟩ : A2 Int)] (x2 : Int).toNat))) (v := .i .i64 ((gi [(⟨v, w⟩ : A2 Int), (⟨(max 0 v).tmod ((x.length : Int) + 1), (max 0 w).tmod ((x.length : Int) + 1)⟩ : A2 Int)] (x2 : Int).toNat).get 1)) (hO₉.box 2 rfl) rfl rfl) ?_
      refine WO_v (a_mn (a := ((gi [(⟨v, w⟩ : A2 Int), (⟨(max 0 v).tmod ((x.length : Int) + 1), (max 0 w).tmod ((x.length : Int) + 1)⟩ : A2 Int)] (x2 : Int).toNat).get 0)) (b := ((gi [(⟨v, w⟩ : A2 Int), (⟨(max 0 v).tmod ((x.length : Int) + 1), (max 0 w).tmod ((x.length : Int) + 1)⟩ : A2 Int)] (x2 : Int).toNat).get 1)) rfl rfl) ?_
      refine WO_v (a_lss (a := (min ((gi [(⟨v, w⟩ : A2 Int), (⟨(max 0 v).tmod ((x.length : Int) + 1), (max 0 w).tmod ((x.length : Int) + 1)⟩ : A2 Int)] (x2 : Int).toNat).get 0) ((gi [(⟨v, w⟩ : A2 Int), (⟨(max 0 v).tmod ((x.length : Int) + 1), (max 0 w).tmod ((x.length : Int) + 1)⟩ : A2 Int)] (x2 : Int).toNat).get 1))) (b := 0) rfl rfl) ?_
      refine WO_v (a_mv (v := .b (decide ((min ((gi [(⟨v, w⟩ : A2 Int), (⟨(max 0 v).tmod ((x.length : Int) + 1), (max 0 w).tmod ((x.length : Int) + 1)⟩ : A2 Int)] (x2 : Int).toNat).get 0) ((gi [(⟨v, w⟩ : A2 Int), (⟨(max 0 v).tmod ((x.length : Int) + 1), (max 0 w).tmod ((x.length : Int) + 1)⟩ : A2 Int)] (x2 : Int).toNat).get 1)) < 0))) rfl) ?_
      refine WO_cut 9 (fun fr' k' => k₉ = k' ∧ fr' 68 = .b ((decide ((min ((gi [(⟨v, w⟩ : A2 Int), (⟨(max 0 v).tmod ((x.length : Int) + 1), (max 0 w).tmod ((x.length : Int) + 1)⟩ : A2 Int)] (x2 : Int).toNat).get 0) ((gi [(⟨v, w⟩ : A2 Int), (⟨(max 0 v).tmod ((x.length : Int) + 1), (max 0 w).tmod ((x.length : Int) + 1)⟩ : A2 Int)] (x2 : Int).toNat).get 1)) < 0)) || (decide ((x.length : Int) ≤ (max ((gi [(⟨v, w⟩ : A2 Int), (⟨(max 0 v).tmod ((x.length : Int) + 1), (max 0 w).tmod ((x.length : Int) + 1)⟩ : A2 Int)] (x2 : Int).toNat).get 0) ((gi [(⟨v, w⟩ : A2 Int), (⟨(max 0 v).tmod ((x.length : Int) + 1), (max 0 w).tmod ((x.length : Int) + 1)⟩ : A2 Int)] (x2 : Int).toNat).get 1))))) ∧ fr' 10 = .p r₃ 0 ∧ fr' 11 = v₄ ∧ fr' 12 = .i .i64 x4 ∧ fr' 38 = v₃ ∧ fr' 39 = .i .i64 ([(⟨v, w⟩ : A2 Int), (⟨(max 0 v).tmod ((x.length : Int) + 1), (max 0 w).tmod ((x.length : Int) + 1)⟩ : A2 Int)].length : Int) ∧ fr' 40 = .i .i64 x2 ∧ fr' 7 = v₁) ?_ ?_
      · rcases bc (decide ((min ((gi [(⟨v, w⟩ : A2 Int), (⟨(max 0 v).tmod ((x.length : Int) + 1), (max 0 w).tmod ((x.length : Int) + 1)⟩ : A2 Int)] (x2 : Int).toNat).get 0) ((gi [(⟨v, w⟩ : A2 Int), (⟨(max 0 v).tmod ((x.length : Int) + 1), (max 0 w).tmod ((x.length : Int) + 1)⟩ : A2 Int)] (x2 : Int).toNat).get 1)) < 0)) with b₂ | b₂
        · skip
          refine WO_off rfl b₂ ?_
          refine WO_off rfl b₂ ?_
          refine WO_off rfl b₂ ?_
          refine WO_off rfl b₂ ?_
          refine WO_off rfl b₂ ?_
          refine WO_off rfl b₂ ?_
          refine WO_off rfl b₂ ?_
          refine WO_off rfl b₂ ?_
          refine WO_v (a_pickT (t := (decide ((min ((gi [(⟨v, w⟩ : A2 Int), (⟨(max 0 v).tmod ((x.length : Int) + 1), (max 0 w).tmod ((x.length : Int) + 1)⟩ : A2 Int)] (x2 : Int).toNat).get 0) ((gi [(⟨v, w⟩ : A2 Int), (⟨(max 0 v).tmod ((x.length : Int) + 1), (max 0 w).tmod ((x.length : Int) + 1)⟩ : A2 Int)] (x2 : Int).toNat).get 1)) < 0))) (v := .b ((decide ((min ((gi [(⟨v, w⟩ : A2 Int), (⟨(max 0 v).tmod ((x.length : Int) + 1), (max 0 w).tmod ((x.length : Int) + 1)⟩ : A2 Int)] (x2 : Int).toNat).get 0) ((gi [(⟨v, w⟩ : A2 Int), (⟨(max 0 v).tmod ((x.length : Int) + 1), (max 0 w).tmod ((x.length : Int) + 1)⟩ : A2 Int)] (x2 : Int).toNat).get 1)) < 0)) || (decide ((x.length : Int) ≤ (max ((gi [(⟨v, w⟩ : A2 Int), (⟨(max 0 v).tmod ((x.length : Int) + 1), (max 0 w).tmod ((x.length : Int) + 1)⟩ : A2 Int)] (x2 : Int).toNat).get 0) ((gi [(⟨v, w⟩ : A2 Int), (⟨(max 0 v).tmod ((x.length : Int) + 1), (max 0 w).tmod ((x.length : Int) + 1)⟩ : A2 Int)] (x2 : Int).toNat).get 1)))))) rfl b₂ (Eq.trans (b := V.b true) rfl (or_off b₂))) ?_
          refine WO_end ?_
          exact ⟨rfl, rfl, rfl, rfl, rfl, q₂_38, q₂_39, q₂_40, q₂_7⟩
        · skip
          refine WO_on rfl b₂ ?_
          refine WO_v (a_ixaa (o := 0) (o' := 0) (z := 0) rfl rfl (by decide) rfl) ?_
          refine WO_on rfl b₂ ?_
          refine WO_v (a_ldb (cs := (e_A2_i64.c (gi [(⟨v, w⟩ : A2 Int), (⟨(max 0 v).tmod ((x.length : Int) + 1), (max 0 w).tmod ((x.length : Int) + 1)⟩ : A2 Int)] (x2 : Int).toNat))) (v := .i .i64 ((gi [(⟨v, w⟩ : A2 Int), (⟨(max 0 v).tmod ((x.length : Int) + 1), (max 0 w).tmod ((x.length : Int) + 1)⟩ : A2 Int)] (x2 : Int).toNat).get 0)) (hO₉.box 2 rfl) rfl rfl) ?_
          refine WO_on rfl b₂ ?_
          refine WO_v (a_ixaa (o := 0) (o' := 1) (z := 1) rfl rfl (by decide) rfl) ?_
          refine WO_on rfl b₂ ?_
          refine WO_v (a_ldb (cs := (e_A2_i64.c (gi [(⟨v, w⟩ : A2 Int), (⟨(max 0 v).tmod ((x.length : Int) + 1), (max 0 w).tmod ((x.length : Int) + 1)⟩ : A2 Int)] (x2 : Int).toNat))) (v := .i .i64 ((gi [(⟨v, w⟩ : A2 Int), (⟨(max 0 v).tmod ((x.length : Int) + 1), (max 0 w).tmod ((x.length : Int) + 1)⟩ : A2 Int)] (x2 : Int).toNat).get 1)) (hO₉.box 2 rfl) rfl rfl) ?_
          refine WO_on rfl b₂ ?_
          refine WO_v (a_mx (a := ((gi [(⟨v, w⟩ : A2 Int), (⟨(max 0 v).tmod ((x.length : Int) + 1), (max 0 w).tmod ((x.length : Int) + 1)⟩ : A2 Int)] (x2 : Int).toNat).get 0)) (b := ((gi [(⟨v, w⟩ : A2 Int), (⟨(max 0 v).tmod ((x.length : Int) + 1), (max 0 w).tmod ((x.length : Int) + 1)⟩ : A2 Int)] (x2 : Int).toNat).get 1)) rfl rfl) ?_
          refine WO_on rfl b₂ ?_
          refine WO_v (a_mv (v := v₁) q₂_7) ?_
          refine WO_on rfl b₂ ?_
          refine WO_v (a_len (hO₉.sl 0 rfl : Sl e_T_api_Cell k₉ v₁ x) rfl) ?_
          refine WO_on rfl b₂ ?_
          refine WO_v (a_geq (a := (max ((gi [(⟨v, w⟩ : A2 Int), (⟨(max 0 v).tmod ((x.length : Int) + 1), (max 0 w).tmod ((x.length : Int) + 1)⟩ : A2 Int)] (x2 : Int).toNat).get 0) ((gi [(⟨v, w⟩ : A2 Int), (⟨(max 0 v).tmod ((x.length : Int) + 1), (max 0 w).tmod ((x.length : Int) + 1)⟩ : A2 Int)] (x2 : Int).toNat).get 1))) (b := (x.length : Int)) rfl rfl) ?_
          refine WO_v (a_pickF (t := (decide ((min ((gi [(⟨v, w⟩ : A2 Int), (⟨(max 0 v).tmod ((x.length : Int) + 1), (max 0 w).tmod ((x.length : Int) + 1)⟩ : A2 Int)] (x2 : Int).toNat).get 0) ((gi [(⟨v, w⟩ : A2 Int), (⟨(max 0 v).tmod ((x.length : Int) + 1), (max 0 w).tmod ((x.length : Int) + 1)⟩ : A2 Int)] (x2 : Int).toNat).get 1)) < 0))) (v := .b ((decide ((min ((gi [(⟨v, w⟩ : A2 Int), (⟨(max 0 v).tmod ((x.length : Int) + 1), (max 0 w).tmod ((x.length : Int) + 1)⟩ : A2 Int)] (x2 : Int).toNat).get 0) ((gi [(⟨v, w⟩ : A2 Int), (⟨(max 0 v).tmod ((x.length : Int) + 1), (max 0 w).tmod ((x.length : Int) + 1)⟩ : A2 Int)] (x2 : Int).toNat).get 1)) < 0)) || (decide ((x.length : Int) ≤ (max ((gi [(⟨v, w⟩ : A2 Int), (⟨(max 0 v).tmod ((x.length : Int) + 1), (max 0 w).tmod ((x.length : Int) + 1)⟩ : A2 Int)] (x2 : Int).toNat).get 0) ((gi [(⟨v, w⟩ : A2 Int), (⟨(max 0 v).tmod ((x.length : Int) + 1), (max 0 w).tmod ((x.length : Int) + 1)⟩ : A2 Int)] (x2 : Int).toNat).get 1)))))) rfl b₂ (Eq.trans (b := V.b (decide ((x.length : Int) ≤ (max ((gi [(⟨v, w⟩ : A2 Int), (⟨(max 0 v).tmod ((x.length : Int) + 1), (max 0 w).tmod ((x.length : Int) + 1)⟩ : A2 Int)] (x2 : Int).toNat).get 0) ((gi [(⟨v, w⟩ : A2 Int), (⟨(max 0 v).tmod ((x.length : Int) + 1), (max 0 w).tmod ((x.length : Int) + 1)⟩ : A2 Int)] (x2 : Int).toNat).get 1))))) rfl (or_on b₂))) ?_
          refine WO_end ?_
          exact ⟨rfl, rfl, rfl, rfl, rfl, q₂_38, q₂_39, q₂_40, q₂_7⟩
      rintro frg₁ _ ⟨rfl, g₁_68, g₁_10, g₁_11, g₁_12, g₁_38, g₁_39, g₁_40, g₁_7⟩
      refine WO_end ?_
      refine then_n ?_
      rcases if_some hp with ⟨b₃, hp⟩ | ⟨b₃, hp⟩
      · refine W_cT (t := ((decide ((min ((gi [(⟨v, w⟩ : A2 Int), (⟨(max 0 v).tmod ((x.length : Int) + 1), (max 0 w).tmod ((x.length : Int) + 1)⟩ : A2 Int)] (x2 : Int).toNat).get 0) ((gi [(⟨v, w⟩ : A2 Int), (⟨(max 0 v).tmod ((x.length : Int) + 1), (max 0 w).tmod ((x.length : Int) + 1)⟩ : A2 Int)] (x2 : Int).toNat).get 1)) < 0)) || (decide ((x.length : Int) ≤ (max ((gi [(⟨v, w⟩ : A2 Int), (⟨(max 0 v).tmod ((x.length : Int) + 1), (max 0 w).tmod ((x.length : Int) + 1)⟩ : A2 Int)] (x2 : Int).toNat).get 0) ((gi [(⟨v, w⟩ : A2 Int), (⟨(max 0 v).tmod ((x.length : Int) + 1), (max 0 w).tmod ((x.length : Int) + 1)⟩ : A2 Int)] (x2 : Int).toNat).get 1)))))) g₁_68 b₃ ?_
        refine W_sq ?_
        refine W_sq ?_
        refine W_rg ?_
        refine WO_v (a_mv (v := .i .i64 x4) g₁_12) ?_
        refine WO_v (a_neI (a := x4) (b := 2) rfl rfl) ?_
        refine WO_v (a_mv (v := .b (!(decide (x4 = 2)))) rfl) ?_
        refine WO_cut 4 (fun fr' k' => k₉ = k' ∧ fr' 75 = .b ((!(decide (x4 = 2))) || (decide (0 < (x3.length : Int)))) ∧ fr' 38 = v₃ ∧ fr' 39 = .i .i64 ([(⟨v, w⟩ : A2 Int), (⟨(max 0 v).tmod ((x.length : Int) + 1), (max 0 w).tmod ((x.length : Int) + 1)⟩ : A2 Int)].length : Int) ∧ fr' 40 = .i .i64 x2 ∧ fr' 7 = v₁) ?_ ?_
        · rcases bc (!(decide (x4 = 2))) with b₄ | b₄
          · skip
            refine WO_off rfl b₄ ?_
            refine WO_off rfl b₄ ?_
            refine WO_off rfl b₄ ?_
            refine WO_v (a_pickT (t := (!(decide (x4 = 2)))) (v := .b ((!(decide (x4 = 2))) || (decide (0 < (x3.length : Int))))) rfl b₄ (Eq.trans (b := V.b true) rfl (or_off b₄))) ?_
            refine WO_end ?_
            exact ⟨rfl, rfl, g₁_38, g₁_39, g₁_40, g₁_7⟩
          · skip
            refine WO_on rfl b₄ ?_
            refine WO_v (a_mv (v := v₄) g₁_11) ?_
            refine WO_on rfl b₄ ?_
            refine WO_v (a_len (hO₉.sl 3 rfl : Sl eInt k₉ v₄ x3) rfl) ?_
            refine WO_on rfl b₄ ?_
            refine WO_v (a_gtr (a := (x3.length : Int)) (b := 0) rfl rfl) ?_
            refine WO_v (a_pickF (t := (!(decide (x4 = 2)))) (v := .b ((!(decide (x4 = 2))) || (decide (0 < (x3.length : Int))))) rfl b₄ (Eq.trans (b := V.b (decide (0 < (x3.length : Int)))) rfl (or_on b₄))) ?_
            refine WO_end ?_
            exact ⟨rfl, rfl, g₁_38, g₁_39, g₁_40, g₁_7⟩
        rintro frg₂ _ ⟨rfl, g₂_75, g₂_38, g₂_39, g₂_40, g₂_7⟩
        refine WO_end ?_
        refine then_n ?_
        rcases if_some hp with ⟨b₅, hp⟩ | ⟨b₅, hp⟩
        · refine W_cT (t := ((!(decide (x4 = 2))) || (decide (0 < (x3.length : Int))))) g₂_75 b₅ ?_
          refine W_sq ?_
          refine W_rg ?_
          refine WO_v (a_mv (v := .b false) rfl) ?_
          refine WO_end ?_
          refine then_n ?_
          refine W_rt ?_
          refine then_r ?_
          refine then_r ?_
          refine blk_r ?_
          refine then_r ?_
          have hp := Option.some.inj hp; subst hp
          refine (Or.inr (Exists.intro (.inr ()) (And.intro rfl (And.intro (fun h => nomatch h) (fun he => ?_)))))
          subst he; exact (And.intro rfl (And.intro (rfl) (hO₉.pick [] rfl (by decide))))
        · refine W_cF (t := ((!(decide (x4 = 2))) || (decide (0 < (x3.length : Int))))) g₂_75 b₅ ?_
          refine W_sk ?_
          refine then_n ?_
          refine W_ex ?_
          refine then_e ?_
          refine blk_i ?_
          refine then_n ?_
          refine W_rg ?_
          obtain ⟨c₄, hp⟩ := ck_some hp
          refine WO_v (a_add (a := x2) (b := 1) g₂_40 rfl c₄) ?_
          refine WO_v (a_mv (v := .i .i64 (x2 + 1)) rfl) ?_
          refine WO_end ?_
          have hp := Option.some.inj hp; subst hp
          exact (Or.inl (Exists.intro (x2 + 1) (And.intro rfl (And.intro rfl (And.intro (g₂_7) (And.intro (g₂_38) (And.intro (g₂_39) (And.intro (rfl) (hO₉.pick [0, 1] rfl (by decide))))))))))
      · refine W_cF (t := ((decide ((min ((gi [(⟨v, w⟩ : A2 Int), (⟨(max 0 v).tmod ((x.length : Int) + 1), (max 0 w).tmod ((x.length : Int) + 1)⟩ : A2 Int)] (x2 : Int).toNat).get 0) ((gi [(⟨v, w⟩ : A2 Int), (⟨(max 0 v).tmod ((x.length : Int) + 1), (max 0 w).tmod ((x.length : Int) + 1)⟩ : A2 Int)] (x2 : Int).toNat).get 1)) < 0)) || (decide ((x.length : Int) ≤ (max ((gi [(⟨v, w⟩ : A2 Int), (⟨(max 0 v).tmod ((x.length : Int) + 1), (max 0 w).tmod ((x.length : Int) + 1)⟩ : A2 Int)] (x2 : Int).toNat).get 0) ((gi [(⟨v, w⟩ : A2 Int), (⟨(max 0 v).tmod ((x.length : Int) + 1), (max 0 w).tmod ((x.length : Int) + 1)⟩ : A2 Int)] (x2 : Int).toNat).get 1)))))) g₁_68 b₃ ?_
        refine W_sk ?_
        refine then_n ?_
        refine W_sq ?_
        refine W_dr ?_
        have hW := hO₉.bump 9
        have fr₃ := Fresh.start k₉ 9
        have nb₂ : ∀ {i : Nat}, h.n ≤ k₉.n + i := Nat.le_trans hO₉.n (Nat.le_add_right _ _)
        have hO₁₀ : Own B h (k₉.bump 9) [eSl e_T_api_Cell v₁ x, eSl e_A2_i64 v₃ [(⟨v, w⟩ : A2 Int), (⟨(max 0 v).tmod ((x.length : Int) + 1), (max 0 w).tmod ((x.length : Int) + 1)⟩ : A2 Int)], eBox r₃ (e_A2_i64.c (gi [(⟨v, w⟩ : A2 Int), (⟨(max 0 v).tmod ((x.length : Int) + 1), (max 0 w).tmod ((x.length : Int) + 1)⟩ : A2 Int)] (x2 : Int).toNat)), eSl eInt v₄ x3] := hW
        refine WD_v (a_mv (v := v₁) g₁_7) ?_
        refine WD_v (a_ixaa (o := 0) (o' := 0) (z := 0) g₁_10 rfl (by decide) rfl) ?_
        refine WD_v (a_ldb (cs := (e_A2_i64.c (gi [(⟨v, w⟩ : A2 Int), (⟨(max 0 v).tmod ((x.length : Int) + 1), (max 0 w).tmod ((x.length : Int) + 1)⟩ : A2 Int)] (x2 : Int).toNat))) (v := .i .i64 ((gi [(⟨v, w⟩ : A2 Int), (⟨(max 0 v).tmod ((x.length : Int) + 1), (max 0 w).tmod ((x.length : Int) + 1)⟩ : A2 Int)] (x2 : Int).toNat).get 0)) (hO₁₀.box 2 rfl) rfl rfl) ?_
        obtain ⟨x5, hx₃, hp⟩ := bd_some hp
        obtain ⟨u₃, k₁₁, ca₃, v₅, rfl, hW₃⟩ := p_muntinref13_Far.ok (h := (k₉.bump 9))  (hO₁₀.sl 0 rfl : Sl e_T_api_Cell (k₉.bump 9) v₁ x) hx₃
        refine WD_c (id := 36) (caps := []) rfl (mp_cons (v := v₁) rfl (mp_cons (v := .i .i64 ((gi [(⟨v, w⟩ : A2 Int), (⟨(max 0 v).tmod ((x.length : Int) + 1), (max 0 w).tmod ((x.length : Int) + 1)⟩ : A2 Int)] (x2 : Int).toNat).get 0)) rfl mp_nil)) ca₃ ?_
        have fr₄ := fr₃.call hW₃
        have hO₁₁ : Own B h k₁₁ [eSl e_T_api_Cell v₁ x, eSl e_A2_i64 v₃ [(⟨v, w⟩ : A2 Int), (⟨(max 0 v).tmod ((x.length : Int) + 1), (max 0 w).tmod ((x.length : Int) + 1)⟩ : A2 Int)], eBox r₃ (e_A2_i64.c (gi [(⟨v, w⟩ : A2 Int), (⟨(max 0 v).tmod ((x.length : Int) + 1), (max 0 w).tmod ((x.length : Int) + 1)⟩ : A2 Int)] (x2 : Int).toNat)), eSl eInt v₄ x3, eSl eInt v₅ x5] := hO₁₀.call hW₃ rfl
        refine WD_v (a_ixaa (o := 0) (o' := 1) (z := 1) g₁_10 rfl (by decide) rfl) ?_
        refine WD_v (a_ldb (cs := (e_A2_i64.c (gi [(⟨v, w⟩ : A2 Int), (⟨(max 0 v).tmod ((x.length : Int) + 1), (max 0 w).tmod ((x.length : Int) + 1)⟩ : A2 Int)] (x2 : Int).toNat))) (v := .i .i64 ((gi [(⟨v, w⟩ : A2 Int), (⟨(max 0 v).tmod ((x.length : Int) + 1), (max 0 w).tmod ((x.length : Int) + 1)⟩ : A2 Int)] (x2 : Int).toNat).get 1)) (hO₁₁.box 2 rfl) rfl rfl) ?_
        obtain ⟨c₅, hp⟩ := ck_some hp
        refine WD_v (a_ixa (E := eInt) (z := ((gi [(⟨v, w⟩ : A2 Int), (⟨(max 0 v).tmod ((x.length : Int) + 1), (max 0 w).tmod ((x.length : Int) + 1)⟩ : A2 Int)] (x2 : Int).toNat).get 1)) (hO₁₁.sl 4 rfl : Sl eInt k₁₁ v₅ x5) rfl rfl c₅) ?_
        refine WD_v (a_ldE (w := .i .i64 (gi x5 ((gi [(⟨v, w⟩ : A2 Int), (⟨(max 0 v).tmod ((x.length : Int) + 1), (max 0 w).tmod ((x.length : Int) + 1)⟩ : A2 Int)] (x2 : Int).toNat).get 1 : Int).toNat)) (hO₁₁.sl 4 rfl : Sl eInt k₁₁ v₅ x5) rfl (toNat_lt c₅) rfl) ?_
        refine WD_v (a_mv (v := .i .i64 (gi x5 ((gi [(⟨v, w⟩ : A2 Int), (⟨(max 0 v).tmod ((x.length : Int) + 1), (max 0 w).tmod ((x.length : Int) + 1)⟩ : A2 Int)] (x2 : Int).toNat).get 1 : Int).toNat)) rfl) ?_
        refine WD_end ?_
        refine And.intro ?_ ?_
        · intro q hq
          simp only [List.mem_cons, List.not_mem_nil, or_false] at hq
          rcases hq with rfl | rfl
          · refine ap_ll ?_ ?_
            · exact (fun h => nomatch h)
            · exact (fun h => nomatch h)
          · refine ap_cl rfl ?_
            · exact (fun r hm hc => hc (hW₃.base r (Nat.lt_of_lt_of_le (hO₉.ltAt 2 rfl _ (tch (v := V.p r₃ 1) (ld_el hm) rfl)) (Nat.le_trans (Nat.le_add_right _ _) fr₃.n))))
        refine then_n ?_
        refine W_sq ?_
        refine W_sq ?_
        refine W_rg ?_
        refine WO_v (a_mv (v := .i .i64 (gi x5 ((gi [(⟨v, w⟩ : A2 Int), (⟨(max 0 v).tmod ((x.length : Int) + 1), (max 0 w).tmod ((x.length : Int) + 1)⟩ : A2 Int)] (x2 : Int).toNat).get 1 : Int).toNat)) rfl) ?_
        refine WO_v (a_lss (a := (gi x5 ((gi [(⟨v, w⟩ : A2 Int), (⟨(max 0 v).tmod ((x.length : Int) + 1), (max 0 w).tmod ((x.length : Int) + 1)⟩ : A2 Int)] (x2 : Int).toNat).get 1 : Int).toNat)) (b := 0) rfl rfl) ?_
        refine WO_end ?_
        refine then_n ?_
        rcases if_some hp with ⟨b₆, hp⟩ | ⟨b₆, hp⟩
        · refine W_cT (t := (decide ((gi x5 ((gi [(⟨v, w⟩ : A2 Int), (⟨(max 0 v).tmod ((x.length : Int) + 1), (max 0 w).tmod ((x.length : Int) + 1)⟩ : A2 Int)] (x2 : Int).toNat).get 1 : Int).toNat) < 0))) rfl b₆ ?_
          refine W_sq ?_
          refine W_sq ?_
          refine W_rg ?_
          refine WO_v (a_mv (v := .i .i64 x4) g₁_12) ?_
          refine WO_v (a_neI (a := x4) (b := 13) rfl rfl) ?_
          refine WO_v (a_mv (v := .b (!(decide (x4 = 13)))) rfl) ?_
          refine WO_cut 4 (fun fr' k' => k₁₁ = k' ∧ fr' 92 = .b ((!(decide (x4 = 13))) || (decide (0 < (x3.length : Int)))) ∧ fr' 38 = v₃ ∧ fr' 39 = .i .i64 ([(⟨v, w⟩ : A2 Int), (⟨(max 0 v).tmod ((x.length : Int) + 1), (max 0 w).tmod ((x.length : Int) + 1)⟩ : A2 Int)].length : Int) ∧ fr' 40 = .i .i64 x2 ∧ fr' 7 = v₁) ?_ ?_
          · rcases bc (!(decide (x4 = 13))) with b₇ | b₇
            · skip
              refine WO_off rfl b₇ ?_
              refine WO_off rfl b₇ ?_
              refine WO_off rfl b₇ ?_
              refine WO_v (a_pickT (t := (!(decide (x4 = 13)))) (v := .b ((!(decide (x4 = 13))) || (decide (0 < (x3.length : Int))))) rfl b₇ (Eq.trans (b := V.b true) rfl (or_off b₇))) ?_
              refine WO_end ?_
              exact ⟨rfl, rfl, g₁_38, g₁_39, g₁_40, g₁_7⟩
            · skip
              refine WO_on rfl b₇ ?_
              refine WO_v (a_mv (v := v₄) g₁_11) ?_
              refine WO_on rfl b₇ ?_
              refine WO_v (a_len (hO₁₁.sl 3 rfl : Sl eInt k₁₁ v₄ x3) rfl) ?_
              refine WO_on rfl b₇ ?_
              refine WO_v (a_gtr (a := (x3.length : Int)) (b := 0) rfl rfl) ?_
              refine WO_v (a_pickF (t := (!(decide (x4 = 13)))) (v := .b ((!(decide (x4 = 13))) || (decide (0 < (x3.length : Int))))) rfl b₇ (Eq.trans (b := V.b (decide (0 < (x3.length : Int)))) rfl (or_on b₇))) ?_
              refine WO_end ?_
              exact ⟨rfl, rfl, g₁_38, g₁_39, g₁_40, g₁_7⟩
          rintro frg₃ _ ⟨rfl, g₃_92, g₃_38, g₃_39, g₃_40, g₃_7⟩
          refine WO_end ?_
          refine then_n ?_
          rcases if_some hp with ⟨b₈, hp⟩ | ⟨b₈, hp⟩
          · refine W_cT (t := ((!(decide (x4 = 13))) || (decide (0 < (x3.length : Int))))) g₃_92 b₈ ?_
            refine W_sq ?_
            refine W_rg ?_
            refine WO_v (a_mv (v := .b false) rfl) ?_
            refine WO_end ?_
            refine then_n ?_
            refine W_rt ?_
            refine then_r ?_
            refine then_r ?_
            refine blk_r ?_
            refine then_r ?_
            have hp := Option.some.inj hp; subst hp
            refine (Or.inr (Exists.intro (.inr ()) (And.intro rfl (And.intro (fun h => nomatch h) (fun he => ?_)))))
            subst he; exact (And.intro rfl (And.intro (rfl) (hO₁₁.pick [] rfl (by decide))))
          · refine W_cF (t := ((!(decide (x4 = 13))) || (decide (0 < (x3.length : Int))))) g₃_92 b₈ ?_
            refine W_sk ?_
            refine then_n ?_
            refine W_ex ?_
            refine then_e ?_
            refine blk_i ?_
            refine then_n ?_
            refine W_rg ?_
            obtain ⟨c₆, hp⟩ := ck_some hp
            refine WO_v (a_add (a := x2) (b := 1) g₃_40 rfl c₆) ?_
            refine WO_v (a_mv (v := .i .i64 (x2 + 1)) rfl) ?_
            refine WO_end ?_
            have hp := Option.some.inj hp; subst hp
            exact (Or.inl (Exists.intro (x2 + 1) (And.intro rfl (And.intro rfl (And.intro (g₃_7) (And.intro (g₃_38) (And.intro (g₃_39) (And.intro (rfl) (hO₁₁.pick [0, 1] rfl (by decide))))))))))
        · refine W_cF (t := (decide ((gi x5 ((gi [(⟨v, w⟩ : A2 Int), (⟨(max 0 v).tmod ((x.length : Int) + 1), (max 0 w).tmod ((x.length : Int) + 1)⟩ : A2 Int)] (x2 : Int).toNat).get 1 : Int).toNat) < 0))) rfl b₆ ?_
          refine W_sk ?_
          refine then_n ?_
          refine W_sq ?_
          refine W_rg ?_
          refine WO_v (a_ixaa (o := 0) (o' := 0) (z := 0) g₁_10 rfl (by decide) rfl) ?_
          refine WO_v (a_ldb (cs := (e_A2_i64.c (gi [(⟨v, w⟩ : A2 Int), (⟨(max 0 v).tmod ((x.length : Int) + 1), (max 0 w).tmod ((x.length : Int) + 1)⟩ : A2 Int)] (x2 : Int).toNat))) (v := .i .i64 ((gi [(⟨v, w⟩ : A2 Int), (⟨(max 0 v).tmod ((x.length : Int) + 1), (max 0 w).tmod ((x.length : Int) + 1)⟩ : A2 Int)] (x2 : Int).toNat).get 0)) (hO₁₁.box 2 rfl) rfl rfl) ?_
          refine WO_v (a_mv (v := .i .i64 ((gi [(⟨v, w⟩ : A2 Int), (⟨(max 0 v).tmod ((x.length : Int) + 1), (max 0 w).tmod ((x.length : Int) + 1)⟩ : A2 Int)] (x2 : Int).toNat).get 0)) rfl) ?_
          refine WO_end ?_
          refine then_n ?_
          refine W_sq ?_
          refine W_sq ?_
          refine W_rg ?_
          refine WO_v (a_mv (v := v₄) g₁_11) ?_
          refine WO_v (a_len (hO₁₁.sl 3 rfl : Sl eInt k₁₁ v₄ x3) rfl) ?_
          refine WO_v (a_mv (v := .i .i64 0) rfl) ?_
          refine WO_end ?_
          refine then_n ?_
          refine W_bl ?_
          obtain ⟨o₃, ho₂, hp⟩ := bd_some hp
          refine W.mono (Q := fun e fr k => match (generalizing := false) o₃ with
              | .inl at_1 => e = (.exit 2) ∧ fr 7 = v₁ ∧ fr 10 = .p r₃ 0 ∧ fr 11 = v₄ ∧ fr 12 = .i .i64 x4 ∧ fr 13 = .i .i64 (gi x5 ((gi [(⟨v, w⟩ : A2 Int), (⟨(max 0 v).tmod ((x.length : Int) + 1), (max 0 w).tmod ((x.length : Int) + 1)⟩ : A2 Int)] (x2 : Int).toNat).get 1 : Int).toNat) ∧ fr 14 = .i .i64 at_1 ∧ fr 38 = v₃ ∧ fr 39 = .i .i64 ([(⟨v, w⟩ : A2 Int), (⟨(max 0 v).tmod ((x.length : Int) + 1), (max 0 w).tmod ((x.length : Int) + 1)⟩ : A2 Int)].length : Int) ∧ fr 40 = .i .i64 x2 ∧ Own B h k [eSl e_T_api_Cell v₁ x, eBox r₃ (e_A2_i64.c (gi [(⟨v, w⟩ : A2 Int), (⟨(max 0 v).tmod ((x.length : Int) + 1), (max 0 w).tmod ((x.length : Int) + 1)⟩ : A2 Int)] (x2 : Int).toNat)), eSl eInt v₄ x3, eSl e_A2_i64 v₃ [(⟨v, w⟩ : A2 Int), (⟨(max 0 v).tmod ((x.length : Int) + 1), (max 0 w).tmod ((x.length : Int) + 1)⟩ : A2 Int)]]
              | .inr _ => e = .ret ∧ fr 6 = .b false ∧ Own B h k []) ?_ ?_
          · clear hp
            refine W_loopF (fun st fr k => match st with | (at_, x6) => fr 7 = v₁ ∧ fr 10 = .p r₃ 0 ∧ fr 11 = v₄ ∧ fr 12 = .i .i64 x4 ∧ fr 13 = .i .i64 (gi x5 ((gi [(⟨v, w⟩ : A2 Int), (⟨(max 0 v).tmod ((x.length : Int) + 1), (max 0 w).tmod ((x.length : Int) + 1)⟩ : A2 Int)] (x2 : Int).toNat).get 1 : Int).toNat) ∧ fr 14 = .i .i64 at_ ∧ fr 38 = v₃ ∧ fr 39 = .i .i64 ([(⟨v, w⟩ : A2 Int), (⟨(max 0 v).tmod ((x.length : Int) + 1), (max 0 w).tmod ((x.length : Int) + 1)⟩ : A2 Int)].length : Int) ∧ fr 40 = .i .i64 x2 ∧ fr 95 = v₄ ∧ fr 96 = .i .i64 (x3.length : Int) ∧ fr 97 = .i .i64 x6 ∧ Own B h k [eSl e_T_api_Cell v₁ x, eBox r₃ (e_A2_i64.c (gi [(⟨v, w⟩ : A2 Int), (⟨(max 0 v).tmod ((x.length : Int) + 1), (max 0 w).tmod ((x.length : Int) + 1)⟩ : A2 Int)] (x2 : Int).toNat)), eSl eInt v₄ x3, eSl e_A2_i64 v₃ [(⟨v, w⟩ : A2 Int), (⟨(max 0 v).tmod ((x.length : Int) + 1), (max 0 w).tmod ((x.length : Int) + 1)⟩ : A2 Int)]]) ho₂ (s := ((gi [(⟨v, w⟩ : A2 Int), (⟨(max 0 v).tmod ((x.length : Int) + 1), (max 0 w).tmod ((x.length : Int) + 1)⟩ : A2 Int)] (x2 : Int).toNat).get 0, 0)) (And.intro (g₁_7) (And.intro (g₁_10) (And.intro (g₁_11) (And.intro (g₁_12) (And.intro (rfl) (And.intro (rfl) (And.intro (g₁_38) (And.intro (g₁_39) (And.intro (g₁_40) (And.intro (rfl) (And.intro (rfl) (And.intro (rfl) (hO₁₁.pick [0, 2, 3, 1] rfl (by decide)))))))))))))) ?_
            rintro ⟨at_, x6⟩ q₄ k₁₃ ⟨q₄_7, q₄_10, q₄_11, q₄_12, q₄_13, q₄_14, q₄_38, q₄_39, q₄_40, q₄_95, q₄_96, q₄_97, hO₁₃⟩ o₄ hp
            dsimp only [p_muntinlaw13_JoinPaths.s1] at hp
            refine W_sq ?_
            refine W_rg ?_
            refine WO_v (a_lss (a := x6) (b := (x3.length : Int)) q₄_97 q₄_96) ?_
            refine WO_end ?_
            refine then_n ?_
            refine W_sq ?_
            rcases if_some hp with ⟨b₉, hp⟩ | ⟨b₉, hp⟩
            · refine W_cT (t := (decide (x6 < (x3.length : Int)))) rfl b₉ ?_
              refine W_sk ?_
              refine then_n ?_
              refine W_sq ?_
              refine W_bl ?_
              refine W_sq ?_
              refine W_rg ?_
              obtain ⟨c₇, hp⟩ := ck_some hp
              refine WO_v (a_ixa (E := eInt) (z := x6) (hO₁₃.sl 2 rfl : Sl eInt k₁₃ v₄ x3) q₄_95 q₄_97 c₇) ?_
              refine WO_v (a_ldE (w := .i .i64 (gi x3 (x6 : Int).toNat)) (hO₁₃.sl 2 rfl : Sl eInt k₁₃ v₄ x3) rfl (toNat_lt c₇) rfl) ?_
              refine WO_v (a_mv (v := .i .i64 (gi x3 (x6 : Int).toNat)) rfl) ?_
              refine WO_end ?_
              refine then_n ?_
              refine W_sq ?_
              refine W_sq ?_
              refine W_rg ?_
              refine WO_v (a_mv (v := .i .i64 (gi x3 (x6 : Int).toNat)) rfl) ?_
              refine WO_v (a_lss (a := (gi x3 (x6 : Int).toNat)) (b := 0) rfl rfl) ?_
              refine WO_v (a_mv (v := .b (decide ((gi x3 (x6 : Int).toNat) < 0))) rfl) ?_
              refine WO_cut 3 (fun fr' k' => k₁₃ = k' ∧ fr' 106 = .b ((decide ((gi x3 (x6 : Int).toNat) < 0)) || (decide (3 < (gi x3 (x6 : Int).toNat)))) ∧ fr' 10 = .p r₃ 0 ∧ fr' 11 = v₄ ∧ fr' 12 = .i .i64 x4 ∧ fr' 13 = .i .i64 (gi x5 ((gi [(⟨v, w⟩ : A2 Int), (⟨(max 0 v).tmod ((x.length : Int) + 1), (max 0 w).tmod ((x.length : Int) + 1)⟩ : A2 Int)] (x2 : Int).toNat).get 1 : Int).toNat) ∧ fr' 14 = .i .i64 at_ ∧ fr' 16 = .i .i64 (gi x3 (x6 : Int).toNat) ∧ fr' 38 = v₃ ∧ fr' 39 = .i .i64 ([(⟨v, w⟩ : A2 Int), (⟨(max 0 v).tmod ((x.length : Int) + 1), (max 0 w).tmod ((x.length : Int) + 1)⟩ : A2 Int)].length : Int) ∧ fr' 40 = .i .i64 x2 ∧ fr' 7 = v₁ ∧ fr' 95 = v₄ ∧ fr' 96 = .i .i64 (x3.length : Int) ∧ fr' 97 = .i .i64 x6) ?_ ?_
              · rcases bc (decide ((gi x3 (x6 : Int).toNat) < 0)) with b₁₀ | b₁₀
                · skip
                  refine WO_off rfl b₁₀ ?_
                  refine WO_off rfl b₁₀ ?_
                  refine WO_v (a_pickT (t := (decide ((gi x3 (x6 : Int).toNat) < 0))) (v := .b ((decide ((gi x3 (x6 : Int).toNat) < 0)) || (decide (3 < (gi x3 (x6 : Int).toNat))))) rfl b₁₀ (Eq.trans (b := V.b true) rfl (or_off b₁₀))) ?_
                  refine WO_end ?_
                  exact ⟨rfl, rfl, q₄_10, q₄_11, q₄_12, q₄_13, q₄_14, rfl, q₄_38, q₄_39, q₄_40, q₄_7, q₄_95, q₄_96, q₄_97⟩
                · skip
                  refine WO_on rfl b₁₀ ?_
                  refine WO_v (a_mv (v := .i .i64 (gi x3 (x6 : Int).toNat)) rfl) ?_
                  refine WO_on rfl b₁₀ ?_
                  refine WO_v (a_gtr (a := (gi x3 (x6 : Int).toNat)) (b := 3) rfl rfl) ?_
                  refine WO_v (a_pickF (t := (decide ((gi x3 (x6 : Int).toNat) < 0))) (v := .b ((decide ((gi x3 (x6 : Int).toNat) < 0)) || (decide (3 < (gi x3 (x6 : Int).toNat))))) rfl b₁₀ (Eq.trans (b := V.b (decide (3 < (gi x3 (x6 : Int).toNat)))) rfl (or_on b₁₀))) ?_
                  refine WO_end ?_
                  exact ⟨rfl, rfl, q₄_10, q₄_11, q₄_12, q₄_13, q₄_14, rfl, q₄_38, q₄_39, q₄_40, q₄_7, q₄_95, q₄_96, q₄_97⟩
              rintro frg₄ _ ⟨rfl, g₄_106, g₄_10, g₄_11, g₄_12, g₄_13, g₄_14, g₄_16, g₄_38, g₄_39, g₄_40, g₄_7, g₄_95, g₄_96, g₄_97⟩
              refine WO_v (a_mv (v := .b ((decide ((gi x3 (x6 : Int).toNat) < 0)) || (decide (3 < (gi x3 (x6 : Int).toNat))))) g₄_106) ?_
              obtain ⟨t, hv₁, hp⟩ := bd_some hp
              refine WO_cut 9 (fun fr' k' => k₁₃ = k' ∧ fr' 116 = .b t ∧ fr' 10 = .p r₃ 0 ∧ fr' 11 = v₄ ∧ fr' 12 = .i .i64 x4 ∧ fr' 13 = .i .i64 (gi x5 ((gi [(⟨v, w⟩ : A2 Int), (⟨(max 0 v).tmod ((x.length : Int) + 1), (max 0 w).tmod ((x.length : Int) + 1)⟩ : A2 Int)] (x2 : Int).toNat).get 1 : Int).toNat) ∧ fr' 14 = .i .i64 at_ ∧ fr' 16 = .i .i64 (gi x3 (x6 : Int).toNat) ∧ fr' 38 = v₃ ∧ fr' 39 = .i .i64 ([(⟨v, w⟩ : A2 Int), (⟨(max 0 v).tmod ((x.length : Int) + 1), (max 0 w).tmod ((x.length : Int) + 1)⟩ : A2 Int)].length : Int) ∧ fr' 40 = .i .i64 x2 ∧ fr' 7 = v₁ ∧ fr' 95 = v₄ ∧ fr' 96 = .i .i64 (x3.length : Int) ∧ fr' 97 = .i .i64 x6) ?_ ?_
              · clear hp; rcases if_some hv₁ with ⟨b₁₁, hp⟩ | ⟨b₁₁, hp⟩
                · skip
                  refine WO_off rfl b₁₁ ?_
                  refine WO_off rfl b₁₁ ?_
                  refine WO_off rfl b₁₁ ?_
                  refine WO_off rfl b₁₁ ?_
                  refine WO_off rfl b₁₁ ?_
                  refine WO_off rfl b₁₁ ?_
                  refine WO_off rfl b₁₁ ?_
                  refine WO_off rfl b₁₁ ?_
                  refine WO_v (a_pickT (t := ((decide ((gi x3 (x6 : Int).toNat) < 0)) || (decide (3 < (gi x3 (x6 : Int).toNat))))) (v := .b t) rfl b₁₁ (Eq.trans (b := V.b true) rfl (congrArg V.b (Option.some.inj hp)))) ?_
                  refine WO_end ?_
                  exact ⟨rfl, rfl, g₄_10, g₄_11, g₄_12, g₄_13, g₄_14, g₄_16, g₄_38, g₄_39, g₄_40, g₄_7, g₄_95, g₄_96, g₄_97⟩
                · skip
                  refine WO_on rfl b₁₁ ?_
                  refine WO_v (a_mv (v := v₁) g₄_7) ?_
                  refine WO_on rfl b₁₁ ?_
                  refine WO_v (a_mv (v := .i .i64 at_) g₄_14) ?_
                  refine WO_on rfl b₁₁ ?_
                  refine WO_v (a_mv (v := .i .i64 (gi x3 (x6 : Int).toNat)) g₄_16) ?_
                  refine WO_on rfl b₁₁ ?_
                  obtain ⟨c₈, hp⟩ := ck_some hp
                  refine WO_v (a_ixa (E := e_T_api_Cell) (z := at_) (hO₁₃.sl 0 rfl : Sl e_T_api_Cell k₁₃ v₁ x) rfl rfl c₈) ?_
                  refine WO_on rfl b₁₁ ?_
                  refine WO_v (a_faE (off' := 0) (off2 := 0) (hO₁₃.sl 0 rfl : Sl e_T_api_Cell k₁₃ v₁ x) (toNat_lt c₈) rfl rfl) ?_
                  refine WO_on rfl b₁₁ ?_
                  obtain ⟨c₉, hp⟩ := ck_some hp
                  refine WO_v (a_ixaaE (off := 0) (off2 := (0 + (gi x3 (x6 : Int).toNat : Int).toNat * 1)) (z := (gi x3 (x6 : Int).toNat)) (hO₁₃.sl 0 rfl : Sl e_T_api_Cell k₁₃ v₁ x) (toNat_lt c₈) rfl rfl c₉ rfl) ?_
                  refine WO_on rfl b₁₁ ?_
                  refine WO_v (a_ldE (w := .i .i64 (((gi x (at_ : Int).toNat).Next).get (gi x3 (x6 : Int).toNat))) (hO₁₃.sl 0 rfl : Sl e_T_api_Cell k₁₃ v₁ x) rfl (toNat_lt c₈) (ld_T_api_Cell_Next c₉)) ?_
                  refine WO_on rfl b₁₁ ?_
                  refine WO_v (a_lss (a := (((gi x (at_ : Int).toNat).Next).get (gi x3 (x6 : Int).toNat))) (b := 0) rfl rfl) ?_
                  refine WO_v (a_pickF (t := ((decide ((gi x3 (x6 : Int).toNat) < 0)) || (decide (3 < (gi x3 (x6 : Int).toNat))))) (v := .b t) rfl b₁₁ (Eq.trans (b := V.b (decide ((((gi x (at_ : Int).toNat).Next).get (gi x3 (x6 : Int).toNat)) < 0))) rfl (congrArg V.b (Option.some.inj hp)))) ?_
                  refine WO_end ?_
                  exact ⟨rfl, rfl, g₄_10, g₄_11, g₄_12, g₄_13, g₄_14, g₄_16, g₄_38, g₄_39, g₄_40, g₄_7, g₄_95, g₄_96, g₄_97⟩
              rintro frg₅ _ ⟨rfl, g₅_116, g₅_10, g₅_11, g₅_12, g₅_13, g₅_14, g₅_16, g₅_38, g₅_39, g₅_40, g₅_7, g₅_95, g₅_96, g₅_97⟩
              refine WO_end ?_
              refine then_n ?_
              rcases if_some hp with ⟨b₁₂, hp⟩ | ⟨b₁₂, hp⟩
              · refine W_cT (t := t) g₅_116 b₁₂ ?_
                refine W_sq ?_
                refine W_rg ?_
                refine WO_v (a_mv (v := .b false) rfl) ?_
                refine WO_end ?_
                refine then_n ?_
                refine W_rt ?_
                refine then_r ?_
                refine blk_r ?_
                refine then_r ?_
                have hp := Option.some.inj hp; subst hp
                refine (Or.inr (Exists.intro (.inr ()) (And.intro rfl (And.intro (fun h => nomatch h) (fun he => ?_)))))
                subst he; exact (And.intro rfl (And.intro (rfl) (hO₁₃.pick [] rfl (by decide))))
              · refine W_cF (t := t) g₅_116 b₁₂ ?_
                refine W_sk ?_
                refine then_n ?_
                refine W_rg ?_
                refine WO_v (a_mv (v := v₁) g₅_7) ?_
                refine WO_v (a_mv (v := .i .i64 at_) g₅_14) ?_
                refine WO_v (a_mv (v := .i .i64 (gi x3 (x6 : Int).toNat)) g₅_16) ?_
                obtain ⟨c₁₀, hp⟩ := ck_some hp
                refine WO_v (a_ixa (E := e_T_api_Cell) (z := at_) (hO₁₃.sl 0 rfl : Sl e_T_api_Cell k₁₃ v₁ x) rfl rfl c₁₀) ?_
                refine WO_v (a_faE (off' := 0) (off2 := 0) (hO₁₃.sl 0 rfl : Sl e_T_api_Cell k₁₃ v₁ x) (toNat_lt c₁₀) rfl rfl) ?_
                obtain ⟨c₁₁, hp⟩ := ck_some hp
                refine WO_v (a_ixaaE (off := 0) (off2 := (0 + (gi x3 (x6 : Int).toNat : Int).toNat * 1)) (z := (gi x3 (x6 : Int).toNat)) (hO₁₃.sl 0 rfl : Sl e_T_api_Cell k₁₃ v₁ x) (toNat_lt c₁₀) rfl rfl c₁₁ rfl) ?_
                refine WO_v (a_ldE (w := .i .i64 (((gi x (at_ : Int).toNat).Next).get (gi x3 (x6 : Int).toNat))) (hO₁₃.sl 0 rfl : Sl e_T_api_Cell k₁₃ v₁ x) rfl (toNat_lt c₁₀) (ld_T_api_Cell_Next c₁₁)) ?_
                refine WO_v (a_mv (v := .i .i64 (((gi x (at_ : Int).toNat).Next).get (gi x3 (x6 : Int).toNat))) rfl) ?_
                refine WO_end ?_
                refine blk_n ?_
                refine then_n ?_
                refine W_rg ?_
                obtain ⟨c₁₂, hp⟩ := ck_some hp
                refine WO_v (a_add (a := x6) (b := 1) g₅_97 rfl c₁₂) ?_
                refine WO_v (a_mv (v := .i .i64 (x6 + 1)) rfl) ?_
                refine WO_end ?_
                have hp := Option.some.inj hp; subst hp
                exact (Or.inl (Exists.intro (((gi x (at_ : Int).toNat).Next).get (gi x3 (x6 : Int).toNat), x6 + 1) (And.intro rfl (And.intro rfl (And.intro (g₅_7) (And.intro (g₅_10) (And.intro (g₅_11) (And.intro (g₅_12) (And.intro (g₅_13) (And.intro (rfl) (And.intro (g₅_38) (And.intro (g₅_39) (And.intro (g₅_40) (And.intro (g₅_95) (And.intro (g₅_96) (And.intro (rfl) (hO₁₃.pick [0, 1, 2, 3] rfl (by decide))))))))))))))))))
            · refine W_cF (t := (decide (x6 < (x3.length : Int)))) rfl b₉ ?_
              refine W_ex ?_
              refine then_e ?_
              have hp := Option.some.inj hp; subst hp
              refine (Or.inr (Exists.intro (.inl at_) (And.intro rfl (And.intro (fun h => nomatch h) (fun he => ?_)))))
              subst he; exact (And.intro rfl (And.intro (q₄_7) (And.intro (q₄_10) (And.intro (q₄_11) (And.intro (q₄_12) (And.intro (q₄_13) (And.intro (q₄_14) (And.intro (q₄_38) (And.intro (q₄_39) (And.intro (q₄_40) (hO₁₃.pick [0, 1, 2, 3] rfl (by decide))))))))))))
          intro e₂ q₃ k₁₂ hJ₂
          rcases o₃ with at_1 | _
          · obtain ⟨rfl, q₃_7, q₃_10, q₃_11, q₃_12, q₃_13, q₃_14, q₃_38, q₃_39, q₃_40, hO₁₂⟩ := hJ₂
            refine blk_i ?_
            refine then_n ?_
            refine W_sq ?_
            refine W_rg ?_
            refine WO_v (a_mv (v := .i .i64 x4) q₃_12) ?_
            refine WO_v (a_neI (a := x4) (b := 0) rfl rfl) ?_
            refine WO_v (a_mv (v := .b (!(decide (x4 = 0)))) rfl) ?_
            refine WO_cut 5 (fun fr' k' => k₁₂ = k' ∧ fr' 132 = .b ((!(decide (x4 = 0))) || (!(decide ((x3.length : Int) = gi x5 ((gi [(⟨v, w⟩ : A2 Int), (⟨(max 0 v).tmod ((x.length : Int) + 1), (max 0 w).tmod ((x.length : Int) + 1)⟩ : A2 Int)] (x2 : Int).toNat).get 1 : Int).toNat)))) ∧ fr' 10 = .p r₃ 0 ∧ fr' 14 = .i .i64 at_1 ∧ fr' 38 = v₃ ∧ fr' 39 = .i .i64 ([(⟨v, w⟩ : A2 Int), (⟨(max 0 v).tmod ((x.length : Int) + 1), (max 0 w).tmod ((x.length : Int) + 1)⟩ : A2 Int)].length : Int) ∧ fr' 40 = .i .i64 x2 ∧ fr' 7 = v₁) ?_ ?_
            · rcases bc (!(decide (x4 = 0))) with b₁₃ | b₁₃
              · skip
                refine WO_off rfl b₁₃ ?_
                refine WO_off rfl b₁₃ ?_
                refine WO_off rfl b₁₃ ?_
                refine WO_off rfl b₁₃ ?_
                refine WO_v (a_pickT (t := (!(decide (x4 = 0)))) (v := .b ((!(decide (x4 = 0))) || (!(decide ((x3.length : Int) = gi x5 ((gi [(⟨v, w⟩ : A2 Int), (⟨(max 0 v).tmod ((x.length : Int) + 1), (max 0 w).tmod ((x.length : Int) + 1)⟩ : A2 Int)] (x2 : Int).toNat).get 1 : Int).toNat))))) rfl b₁₃ (Eq.trans (b := V.b true) rfl (or_off b₁₃))) ?_
                refine WO_end ?_
                exact ⟨rfl, rfl, q₃_10, q₃_14, q₃_38, q₃_39, q₃_40, q₃_7⟩
              · skip
                refine WO_on rfl b₁₃ ?_
                refine WO_v (a_mv (v := v₄) q₃_11) ?_
                refine WO_on rfl b₁₃ ?_
                refine WO_v (a_len (hO₁₂.sl 2 rfl : Sl eInt k₁₂ v₄ x3) rfl) ?_
                refine WO_on rfl b₁₃ ?_
                refine WO_v (a_mv (v := .i .i64 (gi x5 ((gi [(⟨v, w⟩ : A2 Int), (⟨(max 0 v).tmod ((x.length : Int) + 1), (max 0 w).tmod ((x.length : Int) + 1)⟩ : A2 Int)] (x2 : Int).toNat).get 1 : Int).toNat)) q₃_13) ?_
                refine WO_on rfl b₁₃ ?_
                refine WO_v (a_neI (a := (x3.length : Int)) (b := (gi x5 ((gi [(⟨v, w⟩ : A2 Int), (⟨(max 0 v).tmod ((x.length : Int) + 1), (max 0 w).tmod ((x.length : Int) + 1)⟩ : A2 Int)] (x2 : Int).toNat).get 1 : Int).toNat)) rfl rfl) ?_
                refine WO_v (a_pickF (t := (!(decide (x4 = 0)))) (v := .b ((!(decide (x4 = 0))) || (!(decide ((x3.length : Int) = gi x5 ((gi [(⟨v, w⟩ : A2 Int), (⟨(max 0 v).tmod ((x.length : Int) + 1), (max 0 w).tmod ((x.length : Int) + 1)⟩ : A2 Int)] (x2 : Int).toNat).get 1 : Int).toNat))))) rfl b₁₃ (Eq.trans (b := V.b (!(decide ((x3.length : Int) = gi x5 ((gi [(⟨v, w⟩ : A2 Int), (⟨(max 0 v).tmod ((x.length : Int) + 1), (max 0 w).tmod ((x.length : Int) + 1)⟩ : A2 Int)] (x2 : Int).toNat).get 1 : Int).toNat)))) rfl (or_on b₁₃))) ?_
                refine WO_end ?_
                exact ⟨rfl, rfl, q₃_10, q₃_14, q₃_38, q₃_39, q₃_40, q₃_7⟩
            rintro frg₆ _ ⟨rfl, g₆_132, g₆_10, g₆_14, g₆_38, g₆_39, g₆_40, g₆_7⟩
            refine WO_v (a_mv (v := .b ((!(decide (x4 = 0))) || (!(decide ((x3.length : Int) = gi x5 ((gi [(⟨v, w⟩ : A2 Int), (⟨(max 0 v).tmod ((x.length : Int) + 1), (max 0 w).tmod ((x.length : Int) + 1)⟩ : A2 Int)] (x2 : Int).toNat).get 1 : Int).toNat))))) g₆_132) ?_
            refine WO_cut 5 (fun fr' k' => k₁₂ = k' ∧ fr' 138 = .b (((!(decide (x4 = 0))) || (!(decide ((x3.length : Int) = gi x5 ((gi [(⟨v, w⟩ : A2 Int), (⟨(max 0 v).tmod ((x.length : Int) + 1), (max 0 w).tmod ((x.length : Int) + 1)⟩ : A2 Int)] (x2 : Int).toNat).get 1 : Int).toNat)))) || (!(decide (at_1 = (gi [(⟨v, w⟩ : A2 Int), (⟨(max 0 v).tmod ((x.length : Int) + 1), (max 0 w).tmod ((x.length : Int) + 1)⟩ : A2 Int)] (x2 : Int).toNat).get 1)))) ∧ fr' 38 = v₃ ∧ fr' 39 = .i .i64 ([(⟨v, w⟩ : A2 Int), (⟨(max 0 v).tmod ((x.length : Int) + 1), (max 0 w).tmod ((x.length : Int) + 1)⟩ : A2 Int)].length : Int) ∧ fr' 40 = .i .i64 x2 ∧ fr' 7 = v₁) ?_ ?_
            · rcases bc ((!(decide (x4 = 0))) || (!(decide ((x3.length : Int) = gi x5 ((gi [(⟨v, w⟩ : A2 Int), (⟨(max 0 v).tmod ((x.length : Int) + 1), (max 0 w).tmod ((x.length : Int) + 1)⟩ : A2 Int)] (x2 : Int).toNat).get 1 : Int).toNat)))) with b₁₄ | b₁₄
              · skip
                refine WO_off rfl b₁₄ ?_
                refine WO_off rfl b₁₄ ?_
                refine WO_off rfl b₁₄ ?_
                refine WO_off rfl b₁₄ ?_
                refine WO_v (a_pickT (t := ((!(decide (x4 = 0))) || (!(decide ((x3.length : Int) = gi x5 ((gi [(⟨v, w⟩ : A2 Int), (⟨(max 0 v).tmod ((x.length : Int) + 1), (max 0 w).tmod ((x.length : Int) + 1)⟩ : A2 Int)] (x2 : Int).toNat).get 1 : Int).toNat))))) (v := .b (((!(decide (x4 = 0))) || (!(decide ((x3.length : Int) = gi x5 ((gi [(⟨v, w⟩ : A2 Int), (⟨(max 0 v).tmod ((x.length : Int) + 1), (max 0 w).tmod ((x.length : Int) + 1)⟩ : A2 Int)] (x2 : Int).toNat).get 1 : Int).toNat)))) || (!(decide (at_1 = (gi [(⟨v, w⟩ : A2 Int), (⟨(max 0 v).tmod ((x.length : Int) + 1), (max 0 w).tmod ((x.length : Int) + 1)⟩ : A2 Int)] (x2 : Int).toNat).get 1))))) rfl b₁₄ (Eq.trans (b := V.b true) rfl (or_off b₁₄))) ?_
                refine WO_end ?_
                exact ⟨rfl, rfl, g₆_38, g₆_39, g₆_40, g₆_7⟩
              · skip
                refine WO_on rfl b₁₄ ?_
                refine WO_v (a_mv (v := .i .i64 at_1) g₆_14) ?_
                refine WO_on rfl b₁₄ ?_
                refine WO_v (a_ixaa (o := 0) (o' := 1) (z := 1) g₆_10 rfl (by decide) rfl) ?_
                refine WO_on rfl b₁₄ ?_
                refine WO_v (a_ldb (cs := (e_A2_i64.c (gi [(⟨v, w⟩ : A2 Int), (⟨(max 0 v).tmod ((x.length : Int) + 1), (max 0 w).tmod ((x.length : Int) + 1)⟩ : A2 Int)] (x2 : Int).toNat))) (v := .i .i64 ((gi [(⟨v, w⟩ : A2 Int), (⟨(max 0 v).tmod ((x.length : Int) + 1), (max 0 w).tmod ((x.length : Int) + 1)⟩ : A2 Int)] (x2 : Int).toNat).get 1)) (hO₁₂.box 1 rfl) rfl rfl) ?_
                refine WO_on rfl b₁₄ ?_
                refine WO_v (a_neI (a := at_1) (b := ((gi [(⟨v, w⟩ : A2 Int), (⟨(max 0 v).tmod ((x.length : Int) + 1), (max 0 w).tmod ((x.length : Int) + 1)⟩ : A2 Int)] (x2 : Int).toNat).get 1)) rfl rfl) ?_
                refine WO_v (a_pickF (t := ((!(decide (x4 = 0))) || (!(decide ((x3.length : Int) = gi x5 ((gi [(⟨v, w⟩ : A2 Int), (⟨(max 0 v).tmod ((x.length : Int) + 1), (max 0 w).tmod ((x.length : Int) + 1)⟩ : A2 Int)] (x2 : Int).toNat).get 1 : Int).toNat))))) (v := .b (((!(decide (x4 = 0))) || (!(decide ((x3.length : Int) = gi x5 ((gi [(⟨v, w⟩ : A2 Int), (⟨(max 0 v).tmod ((x.length : Int) + 1), (max 0 w).tmod ((x.length : Int) + 1)⟩ : A2 Int)] (x2 : Int).toNat).get 1 : Int).toNat)))) || (!(decide (at_1 = (gi [(⟨v, w⟩ : A2 Int), (⟨(max 0 v).tmod ((x.length : Int) + 1), (max 0 w).tmod ((x.length : Int) + 1)⟩ : A2 Int)] (x2 : Int).toNat).get 1))))) rfl b₁₄ (Eq.trans (b := V.b (!(decide (at_1 = (gi [(⟨v, w⟩ : A2 Int), (⟨(max 0 v).tmod ((x.length : Int) + 1), (max 0 w).tmod ((x.length : Int) + 1)⟩ : A2 Int)] (x2 : Int).toNat).get 1)))) rfl (or_on b₁₄))) ?_
                refine WO_end ?_
                exact ⟨rfl, rfl, g₆_38, g₆_39, g₆_40, g₆_7⟩
            rintro frg₇ _ ⟨rfl, g₇_138, g₇_38, g₇_39, g₇_40, g₇_7⟩
            refine WO_end ?_
            refine then_n ?_
            rcases if_some hp with ⟨b₁₅, hp⟩ | ⟨b₁₅, hp⟩
            · refine W_cT (t := (((!(decide (x4 = 0))) || (!(decide ((x3.length : Int) = gi x5 ((gi [(⟨v, w⟩ : A2 Int), (⟨(max 0 v).tmod ((x.length : Int) + 1), (max 0 w).tmod ((x.length : Int) + 1)⟩ : A2 Int)] (x2 : Int).toNat).get 1 : Int).toNat)))) || (!(decide (at_1 = (gi [(⟨v, w⟩ : A2 Int), (⟨(max 0 v).tmod ((x.length : Int) + 1), (max 0 w).tmod ((x.length : Int) + 1)⟩ : A2 Int)] (x2 : Int).toNat).get 1))))) g₇_138 b₁₅ ?_
              refine W_sq ?_
              refine W_rg ?_
              refine WO_v (a_mv (v := .b false) rfl) ?_
              refine WO_end ?_
              refine then_n ?_
              refine W_rt ?_
              refine blk_r ?_
              refine then_r ?_
              have hp := Option.some.inj hp; subst hp
              refine (Or.inr (Exists.intro (.inr ()) (And.intro rfl (And.intro (fun h => nomatch h) (fun he => ?_)))))
              subst he; exact (And.intro rfl (And.intro (rfl) (hO₁₂.pick [] rfl (by decide))))
            · refine W_cF (t := (((!(decide (x4 = 0))) || (!(decide ((x3.length : Int) = gi x5 ((gi [(⟨v, w⟩ : A2 Int), (⟨(max 0 v).tmod ((x.length : Int) + 1), (max 0 w).tmod ((x.length : Int) + 1)⟩ : A2 Int)] (x2 : Int).toNat).get 1 : Int).toNat)))) || (!(decide (at_1 = (gi [(⟨v, w⟩ : A2 Int), (⟨(max 0 v).tmod ((x.length : Int) + 1), (max 0 w).tmod ((x.length : Int) + 1)⟩ : A2 Int)] (x2 : Int).toNat).get 1))))) g₇_138 b₁₅ ?_
              refine W_sk ?_
              refine blk_n ?_
              refine then_n ?_
              refine W_rg ?_
              obtain ⟨c₁₃, hp⟩ := ck_some hp
              refine WO_v (a_add (a := x2) (b := 1) g₇_40 rfl c₁₃) ?_
              refine WO_v (a_mv (v := .i .i64 (x2 + 1)) rfl) ?_
              refine WO_end ?_
              have hp := Option.some.inj hp; subst hp
              exact (Or.inl (Exists.intro (x2 + 1) (And.intro rfl (And.intro rfl (And.intro (g₇_7) (And.intro (g₇_38) (And.intro (g₇_39) (And.intro (rfl) (hO₁₂.pick [0, 3] rfl (by decide))))))))))
          · obtain ⟨rfl, q₃_6, hO₁₂⟩ := hJ₂
            refine blk_r ?_
            refine then_r ?_
            refine blk_r ?_
            refine then_r ?_
            have hp := Option.some.inj hp; subst hp
            refine (Or.inr (Exists.intro (.inr ()) (And.intro rfl (And.intro (fun h => nomatch h) (fun he => ?_)))))
            subst he; exact (And.intro rfl (And.intro (q₃_6) (hO₁₂.pick [] rfl (by decide))))
    · refine W_cF (t := (decide (x2 < ([(⟨v, w⟩ : A2 Int), (⟨(max 0 v).tmod ((x.length : Int) + 1), (max 0 w).tmod ((x.length : Int) + 1)⟩ : A2 Int)].length : Int)))) rfl b₁ ?_
      refine W_ex ?_
      refine then_e ?_
      have hp := Option.some.inj hp; subst hp
      refine (Or.inr (Exists.intro (.inl ()) (And.intro rfl (And.intro (fun h => nomatch h) (fun he => ?_)))))
      subst he; exact (And.intro rfl (hO₆.pick [] rfl (by decide)))
  intro e₁ q₁ k₅ hJ₁
  rcases o₁ with _ | _
  · obtain ⟨rfl, hO₅⟩ := hJ₁
    refine blk_i ?_
    refine then_n ?_
    refine W_sq ?_
    refine W_rg ?_
    obtain ⟨x7, hx₄, hp⟩ := bd_some hp
    obtain ⟨u₄, k₁₄, ca₄, rfl, hW₄⟩ := p_muntinlaw13_wakes.ok (h := k₅)   hx₄
    refine WO_c (id := 31) (caps := []) rfl mp_nil ca₄ ?_
    have hO₁₄ : Own B h k₁₄ [] := hO₅.call hW₄ rfl
    refine WO_v (a_mv (v := .b x7) rfl) ?_
    refine WO_end ?_
    refine then_n ?_
    refine W_rt ?_
    refine Ret_r (rs_t (n := 6) (v := .b x7) rfl rs_nil) ?_
    have hp := Option.some.inj hp; subst hp
    exact (And.intro rfl (hO₁₄.pick [] rfl (by decide)))
  · obtain ⟨rfl, q₁_6, hO₅⟩ := hJ₁
    refine blk_r ?_
    refine then_r ?_
    refine Ret_r (rs_t (n := 6) (v := .b false) q₁_6 rs_nil) ?_
    have hp := Option.some.inj hp; subst hp
    exact (And.intro rfl (hO₅.pick [] rfl (by decide)))

end Mu
