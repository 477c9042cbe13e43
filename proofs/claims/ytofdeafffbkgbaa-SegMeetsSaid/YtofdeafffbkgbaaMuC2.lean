/- The code comes to what was worked out. -/
import Derived.Test.YtofdeafffbkgbaaMuDf
import Derived.Test.YtofdeafffbkgbaaMuPa
import Derived.Test.YtofdeafffbkgbaaMuC1
set_option linter.unusedVariables false
set_option linter.unnecessarySimpa false
set_option linter.unusedSimpArgs false
set_option maxHeartbeats 2000000
set_option maxRecDepth 10000
namespace Mu
open Go (IntKind BinOp UnOp)
theorem p_muntinlaw16_SegMeets.ok {h : Hp} {z : T_muntinref10_Places} {i : Int} {k_ : Int} {v_z_At : V} {v_z_Bits : V} {v_z_Own : V} (s_z_At : Sl e_u8 h v_z_At z.At) (s_z_Bits : Sl e_u8 h v_z_Bits z.Bits) (s_z_Own : Sl e_i8 h v_z_Own z.Own) {r : Bool} (hp : p_muntinlaw16_SegMeets z i k_ = some r) :
    ∃ u k', Is G 107 [.ag [v_z_At, v_z_Bits, v_z_Own], .i .i64 i, .i .i64 k_] h u k' ∧ V.b r = u ∧ Own (fun r => r < h.n) h k' [] := by
  refine WC.is (WC_of G_F_muntinlaw16_SegMeets ?_)
  unfold p_muntinlaw16_SegMeets at hp
  let B : Nat → Prop := (fun r => r < h.n)
  have hO : Own B h h [] := Own.start0 h
  refine W_sq ?_
  refine W_rg ?_
  refine WO_x (hO.boxd (v := .ag [v_z_At, v_z_Bits, v_z_Own]) (cs := [v_z_At, v_z_Bits, v_z_Own]) hO.fr rfl rfl) ?_
  rintro _ k₁ ⟨r₁, rfl, n₁, f₁, hW⟩
  have hO₁ : Own B h k₁ [eBox r₁ [v_z_At, v_z_Bits, v_z_Own]] := hW
  refine WO_v (a_mv (v := .b false) rfl) ?_
  refine WO_end ?_
  refine then_n ?_
  refine W_sq ?_
  refine W_rg ?_
  refine WO_v (a_ldbA (cs := [v_z_At, v_z_Bits, v_z_Own]) (ws := [v_z_At, v_z_Bits, v_z_Own]) (hO₁.box 0 rfl) rfl rfl) ?_
  obtain ⟨⟨x, x1⟩, hx₁, hp⟩ := bd_some hp
  obtain ⟨u₁, k₂, ca₁, v₁, v₂, rfl, hW₁⟩ := p_muntinref10_Make.ok (h := k₁)  (hO₁.rd0 s_z_At.rd : Sl e_u8 k₁ v_z_At z.At) (hO₁.rd0 s_z_Bits.rd : Sl e_u8 k₁ v_z_Bits z.Bits) (hO₁.rd0 s_z_Own.rd : Sl e_i8 k₁ v_z_Own z.Own) hx₁
  refine WO_c (id := 28) (caps := []) rfl (mp_cons (v := .ag [v_z_At, v_z_Bits, v_z_Own]) rfl (mp_cons (v := .i .i64 20) rfl mp_nil)) ca₁ ?_
  have hO₂ : Own B h k₂ [eBox r₁ [v_z_At, v_z_Bits, v_z_Own], eSl e_T_api_Cell v₁ x, eSl e_T_api_Point v₂ x1] := hO₁.call hW₁ rfl
  refine WO_v (a_mv (v := .tu [v₁, v₂]) rfl) ?_
  refine WO_v (a_ext (vs := [v₁, v₂]) (v := v₁) rfl rfl) ?_
  refine WO_v (a_ext (vs := [v₁, v₂]) (v := v₂) rfl rfl) ?_
  refine WO_v (a_mv (v := v₁) rfl) ?_
  refine WO_v (a_mv (v := v₂) rfl) ?_
  refine WO_end ?_
  refine then_n ?_
  refine W_sq ?_
  refine W_rg ?_
  refine WO_v (a_mv (v := v₁) rfl) ?_
  obtain ⟨⟨x2, x3⟩, hx₂, hp⟩ := bd_some hp
  obtain ⟨u₂, k₃, ca₂, v₃, v₄, v₅, vs₁, v₆, vs₂, rfl, hW₂⟩ := p_seg_Of.ok (h := k₂)  (hO₂.sl 1 rfl : Sl e_T_api_Cell k₂ v₁ x) hx₂
  refine WO_c (id := 120) (caps := []) rfl (mp_cons (v := v₁) rfl mp_nil) ca₂ ?_
  have hO₃ : Own B h k₃ [eBox r₁ [v_z_At, v_z_Bits, v_z_Own], eSl e_T_api_Cell v₁ x, eSl e_T_api_Point v₂ x1, eSl eInt v₃ x2.X, eSl eInt v₄ x2.Y, eSl eV v₅ vs₁, eAll eInt vs₁ x2.Vert, eSl eV v₆ vs₂, eAll eInt vs₂ x2.Horz] := hO₂.call hW₂ rfl
  refine WO_v (a_mv (v := .tu [.ag [v₃, v₄, v₅, v₆], .i .i64 x3]) rfl) ?_
  refine WO_v (a_ext (vs := [.ag [v₃, v₄, v₅, v₆], .i .i64 x3]) (v := .ag [v₃, v₄, v₅, v₆]) rfl rfl) ?_
  refine WO_v (a_ext (vs := [.ag [v₃, v₄, v₅, v₆], .i .i64 x3]) (v := .i .i64 x3) rfl rfl) ?_
  refine WO_x (hO₃.alloc (cs := [.sn, .sn, .sn, .sn]) hO₃.fr) ?_
  rintro _ k₄ ⟨r₂, rfl, n₂, f₂, hW⟩
  have hO₄ : Own B h k₄ [eBox r₁ [v_z_At, v_z_Bits, v_z_Own], eSl e_T_api_Cell v₁ x, eSl e_T_api_Point v₂ x1, eSl eInt v₃ x2.X, eSl eInt v₄ x2.Y, eSl eV v₅ vs₁, eAll eInt vs₁ x2.Vert, eSl eV v₆ vs₂, eAll eInt vs₂ x2.Horz, eBox r₂ [.sn, .sn, .sn, .sn]] := hW
  refine WO_x (hO₄.stb (ws := [v₃, v₄, v₅, v₆]) (cs' := [v₃, v₄, v₅, v₆]) (v := .ag [v₃, v₄, v₅, v₆]) 9 rfl rfl rfl rfl ⟨rfl, Nat.le_of_ble_eq_true rfl, (all_cons (hO₄.sl 3 rfl : Sl eInt k₄ v₃ x2.X).oneV (all_cons (hO₄.sl 4 rfl : Sl eInt k₄ v₄ x2.Y).oneV (all_cons (hO₄.sl 5 rfl : Sl eV k₄ v₅ vs₁).oneV (all_cons (hO₄.sl 7 rfl : Sl eV k₄ v₆ vs₂).oneV all_nil))))⟩ rfl) ?_
  rintro _ k₅ ⟨rfl, f₃, m₁, hW⟩
  have hO₅ : Own B h k₅ [eBox r₁ [v_z_At, v_z_Bits, v_z_Own], eSl e_T_api_Cell v₁ x, eSl e_T_api_Point v₂ x1, eSl eInt v₃ x2.X, eSl eInt v₄ x2.Y, eSl eV v₅ vs₁, eAll eInt vs₁ x2.Vert, eSl eV v₆ vs₂, eAll eInt vs₂ x2.Horz, eBox r₂ [v₃, v₄, v₅, v₆]] := hW
  refine WO_v (a_mv (v := .i .i64 x3) rfl) ?_
  refine WO_end ?_
  refine then_n ?_
  refine W_sq ?_
  refine W_rg ?_
  refine WO_v (a_mv (v := v₁) rfl) ?_
  obtain ⟨⟨x4, x5⟩, hx₃, hp⟩ := bd_some hp
  obtain ⟨u₃, k₆, ca₃, v₇, v₈, v₉, vs₃, v₁₀, vs₄, rfl, hW₃⟩ := p_muntinref16_Of.ok (h := k₅)  (hO₅.sl 1 rfl : Sl e_T_api_Cell k₅ v₁ x) hx₃
  refine WO_c (id := 121) (caps := []) rfl (mp_cons (v := v₁) rfl mp_nil) ca₃ ?_
  have hO₆ : Own B h k₆ [eBox r₁ [v_z_At, v_z_Bits, v_z_Own], eSl e_T_api_Cell v₁ x, eSl e_T_api_Point v₂ x1, eSl eInt v₃ x2.X, eSl eInt v₄ x2.Y, eSl eV v₅ vs₁, eAll eInt vs₁ x2.Vert, eSl eV v₆ vs₂, eAll eInt vs₂ x2.Horz, eBox r₂ [v₃, v₄, v₅, v₆], eSl eInt v₇ x4.X, eSl eInt v₈ x4.Y, eSl eV v₉ vs₃, eAll eInt vs₃ x4.Vert, eSl eV v₁₀ vs₄, eAll eInt vs₄ x4.Horz] := hO₅.call hW₃ rfl
  refine WO_v (a_mv (v := .tu [.ag [v₇, v₈, v₉, v₁₀], .b x5]) rfl) ?_
  refine WO_v (a_ext (vs := [.ag [v₇, v₈, v₉, v₁₀], .b x5]) (v := .ag [v₇, v₈, v₉, v₁₀]) rfl rfl) ?_
  refine WO_v (a_ext (vs := [.ag [v₇, v₈, v₉, v₁₀], .b x5]) (v := .b x5) rfl rfl) ?_
  refine WO_x (hO₆.alloc (cs := [.sn, .sn, .sn, .sn]) hO₆.fr) ?_
  rintro _ k₇ ⟨r₃, rfl, n₃, f₄, hW⟩
  have hO₇ : Own B h k₇ [eBox r₁ [v_z_At, v_z_Bits, v_z_Own], eSl e_T_api_Cell v₁ x, eSl e_T_api_Point v₂ x1, eSl eInt v₃ x2.X, eSl eInt v₄ x2.Y, eSl eV v₅ vs₁, eAll eInt vs₁ x2.Vert, eSl eV v₆ vs₂, eAll eInt vs₂ x2.Horz, eBox r₂ [v₃, v₄, v₅, v₆], eSl eInt v₇ x4.X, eSl eInt v₈ x4.Y, eSl eV v₉ vs₃, eAll eInt vs₃ x4.Vert, eSl eV v₁₀ vs₄, eAll eInt vs₄ x4.Horz, eBox r₃ [.sn, .sn, .sn, .sn]] := hW
  refine WO_x (hO₇.stb (ws := [v₇, v₈, v₉, v₁₀]) (cs' := [v₇, v₈, v₉, v₁₀]) (v := .ag [v₇, v₈, v₉, v₁₀]) 16 rfl rfl rfl rfl ⟨rfl, Nat.le_of_ble_eq_true rfl, (all_cons (hO₇.sl 10 rfl : Sl eInt k₇ v₇ x4.X).oneV (all_cons (hO₇.sl 11 rfl : Sl eInt k₇ v₈ x4.Y).oneV (all_cons (hO₇.sl 12 rfl : Sl eV k₇ v₉ vs₃).oneV (all_cons (hO₇.sl 14 rfl : Sl eV k₇ v₁₀ vs₄).oneV all_nil))))⟩ rfl) ?_
  rintro _ k₈ ⟨rfl, f₅, m₂, hW⟩
  have hO₈ : Own B h k₈ [eBox r₁ [v_z_At, v_z_Bits, v_z_Own], eSl e_T_api_Cell v₁ x, eSl e_T_api_Point v₂ x1, eSl eInt v₃ x2.X, eSl eInt v₄ x2.Y, eSl eV v₅ vs₁, eAll eInt vs₁ x2.Vert, eSl eV v₆ vs₂, eAll eInt vs₂ x2.Horz, eBox r₂ [v₃, v₄, v₅, v₆], eSl eInt v₇ x4.X, eSl eInt v₈ x4.Y, eSl eV v₉ vs₃, eAll eInt vs₃ x4.Vert, eSl eV v₁₀ vs₄, eAll eInt vs₄ x4.Horz, eBox r₃ [v₇, v₈, v₉, v₁₀]] := hW
  refine WO_v (a_mv (v := .b x5) rfl) ?_
  refine WO_end ?_
  refine then_n ?_
  refine W_sq ?_
  refine W_sq ?_
  refine W_rg ?_
  obtain ⟨x6, hx₄, hp⟩ := bd_some hp
  obtain ⟨u₄, k₉, ca₄, rfl, hW₄⟩ := p_muntinlaw16_wakes.ok (h := k₈)   hx₄
  refine WO_c (id := 122) (caps := []) rfl mp_nil ca₄ ?_
  have hO₉ : Own B h k₉ [eBox r₁ [v_z_At, v_z_Bits, v_z_Own], eSl e_T_api_Cell v₁ x, eSl e_T_api_Point v₂ x1, eSl eInt v₃ x2.X, eSl eInt v₄ x2.Y, eSl eV v₅ vs₁, eAll eInt vs₁ x2.Vert, eSl eV v₆ vs₂, eAll eInt vs₂ x2.Horz, eBox r₂ [v₃, v₄, v₅, v₆], eSl eInt v₇ x4.X, eSl eInt v₈ x4.Y, eSl eV v₉ vs₃, eAll eInt vs₃ x4.Vert, eSl eV v₁₀ vs₄, eAll eInt vs₄ x4.Horz, eBox r₃ [v₇, v₈, v₉, v₁₀]] := hO₈.call hW₄ rfl
  refine WO_v (a_not (t := x6) rfl) ?_
  refine WO_v (a_mv (v := .b (!x6)) rfl) ?_
  refine WO_cut 3 (fun fr' k' => k₉ = k' ∧ fr' 39 = .b ((!x6) || (!(decide (x3 = 0)))) ∧ fr' 1 = .i .i64 i ∧ fr' 11 = .p r₃ 0 ∧ fr' 2 = .i .i64 k_ ∧ fr' 9 = .p r₂ 0) ?_ ?_
  · rcases bc (!x6) with b₁ | b₁
    · skip
      refine WO_off rfl b₁ ?_
      refine WO_off rfl b₁ ?_
      refine WO_v (a_pickT (t := (!x6)) (v := .b ((!x6) || (!(decide (x3 = 0))))) rfl b₁ (Eq.trans (b := V.b true) rfl (or_off b₁))) ?_
      refine WO_end ?_
      exact ⟨rfl, rfl, rfl, rfl, rfl, rfl⟩
    · skip
      refine WO_on rfl b₁ ?_
      refine WO_v (a_mv (v := .i .i64 x3) rfl) ?_
      refine WO_on rfl b₁ ?_
      refine WO_v (a_neI (a := x3) (b := 0) rfl rfl) ?_
      refine WO_v (a_pickF (t := (!x6)) (v := .b ((!x6) || (!(decide (x3 = 0))))) rfl b₁ (Eq.trans (b := V.b (!(decide (x3 = 0)))) rfl (or_on b₁))) ?_
      refine WO_end ?_
      exact ⟨rfl, rfl, rfl, rfl, rfl, rfl⟩
  rintro frg₁ _ ⟨rfl, g₁_39, g₁_1, g₁_11, g₁_2, g₁_9⟩
  refine WO_end ?_
  refine then_n ?_
  rcases if_some hp with ⟨b₂, hp⟩ | ⟨b₂, hp⟩
  · refine W_cT (t := ((!x6) || (!(decide (x3 = 0))))) g₁_39 b₂ ?_
    refine W_sq ?_
    refine W_rg ?_
    refine WO_v (a_mv (v := .b false) rfl) ?_
    refine WO_end ?_
    refine then_n ?_
    refine W_rt ?_
    refine then_r ?_
    refine Ret_r (rs_t (n := 6) (v := .b false) rfl rs_nil) ?_
    have hp := Option.some.inj hp; subst hp
    exact (And.intro rfl (hO₉.pick [] rfl (by decide)))
  · refine W_cF (t := ((!x6) || (!(decide (x3 = 0))))) g₁_39 b₂ ?_
    refine W_sk ?_
    refine then_n ?_
    refine W_sq ?_
    refine W_sq ?_
    refine W_rg ?_
    refine WO_x (hO₉.bsl (E := e_bool) (l := [true, false]) hO₉.fr (by rw [(ev_cons (v := .b true) rfl (ev_cons (v := .b false) rfl ev_nil))]; rfl) rfl) ?_
    rintro v₁₁ k₁₀ ⟨r₄, f₆, hW⟩
    have hO₁₀ : Own B h k₁₀ [eBox r₁ [v_z_At, v_z_Bits, v_z_Own], eSl e_T_api_Cell v₁ x, eSl e_T_api_Point v₂ x1, eSl eInt v₃ x2.X, eSl eInt v₄ x2.Y, eSl eV v₅ vs₁, eAll eInt vs₁ x2.Vert, eSl eV v₆ vs₂, eAll eInt vs₂ x2.Horz, eBox r₂ [v₃, v₄, v₅, v₆], eSl eInt v₇ x4.X, eSl eInt v₈ x4.Y, eSl eV v₉ vs₃, eAll eInt vs₃ x4.Vert, eSl eV v₁₀ vs₄, eAll eInt vs₄ x4.Horz, eBox r₃ [v₇, v₈, v₉, v₁₀], eSl e_bool v₁₁ [true, false]] := hW
    refine WO_v (a_len (hO₁₀.sl 17 rfl : Sl e_bool k₁₀ v₁₁ [true, false]) rfl) ?_
    refine WO_v (a_mv (v := .i .i64 0) rfl) ?_
    refine WO_end ?_
    refine then_n ?_
    refine W_bl ?_
    obtain ⟨o₁, ho₁, hp⟩ := bd_some hp
    refine W.mono (Q := fun e fr k => match (generalizing := false) o₁ with
        | .inl _ => e = (.exit 0) ∧ Own B h k []
        | .inr _ => e = .ret ∧ fr 6 = .b false ∧ Own B h k []) ?_ ?_
    · clear hp
      refine W_loopF (fun st fr k => match st with | x7 => fr 1 = .i .i64 i ∧ fr 2 = .i .i64 k_ ∧ fr 9 = .p r₂ 0 ∧ fr 11 = .p r₃ 0 ∧ fr 40 = v₁₁ ∧ fr 41 = .i .i64 ([true, false].length : Int) ∧ fr 42 = .i .i64 x7 ∧ Own B h k [eBox r₂ [v₃, v₄, v₅, v₆], eSl eInt v₃ x2.X, eSl eInt v₄ x2.Y, eSl eV v₅ vs₁, eAll eInt vs₁ x2.Vert, eSl eV v₆ vs₂, eAll eInt vs₂ x2.Horz, eBox r₃ [v₇, v₈, v₉, v₁₀], eSl eInt v₇ x4.X, eSl eInt v₈ x4.Y, eSl eV v₉ vs₃, eAll eInt vs₃ x4.Vert, eSl eV v₁₀ vs₄, eAll eInt vs₄ x4.Horz, eSl e_bool v₁₁ [true, false]]) ho₁ (s := 0) (And.intro (g₁_1) (And.intro (g₁_2) (And.intro (g₁_9) (And.intro (g₁_11) (And.intro (rfl) (And.intro (rfl) (And.intro (rfl) (hO₁₀.pick [9, 3, 4, 5, 6, 7, 8, 16, 10, 11, 12, 13, 14, 15, 17] rfl (by decide))))))))) ?_
      rintro x7 q₂ k₁₂ ⟨q₂_1, q₂_2, q₂_9, q₂_11, q₂_40, q₂_41, q₂_42, hO₁₂⟩ o₂ hp
      dsimp only [p_muntinlaw16_SegMeets.s0] at hp
      refine W_sq ?_
      refine W_rg ?_
      refine WO_v (a_lss (a := x7) (b := ([true, false].length : Int)) q₂_42 q₂_41) ?_
      refine WO_end ?_
      refine then_n ?_
      refine W_sq ?_
      rcases if_some hp with ⟨b₃, hp⟩ | ⟨b₃, hp⟩
      · refine W_cT (t := (decide (x7 < ([true, false].length : Int)))) rfl b₃ ?_
        refine W_sk ?_
        refine then_n ?_
        refine W_sq ?_
        refine W_bl ?_
        refine W_sq ?_
        refine W_rg ?_
        obtain ⟨c₁, hp⟩ := ck_some hp
        refine WO_v (a_ixa (E := e_bool) (z := x7) (hO₁₂.sl 14 rfl : Sl e_bool k₁₂ v₁₁ [true, false]) q₂_40 q₂_42 c₁) ?_
        refine WO_v (a_ldE (w := .b (gi [true, false] (x7 : Int).toNat)) (hO₁₂.sl 14 rfl : Sl e_bool k₁₂ v₁₁ [true, false]) rfl (toNat_lt c₁) rfl) ?_
        refine WO_v (a_mv (v := .b (gi [true, false] (x7 : Int).toNat)) rfl) ?_
        refine WO_end ?_
        refine then_n ?_
        refine W_sq ?_
        refine W_rg ?_
        refine WO_x (hO₁₂.bsl (E := e_bool) (l := [true, false]) hO₁₂.fr (by rw [(ev_cons (v := .b true) rfl (ev_cons (v := .b false) rfl ev_nil))]; rfl) rfl) ?_
        rintro v₁₂ k₁₃ ⟨r₅, f₇, hW⟩
        have hO₁₃ : Own B h k₁₃ [eBox r₂ [v₃, v₄, v₅, v₆], eSl eInt v₃ x2.X, eSl eInt v₄ x2.Y, eSl eV v₅ vs₁, eAll eInt vs₁ x2.Vert, eSl eV v₆ vs₂, eAll eInt vs₂ x2.Horz, eBox r₃ [v₇, v₈, v₉, v₁₀], eSl eInt v₇ x4.X, eSl eInt v₈ x4.Y, eSl eV v₉ vs₃, eAll eInt vs₃ x4.Vert, eSl eV v₁₀ vs₄, eAll eInt vs₄ x4.Horz, eSl e_bool v₁₁ [true, false], eSl e_bool v₁₂ [true, false]] := hW
        refine WO_v (a_len (hO₁₃.sl 15 rfl : Sl e_bool k₁₃ v₁₂ [true, false]) rfl) ?_
        refine WO_v (a_mv (v := .i .i64 0) rfl) ?_
        refine WO_end ?_
        refine then_n ?_
        refine W_bl ?_
        obtain ⟨o₃, ho₂, hp⟩ := bd_some hp
        refine W.mono (Q := fun e fr k => match (generalizing := false) o₃ with
            | .inl _ => e = (.exit 2) ∧ fr 1 = .i .i64 i ∧ fr 2 = .i .i64 k_ ∧ fr 9 = .p r₂ 0 ∧ fr 11 = .p r₃ 0 ∧ fr 40 = v₁₁ ∧ fr 41 = .i .i64 ([true, false].length : Int) ∧ fr 42 = .i .i64 x7 ∧ Own B h k [eBox r₂ [v₃, v₄, v₅, v₆], eSl eInt v₃ x2.X, eSl eInt v₄ x2.Y, eSl eV v₅ vs₁, eAll eInt vs₁ x2.Vert, eSl eV v₆ vs₂, eAll eInt vs₂ x2.Horz, eBox r₃ [v₇, v₈, v₉, v₁₀], eSl eInt v₇ x4.X, eSl eInt v₈ x4.Y, eSl eV v₉ vs₃, eAll eInt vs₃ x4.Vert, eSl eV v₁₀ vs₄, eAll eInt vs₄ x4.Horz, eSl e_bool v₁₁ [true, false]]
            | .inr _ => e = .ret ∧ fr 6 = .b false ∧ Own B h k []) ?_ ?_
        · clear hp
          refine W_loopF (fun st fr k => match st with | x8 => fr 1 = .i .i64 i ∧ fr 2 = .i .i64 k_ ∧ fr 9 = .p r₂ 0 ∧ fr 11 = .p r₃ 0 ∧ fr 14 = .b (gi [true, false] (x7 : Int).toNat) ∧ fr 40 = v₁₁ ∧ fr 41 = .i .i64 ([true, false].length : Int) ∧ fr 42 = .i .i64 x7 ∧ fr 46 = v₁₂ ∧ fr 47 = .i .i64 ([true, false].length : Int) ∧ fr 48 = .i .i64 x8 ∧ Own B h k [eBox r₂ [v₃, v₄, v₅, v₆], eSl eInt v₃ x2.X, eSl eInt v₄ x2.Y, eSl eV v₅ vs₁, eAll eInt vs₁ x2.Vert, eSl eV v₆ vs₂, eAll eInt vs₂ x2.Horz, eBox r₃ [v₇, v₈, v₉, v₁₀], eSl eInt v₇ x4.X, eSl eInt v₈ x4.Y, eSl eV v₉ vs₃, eAll eInt vs₃ x4.Vert, eSl eV v₁₀ vs₄, eAll eInt vs₄ x4.Horz, eSl e_bool v₁₁ [true, false], eSl e_bool v₁₂ [true, false]]) ho₂ (s := 0) (And.intro (q₂_1) (And.intro (q₂_2) (And.intro (q₂_9) (And.intro (q₂_11) (And.intro (rfl) (And.intro (q₂_40) (And.intro (q₂_41) (And.intro (q₂_42) (And.intro (rfl) (And.intro (rfl) (And.intro (rfl) (hO₁₃.pick [0, 1, 2, 3, 4, 5, 6, 7, 8, 9, 10, 11, 12, 13, 14, 15] rfl (by decide))))))))))))) ?_
          rintro x8 q₄ k₁₅ ⟨q₄_1, q₄_2, q₄_9, q₄_11, q₄_14, q₄_40, q₄_41, q₄_42, q₄_46, q₄_47, q₄_48, hO₁₅⟩ o₄ hp
          dsimp only [p_muntinlaw16_SegMeets.s1] at hp
          refine W_sq ?_
          refine W_rg ?_
          refine WO_v (a_lss (a := x8) (b := ([true, false].length : Int)) q₄_48 q₄_47) ?_
          refine WO_end ?_
          refine then_n ?_
          refine W_sq ?_
          rcases if_some hp with ⟨b₄, hp⟩ | ⟨b₄, hp⟩
          · refine W_cT (t := (decide (x8 < ([true, false].length : Int)))) rfl b₄ ?_
            refine W_sk ?_
            refine then_n ?_
            refine W_sq ?_
            refine W_bl ?_
            refine W_sq ?_
            refine W_rg ?_
            obtain ⟨c₂, hp⟩ := ck_some hp
            refine WO_v (a_ixa (E := e_bool) (z := x8) (hO₁₅.sl 15 rfl : Sl e_bool k₁₅ v₁₂ [true, false]) q₄_46 q₄_48 c₂) ?_
            refine WO_v (a_ldE (w := .b (gi [true, false] (x8 : Int).toNat)) (hO₁₅.sl 15 rfl : Sl e_bool k₁₅ v₁₂ [true, false]) rfl (toNat_lt c₂) rfl) ?_
            refine WO_v (a_mv (v := .b (gi [true, false] (x8 : Int).toNat)) rfl) ?_
            refine WO_end ?_
            refine then_n ?_
            refine W_sq ?_
            refine W_rg ?_
            refine WO_v (a_mv (v := .i .i64 i) q₄_1) ?_
            refine WO_v (a_mv (v := .i .i64 k_) q₄_2) ?_
            refine WO_v (a_build (cs := e_A2_i64.c (⟨i, k_⟩ : A2 Int)) (by rw [(ev_cons (v := .i .i64 i) rfl (ev_cons (v := .i .i64 k_) rfl ev_nil))]; rfl)) ?_
            refine WO_v (a_mv (v := .i .i64 i) q₄_1) ?_
            refine WO_v (a_mx (a := 0) (b := i) rfl rfl) ?_
            refine WO_v (a_rem (a := (max 0 i)) (b := 7) rfl rfl (by decide)) ?_
            refine WO_v (a_mv (v := .i .i64 k_) q₄_2) ?_
            refine WO_v (a_mx (a := 0) (b := k_) rfl rfl) ?_
            refine WO_v (a_rem (a := (max 0 k_)) (b := 7) rfl rfl (by decide)) ?_
            refine WO_v (a_build (cs := e_A2_i64.c (⟨(max 0 i).tmod 7, (max 0 k_).tmod 7⟩ : A2 Int)) (by rw [(ev_cons (v := .i .i64 ((max 0 i).tmod 7)) rfl (ev_cons (v := .i .i64 ((max 0 k_).tmod 7)) rfl ev_nil))]; rfl)) ?_
            refine WO_x (hO₁₅.bsl (E := e_A2_i64) (l := [(⟨i, k_⟩ : A2 Int), (⟨(max 0 i).tmod 7, (max 0 k_).tmod 7⟩ : A2 Int)]) hO₁₅.fr (by rw [(ev_cons (v := .ag (e_A2_i64.c (⟨i, k_⟩ : A2 Int))) rfl (ev_cons (v := .ag (e_A2_i64.c (⟨(max 0 i).tmod 7, (max 0 k_).tmod 7⟩ : A2 Int))) rfl ev_nil))]; rfl) rfl) ?_
            rintro v₁₃ k₁₆ ⟨r₆, f₈, hW⟩
            have hO₁₆ : Own B h k₁₆ [eBox r₂ [v₃, v₄, v₅, v₆], eSl eInt v₃ x2.X, eSl eInt v₄ x2.Y, eSl eV v₅ vs₁, eAll eInt vs₁ x2.Vert, eSl eV v₆ vs₂, eAll eInt vs₂ x2.Horz, eBox r₃ [v₇, v₈, v₉, v₁₀], eSl eInt v₇ x4.X, eSl eInt v₈ x4.Y, eSl eV v₉ vs₃, eAll eInt vs₃ x4.Vert, eSl eV v₁₀ vs₄, eAll eInt vs₄ x4.Horz, eSl e_bool v₁₁ [true, false], eSl e_bool v₁₂ [true, false], eSl e_A2_i64 v₁₃ [(⟨i, k_⟩ : A2 Int), (⟨(max 0 i).tmod 7, (max 0 k_).tmod 7⟩ : A2 Int)]] := hW
            refine WO_v (a_len (hO₁₆.sl 16 rfl : Sl e_A2_i64 k₁₆ v₁₃ [(⟨i, k_⟩ : A2 Int), (⟨(max 0 i).tmod 7, (max 0 k_).tmod 7⟩ : A2 Int)]) rfl) ?_
            refine WO_v (a_mv (v := .i .i64 0) rfl) ?_
            refine WO_end ?_
            refine then_n ?_
            refine W_bl ?_
            obtain ⟨o₅, ho₃, hp⟩ := bd_some hp
            refine W.mono (Q := fun e fr k => match (generalizing := false) o₅ with
                | .inl _ => e = (.exit 4) ∧ fr 1 = .i .i64 i ∧ fr 2 = .i .i64 k_ ∧ fr 9 = .p r₂ 0 ∧ fr 11 = .p r₃ 0 ∧ fr 14 = .b (gi [true, false] (x7 : Int).toNat) ∧ fr 40 = v₁₁ ∧ fr 41 = .i .i64 ([true, false].length : Int) ∧ fr 42 = .i .i64 x7 ∧ fr 46 = v₁₂ ∧ fr 47 = .i .i64 ([true, false].length : Int) ∧ fr 48 = .i .i64 x8 ∧ Own B h k [eBox r₂ [v₃, v₄, v₅, v₆], eSl eInt v₃ x2.X, eSl eInt v₄ x2.Y, eSl eV v₅ vs₁, eAll eInt vs₁ x2.Vert, eSl eV v₆ vs₂, eAll eInt vs₂ x2.Horz, eBox r₃ [v₇, v₈, v₉, v₁₀], eSl eInt v₇ x4.X, eSl eInt v₈ x4.Y, eSl eV v₉ vs₃, eAll eInt vs₃ x4.Vert, eSl eV v₁₀ vs₄, eAll eInt vs₄ x4.Horz, eSl e_bool v₁₁ [true, false], eSl e_bool v₁₂ [true, false]]
                | .inr _ => e = .ret ∧ fr 6 = .b false ∧ Own B h k []) ?_ ?_
            · clear hp
              refine W_loopF (fun st fr k => match st with | x9 => fr 1 = .i .i64 i ∧ fr 2 = .i .i64 k_ ∧ fr 9 = .p r₂ 0 ∧ fr 11 = .p r₃ 0 ∧ fr 14 = .b (gi [true, false] (x7 : Int).toNat) ∧ fr 16 = .b (gi [true, false] (x8 : Int).toNat) ∧ fr 40 = v₁₁ ∧ fr 41 = .i .i64 ([true, false].length : Int) ∧ fr 42 = .i .i64 x7 ∧ fr 46 = v₁₂ ∧ fr 47 = .i .i64 ([true, false].length : Int) ∧ fr 48 = .i .i64 x8 ∧ fr 62 = v₁₃ ∧ fr 63 = .i .i64 ([(⟨i, k_⟩ : A2 Int), (⟨(max 0 i).tmod 7, (max 0 k_).tmod 7⟩ : A2 Int)].length : Int) ∧ fr 64 = .i .i64 x9 ∧ Own B h k [eBox r₂ [v₃, v₄, v₅, v₆], eSl eInt v₃ x2.X, eSl eInt v₄ x2.Y, eSl eV v₅ vs₁, eAll eInt vs₁ x2.Vert, eSl eV v₆ vs₂, eAll eInt vs₂ x2.Horz, eBox r₃ [v₇, v₈, v₉, v₁₀], eSl eInt v₇ x4.X, eSl eInt v₈ x4.Y, eSl eV v₉ vs₃, eAll eInt vs₃ x4.Vert, eSl eV v₁₀ vs₄, eAll eInt vs₄ x4.Horz, eSl e_bool v₁₁ [true, false], eSl e_bool v₁₂ [true, false], eSl e_A2_i64 v₁₃ [(⟨i, k_⟩ : A2 Int), (⟨(max 0 i).tmod 7, (max 0 k_).tmod 7⟩ : A2 Int)]]) ho₃ (s := 0) (And.intro (q₄_1) (And.intro (q₄_2) (And.intro (q₄_9) (And.intro (q₄_11) (And.intro (q₄_14) (And.intro (rfl) (And.intro (q₄_40) (And.intro (q₄_41) (And.intro (q₄_42) (And.intro (q₄_46) (And.intro (q₄_47) (And.intro (q₄_48) (And.intro (rfl) (And.intro (rfl) (And.intro (rfl) (hO₁₆.pick [0, 1, 2, 3, 4, 5, 6, 7, 8, 9, 10, 11, 12, 13, 14, 15, 16] rfl (by decide))))))))))))))))) ?_
              rintro x9 q₆ k₁₈ ⟨q₆_1, q₆_2, q₆_9, q₆_11, q₆_14, q₆_16, q₆_40, q₆_41, q₆_42, q₆_46, q₆_47, q₆_48, q₆_62, q₆_63, q₆_64, hO₁₈⟩ o₆ hp
              dsimp only [p_muntinlaw16_SegMeets.s2] at hp
              refine W_sq ?_
              refine W_rg ?_
              refine WO_v (a_lss (a := x9) (b := ([(⟨i, k_⟩ : A2 Int), (⟨(max 0 i).tmod 7, (max 0 k_).tmod 7⟩ : A2 Int)].length : Int)) q₆_64 q₆_63) ?_
              refine WO_end ?_
              refine then_n ?_
              refine W_sq ?_
              rcases if_some hp with ⟨b₅, hp⟩ | ⟨b₅, hp⟩
              · refine W_cT (t := (decide (x9 < ([(⟨i, k_⟩ : A2 Int), (⟨(max 0 i).tmod 7, (max 0 k_).tmod 7⟩ : A2 Int)].length : Int)))) rfl b₅ ?_
                refine W_sk ?_
                refine then_n ?_
                refine W_sq ?_
                refine W_bl ?_
                refine W_sq ?_
                refine W_rg ?_
                obtain ⟨c₃, hp⟩ := ck_some hp
                refine WO_v (a_ixa (E := e_A2_i64) (z := x9) (hO₁₈.sl 16 rfl : Sl e_A2_i64 k₁₈ v₁₃ [(⟨i, k_⟩ : A2 Int), (⟨(max 0 i).tmod 7, (max 0 k_).tmod 7⟩ : A2 Int)]) q₆_62 q₆_64 c₃) ?_
                refine WO_v (a_ldA (E := e_A2_i64) (hO₁₈.sl 16 rfl : Sl e_A2_i64 k₁₈ v₁₃ [(⟨i, k_⟩ : A2 Int), (⟨(max 0 i).tmod 7, (max 0 k_).tmod 7⟩ : A2 Int)]) rfl (toNat_lt c₃)) ?_
                refine WO_x (hO₁₈.alloc (cs := e_A2_i64.c (⟨0, 0⟩ : A2 Int)) hO₁₈.fr) ?_
                rintro _ k₁₉ ⟨r₇, rfl, n₄, f₉, hW⟩
                have hO₁₉ : Own B h k₁₉ [eBox r₂ [v₃, v₄, v₅, v₆], eSl eInt v₃ x2.X, eSl eInt v₄ x2.Y, eSl eV v₅ vs₁, eAll eInt vs₁ x2.Vert, eSl eV v₆ vs₂, eAll eInt vs₂ x2.Horz, eBox r₃ [v₇, v₈, v₉, v₁₀], eSl eInt v₇ x4.X, eSl eInt v₈ x4.Y, eSl eV v₉ vs₃, eAll eInt vs₃ x4.Vert, eSl eV v₁₀ vs₄, eAll eInt vs₄ x4.Horz, eSl e_bool v₁₁ [true, false], eSl e_bool v₁₂ [true, false], eSl e_A2_i64 v₁₃ [(⟨i, k_⟩ : A2 Int), (⟨(max 0 i).tmod 7, (max 0 k_).tmod 7⟩ : A2 Int)], eBox r₇ (e_A2_i64.c (⟨0, 0⟩ : A2 Int))] := hW
                refine WO_x (hO₁₉.stb (ws := e_A2_i64.c (gi [(⟨i, k_⟩ : A2 Int), (⟨(max 0 i).tmod 7, (max 0 k_).tmod 7⟩ : A2 Int)] (x9 : Int).toNat)) (cs' := e_A2_i64.c (gi [(⟨i, k_⟩ : A2 Int), (⟨(max 0 i).tmod 7, (max 0 k_).tmod 7⟩ : A2 Int)] (x9 : Int).toNat)) (v := .ag (e_A2_i64.c (gi [(⟨i, k_⟩ : A2 Int), (⟨(max 0 i).tmod 7, (max 0 k_).tmod 7⟩ : A2 Int)] (x9 : Int).toNat))) 17 rfl rfl rfl rfl ⟨rfl, Nat.le_of_ble_eq_true rfl, rfl⟩ rfl) ?_
                rintro _ k₂₀ ⟨rfl, f₁₀, m₃, hW⟩
                have hO₂₀ : Own B h k₂₀ [eBox r₂ [v₃, v₄, v₅, v₆], eSl eInt v₃ x2.X, eSl eInt v₄ x2.Y, eSl eV v₅ vs₁, eAll eInt vs₁ x2.Vert, eSl eV v₆ vs₂, eAll eInt vs₂ x2.Horz, eBox r₃ [v₇, v₈, v₉, v₁₀], eSl eInt v₇ x4.X, eSl eInt v₈ x4.Y, eSl eV v₉ vs₃, eAll eInt vs₃ x4.Vert, eSl eV v₁₀ vs₄, eAll eInt vs₄ x4.Horz, eSl e_bool v₁₁ [true, false], eSl e_bool v₁₂ [true, false], eSl e_A2_i64 v₁₃ [(⟨i, k_⟩ : A2 Int), (⟨(max 0 i).tmod 7, (max 0 k_).tmod 7⟩ : A2 Int)], eBox r₇ (e_A2_i64.c (gi [(⟨i, k_⟩ : A2 Int), (⟨(max 0 i).tmod 7, (max 0 k_).tmod 7⟩ : A2 Int)] (x9 : Int).toNat))] := hW
                refine WO_end ?_
                refine then_n ?_
                refine W_sq ?_
                refine W_dr ?_
                have hW := hO₂₀.bump 17
                have fr₁ := Fresh.start k₂₀ 17
                have nb₁ : ∀ {i : Nat}, h.n ≤ k₂₀.n + i := Nat.le_trans hO₂₀.n (Nat.le_add_right _ _)
                have hO₂₁ : Own B h (k₂₀.bump 17) [eBox r₂ [v₃, v₄, v₅, v₆], eSl eInt v₃ x2.X, eSl eInt v₄ x2.Y, eSl eV v₅ vs₁, eAll eInt vs₁ x2.Vert, eSl eV v₆ vs₂, eAll eInt vs₂ x2.Horz, eBox r₃ [v₇, v₈, v₉, v₁₀], eSl eInt v₇ x4.X, eSl eInt v₈ x4.Y, eSl eV v₉ vs₃, eAll eInt vs₃ x4.Vert, eSl eV v₁₀ vs₄, eAll eInt vs₄ x4.Horz, eSl e_bool v₁₁ [true, false], eSl e_bool v₁₂ [true, false], eSl e_A2_i64 v₁₃ [(⟨i, k_⟩ : A2 Int), (⟨(max 0 i).tmod 7, (max 0 k_).tmod 7⟩ : A2 Int)], eBox r₇ (e_A2_i64.c (gi [(⟨i, k_⟩ : A2 Int), (⟨(max 0 i).tmod 7, (max 0 k_).tmod 7⟩ : A2 Int)] (x9 : Int).toNat))] := hW
                refine WD_v (a_ldbA (cs := [v₃, v₄, v₅, v₆]) (ws := [v₃, v₄, v₅, v₆]) (hO₂₁.box 0 rfl) q₆_9 rfl) ?_
                refine WD_v (a_mv (v := .b (gi [true, false] (x7 : Int).toNat)) q₆_14) ?_
                refine WD_v (a_ixaa (o := 0) (o' := 0) (z := 0) rfl rfl (by decide) rfl) ?_
                refine WD_v (a_ldb (cs := (e_A2_i64.c (gi [(⟨i, k_⟩ : A2 Int), (⟨(max 0 i).tmod 7, (max 0 k_).tmod 7⟩ : A2 Int)] (x9 : Int).toNat))) (v := .i .i64 ((gi [(⟨i, k_⟩ : A2 Int), (⟨(max 0 i).tmod 7, (max 0 k_).tmod 7⟩ : A2 Int)] (x9 : Int).toNat).get 0)) (hO₂₁.box 17 rfl) rfl rfl) ?_
                refine WD_v (a_mv (v := .b (gi [true, false] (x8 : Int).toNat)) q₆_16) ?_
                refine WD_v (a_ixaa (o := 0) (o' := 1) (z := 1) rfl rfl (by decide) rfl) ?_
                refine WD_v (a_ldb (cs := (e_A2_i64.c (gi [(⟨i, k_⟩ : A2 Int), (⟨(max 0 i).tmod 7, (max 0 k_).tmod 7⟩ : A2 Int)] (x9 : Int).toNat))) (v := .i .i64 ((gi [(⟨i, k_⟩ : A2 Int), (⟨(max 0 i).tmod 7, (max 0 k_).tmod 7⟩ : A2 Int)] (x9 : Int).toNat).get 1)) (hO₂₁.box 17 rfl) rfl rfl) ?_
                obtain ⟨x10, hx₅, hp⟩ := bd_some hp
                obtain ⟨u₅, k₂₂, ca₅, rfl, hW₅⟩ := p_seg_Chains_Meet.ok (h := (k₂₀.bump 17))  (hO₂₁.sl 1 rfl : Sl eInt (k₂₀.bump 17) v₃ x2.X) (hO₂₁.sl 2 rfl : Sl eInt (k₂₀.bump 17) v₄ x2.Y) (hO₂₁.sl 3 rfl : Sl eV (k₂₀.bump 17) v₅ vs₁) (hO₂₁.allLen 4 rfl : (vs₁).length = (x2.Vert).length) (fun j hj => hO₂₁.inn 4 rfl hj) (hO₂₁.sl 5 rfl : Sl eV (k₂₀.bump 17) v₆ vs₂) (hO₂₁.allLen 6 rfl : (vs₂).length = (x2.Horz).length) (fun j hj => hO₂₁.inn 6 rfl hj) hx₅
                refine WD_c (id := 123) (caps := []) rfl (mp_cons (v := .ag [v₃, v₄, v₅, v₆]) rfl (mp_cons (v := .b (gi [true, false] (x7 : Int).toNat)) rfl (mp_cons (v := .i .i64 ((gi [(⟨i, k_⟩ : A2 Int), (⟨(max 0 i).tmod 7, (max 0 k_).tmod 7⟩ : A2 Int)] (x9 : Int).toNat).get 0)) rfl (mp_cons (v := .b (gi [true, false] (x8 : Int).toNat)) rfl (mp_cons (v := .i .i64 ((gi [(⟨i, k_⟩ : A2 Int), (⟨(max 0 i).tmod 7, (max 0 k_).tmod 7⟩ : A2 Int)] (x9 : Int).toNat).get 1)) rfl mp_nil))))) ca₅ ?_
                have fr₂ := fr₁.call hW₅
                have hO₂₂ : Own B h k₂₂ [eBox r₂ [v₃, v₄, v₅, v₆], eSl eInt v₃ x2.X, eSl eInt v₄ x2.Y, eSl eV v₅ vs₁, eAll eInt vs₁ x2.Vert, eSl eV v₆ vs₂, eAll eInt vs₂ x2.Horz, eBox r₃ [v₇, v₈, v₉, v₁₀], eSl eInt v₇ x4.X, eSl eInt v₈ x4.Y, eSl eV v₉ vs₃, eAll eInt vs₃ x4.Vert, eSl eV v₁₀ vs₄, eAll eInt vs₄ x4.Horz, eSl e_bool v₁₁ [true, false], eSl e_bool v₁₂ [true, false], eSl e_A2_i64 v₁₃ [(⟨i, k_⟩ : A2 Int), (⟨(max 0 i).tmod 7, (max 0 k_).tmod 7⟩ : A2 Int)], eBox r₇ (e_A2_i64.c (gi [(⟨i, k_⟩ : A2 Int), (⟨(max 0 i).tmod 7, (max 0 k_).tmod 7⟩ : A2 Int)] (x9 : Int).toNat))] := hO₂₁.call hW₅ rfl
                refine WD_v (a_ldbA (cs := [v₇, v₈, v₉, v₁₀]) (ws := [v₇, v₈, v₉, v₁₀]) (hO₂₂.box 7 rfl) q₆_11 rfl) ?_
                refine WD_v (a_mv (v := .b (gi [true, false] (x7 : Int).toNat)) q₆_14) ?_
                refine WD_v (a_ixaa (o := 0) (o' := 0) (z := 0) rfl rfl (by decide) rfl) ?_
                refine WD_v (a_ldb (cs := (e_A2_i64.c (gi [(⟨i, k_⟩ : A2 Int), (⟨(max 0 i).tmod 7, (max 0 k_).tmod 7⟩ : A2 Int)] (x9 : Int).toNat))) (v := .i .i64 ((gi [(⟨i, k_⟩ : A2 Int), (⟨(max 0 i).tmod 7, (max 0 k_).tmod 7⟩ : A2 Int)] (x9 : Int).toNat).get 0)) (hO₂₂.box 17 rfl) rfl rfl) ?_
                refine WD_v (a_mv (v := .b (gi [true, false] (x8 : Int).toNat)) q₆_16) ?_
                refine WD_v (a_ixaa (o := 0) (o' := 1) (z := 1) rfl rfl (by decide) rfl) ?_
                refine WD_v (a_ldb (cs := (e_A2_i64.c (gi [(⟨i, k_⟩ : A2 Int), (⟨(max 0 i).tmod 7, (max 0 k_).tmod 7⟩ : A2 Int)] (x9 : Int).toNat))) (v := .i .i64 ((gi [(⟨i, k_⟩ : A2 Int), (⟨(max 0 i).tmod 7, (max 0 k_).tmod 7⟩ : A2 Int)] (x9 : Int).toNat).get 1)) (hO₂₂.box 17 rfl) rfl rfl) ?_
                obtain ⟨x11, hx₆, hp⟩ := bd_some hp
                obtain ⟨u₆, k₂₃, ca₆, rfl, hW₆⟩ := p_muntinref16_Meet.ok (h := k₂₂)  (hO₂₂.sl 8 rfl : Sl eInt k₂₂ v₇ x4.X) (hO₂₂.sl 9 rfl : Sl eInt k₂₂ v₈ x4.Y) (hO₂₂.sl 10 rfl : Sl eV k₂₂ v₉ vs₃) (hO₂₂.allLen 11 rfl : (vs₃).length = (x4.Vert).length) (fun j hj => hO₂₂.inn 11 rfl hj) (hO₂₂.sl 12 rfl : Sl eV k₂₂ v₁₀ vs₄) (hO₂₂.allLen 13 rfl : (vs₄).length = (x4.Horz).length) (fun j hj => hO₂₂.inn 13 rfl hj) hx₆
                refine WD_c (id := 124) (caps := []) rfl (mp_cons (v := .ag [v₇, v₈, v₉, v₁₀]) rfl (mp_cons (v := .b (gi [true, false] (x7 : Int).toNat)) rfl (mp_cons (v := .i .i64 ((gi [(⟨i, k_⟩ : A2 Int), (⟨(max 0 i).tmod 7, (max 0 k_).tmod 7⟩ : A2 Int)] (x9 : Int).toNat).get 0)) rfl (mp_cons (v := .b (gi [true, false] (x8 : Int).toNat)) rfl (mp_cons (v := .i .i64 ((gi [(⟨i, k_⟩ : A2 Int), (⟨(max 0 i).tmod 7, (max 0 k_).tmod 7⟩ : A2 Int)] (x9 : Int).toNat).get 1)) rfl mp_nil))))) ca₆ ?_
                have fr₃ := fr₂.call hW₆
                have hO₂₃ : Own B h k₂₃ [eBox r₂ [v₃, v₄, v₅, v₆], eSl eInt v₃ x2.X, eSl eInt v₄ x2.Y, eSl eV v₅ vs₁, eAll eInt vs₁ x2.Vert, eSl eV v₆ vs₂, eAll eInt vs₂ x2.Horz, eBox r₃ [v₇, v₈, v₉, v₁₀], eSl eInt v₇ x4.X, eSl eInt v₈ x4.Y, eSl eV v₉ vs₃, eAll eInt vs₃ x4.Vert, eSl eV v₁₀ vs₄, eAll eInt vs₄ x4.Horz, eSl e_bool v₁₁ [true, false], eSl e_bool v₁₂ [true, false], eSl e_A2_i64 v₁₃ [(⟨i, k_⟩ : A2 Int), (⟨(max 0 i).tmod 7, (max 0 k_).tmod 7⟩ : A2 Int)], eBox r₇ (e_A2_i64.c (gi [(⟨i, k_⟩ : A2 Int), (⟨(max 0 i).tmod 7, (max 0 k_).tmod 7⟩ : A2 Int)] (x9 : Int).toNat))] := hO₂₂.call hW₆ rfl
                refine WD_v (a_neB (a := x10) (b := x11) rfl rfl) ?_
                refine WD_end ?_
                refine And.intro ?_ ?_
                · intro q hq
                  simp only [List.mem_cons, List.not_mem_nil, or_false] at hq
                  rcases hq with rfl | rfl | rfl | rfl | rfl | rfl | rfl | rfl | rfl | rfl | rfl | rfl | rfl | rfl | rfl | rfl | rfl | rfl
                  · refine ap_ll ?_ ?_
                    · exact (fun h => nomatch h)
                    · exact (fun h => nomatch h)
                  · refine ap_ll ?_ ?_
                    · exact (fun h => nomatch h)
                    · exact (fun h => nomatch h)
                  · refine ap_ll ?_ ?_
                    · exact (fun h => nomatch h)
                    · exact (fun h => nomatch h)
                  · refine ap_ll ?_ ?_
                    · exact (fun h => nomatch h)
                    · exact (fun h => nomatch h)
                  · refine ap_ll ?_ ?_
                    · exact (fun h => nomatch h)
                    · exact (fun h => nomatch h)
                  · refine ap_ll ?_ ?_
                    · exact (fun h => nomatch h)
                    · exact (fun h => nomatch h)
                  · refine ap_cl rfl ?_
                    · exact (fun r hm hc => hc (hW₅.base r (Nat.lt_of_lt_of_le (hO₂₀.ltAt 7 rfl _ (tch (v := V.p r₃ 0) (ld_el hm) q₆_11)) (Nat.le_trans (Nat.le_add_right _ _) fr₁.n))))
                  · refine ap_ll ?_ ?_
                    · exact (fun h => nomatch h)
                    · exact (fun h => nomatch h)
                  · refine ap_ll ?_ ?_
                    · exact (fun h => nomatch h)
                    · exact (fun h => nomatch h)
                  · refine ap_ll ?_ ?_
                    · exact (fun h => nomatch h)
                    · exact (fun h => nomatch h)
                  · refine ap_cl rfl ?_
                    · exact (fun r hm hc => hc (hW₅.base r (Nat.lt_of_lt_of_le (hO₂₀.ltAt 17 rfl _ (tch (v := V.p r₇ 0) (ld_el hm) rfl)) (Nat.le_trans (Nat.le_add_right _ _) fr₁.n))))
                  · refine ap_ll ?_ ?_
                    · exact (fun h => nomatch h)
                    · exact (fun h => nomatch h)
                  · refine ap_ll ?_ ?_
                    · exact (fun h => nomatch h)
                    · exact (fun h => nomatch h)
                  · refine ap_ll ?_ ?_
                    · exact (fun h => nomatch h)
                    · exact (fun h => nomatch h)
                  · refine ap_ll ?_ ?_
                    · exact (fun h => nomatch h)
                    · exact (fun h => nomatch h)
                  · refine ap_cl rfl ?_
                    · exact (fun r hm hc => hc (hW₅.base r (Nat.lt_of_lt_of_le (hO₂₀.ltAt 17 rfl _ (tch (v := V.p r₇ 1) (ld_el hm) rfl)) (Nat.le_trans (Nat.le_add_right _ _) fr₁.n))))
                  · refine ap_ll ?_ ?_
                    · exact (fun h => nomatch h)
                    · exact (fun h => nomatch h)
                  · refine ap_ll ?_ ?_
                    · exact (fun h => nomatch h)
                    · exact (fun h => nomatch h)
                refine then_n ?_
                rcases if_some hp with ⟨b₆, hp⟩ | ⟨b₆, hp⟩
                · refine W_cT (t := (!(decide (x10 = x11)))) rfl b₆ ?_
                  refine W_sq ?_
                  refine W_rg ?_
                  refine WO_v (a_mv (v := .b false) rfl) ?_
                  refine WO_end ?_
                  refine then_n ?_
                  refine W_rt ?_
                  refine blk_r ?_
                  refine then_r ?_
                  have hp := Option.some.inj hp; subst hp
                  refine (Or.inr (Exists.intro (.inr ()) (And.intro rfl (And.intro (fun h => nomatch h) (fun he => ?_)))))
                  subst he; exact (And.intro rfl (And.intro (rfl) (hO₂₃.pick [] rfl (by decide))))
                · refine W_cF (t := (!(decide (x10 = x11)))) rfl b₆ ?_
                  refine W_sk ?_
                  refine blk_n ?_
                  refine then_n ?_
                  refine W_rg ?_
                  obtain ⟨c₄, hp⟩ := ck_some hp
                  refine WO_v (a_add (a := x9) (b := 1) q₆_64 rfl c₄) ?_
                  refine WO_v (a_mv (v := .i .i64 (x9 + 1)) rfl) ?_
                  refine WO_end ?_
                  have hp := Option.some.inj hp; subst hp
                  exact (Or.inl (Exists.intro (x9 + 1) (And.intro rfl (And.intro rfl (And.intro (q₆_1) (And.intro (q₆_2) (And.intro (q₆_9) (And.intro (q₆_11) (And.intro (q₆_14) (And.intro (q₆_16) (And.intro (q₆_40) (And.intro (q₆_41) (And.intro (q₆_42) (And.intro (q₆_46) (And.intro (q₆_47) (And.intro (q₆_48) (And.intro (q₆_62) (And.intro (q₆_63) (And.intro (rfl) (hO₂₃.pick [0, 1, 2, 3, 4, 5, 6, 7, 8, 9, 10, 11, 12, 13, 14, 15, 16] rfl (by decide)))))))))))))))))))))
              · refine W_cF (t := (decide (x9 < ([(⟨i, k_⟩ : A2 Int), (⟨(max 0 i).tmod 7, (max 0 k_).tmod 7⟩ : A2 Int)].length : Int)))) rfl b₅ ?_
                refine W_ex ?_
                refine then_e ?_
                have hp := Option.some.inj hp; subst hp
                refine (Or.inr (Exists.intro (.inl ()) (And.intro rfl (And.intro (fun h => nomatch h) (fun he => ?_)))))
                subst he; exact (And.intro rfl (And.intro (q₆_1) (And.intro (q₆_2) (And.intro (q₆_9) (And.intro (q₆_11) (And.intro (q₆_14) (And.intro (q₆_40) (And.intro (q₆_41) (And.intro (q₆_42) (And.intro (q₆_46) (And.intro (q₆_47) (And.intro (q₆_48) (hO₁₈.pick [0, 1, 2, 3, 4, 5, 6, 7, 8, 9, 10, 11, 12, 13, 14, 15] rfl (by decide))))))))))))))
            intro e₃ q₅ k₁₇ hJ₃
            rcases o₅ with _ | _
            · obtain ⟨rfl, q₅_1, q₅_2, q₅_9, q₅_11, q₅_14, q₅_40, q₅_41, q₅_42, q₅_46, q₅_47, q₅_48, hO₁₇⟩ := hJ₃
              refine blk_i ?_
              refine blk_n ?_
              refine then_n ?_
              refine W_rg ?_
              obtain ⟨c₅, hp⟩ := ck_some hp
              refine WO_v (a_add (a := x8) (b := 1) q₅_48 rfl c₅) ?_
              refine WO_v (a_mv (v := .i .i64 (x8 + 1)) rfl) ?_
              refine WO_end ?_
              have hp := Option.some.inj hp; subst hp
              exact (Or.inl (Exists.intro (x8 + 1) (And.intro rfl (And.intro rfl (And.intro (q₅_1) (And.intro (q₅_2) (And.intro (q₅_9) (And.intro (q₅_11) (And.intro (q₅_14) (And.intro (q₅_40) (And.intro (q₅_41) (And.intro (q₅_42) (And.intro (q₅_46) (And.intro (q₅_47) (And.intro (rfl) (hO₁₇.pick [0, 1, 2, 3, 4, 5, 6, 7, 8, 9, 10, 11, 12, 13, 14, 15] rfl (by decide)))))))))))))))))
            · obtain ⟨rfl, q₅_6, hO₁₇⟩ := hJ₃
              refine blk_r ?_
              refine blk_r ?_
              refine then_r ?_
              have hp := Option.some.inj hp; subst hp
              refine (Or.inr (Exists.intro (.inr ()) (And.intro rfl (And.intro (fun h => nomatch h) (fun he => ?_)))))
              subst he; exact (And.intro rfl (And.intro (q₅_6) (hO₁₇.pick [] rfl (by decide))))
          · refine W_cF (t := (decide (x8 < ([true, false].length : Int)))) rfl b₄ ?_
            refine W_ex ?_
            refine then_e ?_
            have hp := Option.some.inj hp; subst hp
            refine (Or.inr (Exists.intro (.inl ()) (And.intro rfl (And.intro (fun h => nomatch h) (fun he => ?_)))))
            subst he; exact (And.intro rfl (And.intro (q₄_1) (And.intro (q₄_2) (And.intro (q₄_9) (And.intro (q₄_11) (And.intro (q₄_40) (And.intro (q₄_41) (And.intro (q₄_42) (hO₁₅.pick [0, 1, 2, 3, 4, 5, 6, 7, 8, 9, 10, 11, 12, 13, 14] rfl (by decide))))))))))
        intro e₂ q₃ k₁₄ hJ₂
        rcases o₃ with _ | _
        · obtain ⟨rfl, q₃_1, q₃_2, q₃_9, q₃_11, q₃_40, q₃_41, q₃_42, hO₁₄⟩ := hJ₂
          refine blk_i ?_
          refine blk_n ?_
          refine then_n ?_
          refine W_rg ?_
          obtain ⟨c₆, hp⟩ := ck_some hp
          refine WO_v (a_add (a := x7) (b := 1) q₃_42 rfl c₆) ?_
          refine WO_v (a_mv (v := .i .i64 (x7 + 1)) rfl) ?_
          refine WO_end ?_
          have hp := Option.some.inj hp; subst hp
          exact (Or.inl (Exists.intro (x7 + 1) (And.intro rfl (And.intro rfl (And.intro (q₃_1) (And.intro (q₃_2) (And.intro (q₃_9) (And.intro (q₃_11) (And.intro (q₃_40) (And.intro (q₃_41) (And.intro (rfl) (hO₁₄.pick [0, 1, 2, 3, 4, 5, 6, 7, 8, 9, 10, 11, 12, 13, 14] rfl (by decide)))))))))))))
        · obtain ⟨rfl, q₃_6, hO₁₄⟩ := hJ₂
          refine blk_r ?_
          refine blk_r ?_
          refine then_r ?_
          have hp := Option.some.inj hp; subst hp
          refine (Or.inr (Exists.intro (.inr ()) (And.intro rfl (And.intro (fun h => nomatch h) (fun he => ?_)))))
          subst he; exact (And.intro rfl (And.intro (q₃_6) (hO₁₄.pick [] rfl (by decide))))
      · refine W_cF (t := (decide (x7 < ([true, false].length : Int)))) rfl b₃ ?_
        refine W_ex ?_
        refine then_e ?_
        have hp := Option.some.inj hp; subst hp
        refine (Or.inr (Exists.intro (.inl ()) (And.intro rfl (And.intro (fun h => nomatch h) (fun he => ?_)))))
        subst he; exact (And.intro rfl (hO₁₂.pick [] rfl (by decide)))
    intro e₁ q₁ k₁₁ hJ₁
    rcases o₁ with _ | _
    · obtain ⟨rfl, hO₁₁⟩ := hJ₁
      refine blk_i ?_
      refine then_n ?_
      refine W_sq ?_
      refine W_rg ?_
      refine WO_v (a_mv (v := .b true) rfl) ?_
      refine WO_end ?_
      refine then_n ?_
      refine W_rt ?_
      refine Ret_r (rs_t (n := 6) (v := .b true) rfl rs_nil) ?_
      have hp := Option.some.inj hp; subst hp
      exact (And.intro rfl (hO₁₁.pick [] rfl (by decide)))
    · obtain ⟨rfl, q₁_6, hO₁₁⟩ := hJ₁
      refine blk_r ?_
      refine then_r ?_
      refine Ret_r (rs_t (n := 6) (v := .b false) q₁_6 rs_nil) ?_
      have hp := Option.some.inj hp; subst hp
      exact (And.intro rfl (hO₁₁.pick [] rfl (by decide)))

end Mu
