/- The code comes to what was worked out. -/
import Derived.Test.YtofdeafffbkgbaaMuDf
import Derived.Test.YtofdeafffbkgbaaMuPa
import Derived.Test.YtofdeafffbkgbaaMuC1
set_option linter.unusedVariables false
set_option linter.unnecessarySimpa false
set_option linter.unusedSimpArgs false
set_option maxHeartbeats 2000000
set_option maxRecDepth 10000
namespace Mu
open Go (IntKind BinOp UnOp)
theorem p_muntinlaw16_SegOnce.ok {h : Hp} {z : T_muntinref10_Places} {v_z_At : V} {v_z_Bits : V} {v_z_Own : V} (s_z_At : Sl e_u8 h v_z_At z.At) (s_z_Bits : Sl e_u8 h v_z_Bits z.Bits) (s_z_Own : Sl e_i8 h v_z_Own z.Own) {r : Bool} (hp : p_muntinlaw16_SegOnce z = some r) :
    ∃ u k', Is G 108 [.ag [v_z_At, v_z_Bits, v_z_Own]] h u k' ∧ V.b r = u ∧ Own (fun r => r < h.n) h k' [] := by
  refine WC.is (WC_of G_F_muntinlaw16_SegOnce ?_)
  unfold p_muntinlaw16_SegOnce at hp
  let B : Nat → Prop := (fun r => r < h.n)
  have hO : Own B h h [] := Own.start0 h
  refine W_sq ?_
  refine W_rg ?_
  refine WO_x (hO.boxd (v := .ag [v_z_At, v_z_Bits, v_z_Own]) (cs := [v_z_At, v_z_Bits, v_z_Own]) hO.fr rfl rfl) ?_
  rintro _ k₁ ⟨r₁, rfl, n₁, f₁, hW⟩
  have hO₁ : Own B h k₁ [eBox r₁ [v_z_At, v_z_Bits, v_z_Own]] := hW
  refine WO_v (a_mv (v := .b false) rfl) ?_
  refine WO_end ?_
  refine then_n ?_
  refine W_sq ?_
  refine W_rg ?_
  refine WO_v (a_ldbA (cs := [v_z_At, v_z_Bits, v_z_Own]) (ws := [v_z_At, v_z_Bits, v_z_Own]) (hO₁.box 0 rfl) rfl rfl) ?_
  obtain ⟨⟨x, x1⟩, hx₁, hp⟩ := bd_some hp
  obtain ⟨u₁, k₂, ca₁, v₁, v₂, rfl, hW₁⟩ := p_muntinref10_Make.ok (h := k₁)  (hO₁.rd0 s_z_At.rd : Sl e_u8 k₁ v_z_At z.At) (hO₁.rd0 s_z_Bits.rd : Sl e_u8 k₁ v_z_Bits z.Bits) (hO₁.rd0 s_z_Own.rd : Sl e_i8 k₁ v_z_Own z.Own) hx₁
  refine WO_c (id := 28) (caps := []) rfl (mp_cons (v := .ag [v_z_At, v_z_Bits, v_z_Own]) rfl (mp_cons (v := .i .i64 24) rfl mp_nil)) ca₁ ?_
  have hO₂ : Own B h k₂ [eBox r₁ [v_z_At, v_z_Bits, v_z_Own], eSl e_T_api_Cell v₁ x, eSl e_T_api_Point v₂ x1] := hO₁.call hW₁ rfl
  refine WO_v (a_mv (v := .tu [v₁, v₂]) rfl) ?_
  refine WO_v (a_ext (vs := [v₁, v₂]) (v := v₁) rfl rfl) ?_
  refine WO_v (a_ext (vs := [v₁, v₂]) (v := v₂) rfl rfl) ?_
  refine WO_v (a_mv (v := v₁) rfl) ?_
  refine WO_v (a_mv (v := v₂) rfl) ?_
  refine WO_end ?_
  refine then_n ?_
  refine W_sq ?_
  refine W_rg ?_
  refine WO_v (a_mv (v := v₁) rfl) ?_
  obtain ⟨⟨x2, x3⟩, hx₂, hp⟩ := bd_some hp
  obtain ⟨u₂, k₃, ca₂, v₃, v₄, v₅, vs₁, v₆, vs₂, rfl, hW₂⟩ := p_seg_Of.ok (h := k₂)  (hO₂.sl 1 rfl : Sl e_T_api_Cell k₂ v₁ x) hx₂
  refine WO_c (id := 120) (caps := []) rfl (mp_cons (v := v₁) rfl mp_nil) ca₂ ?_
  have hO₃ : Own B h k₃ [eBox r₁ [v_z_At, v_z_Bits, v_z_Own], eSl e_T_api_Cell v₁ x, eSl e_T_api_Point v₂ x1, eSl eInt v₃ x2.X, eSl eInt v₄ x2.Y, eSl eV v₅ vs₁, eAll eInt vs₁ x2.Vert, eSl eV v₆ vs₂, eAll eInt vs₂ x2.Horz] := hO₂.call hW₂ rfl
  refine WO_v (a_mv (v := .tu [.ag [v₃, v₄, v₅, v₆], .i .i64 x3]) rfl) ?_
  refine WO_v (a_ext (vs := [.ag [v₃, v₄, v₅, v₆], .i .i64 x3]) (v := .ag [v₃, v₄, v₅, v₆]) rfl rfl) ?_
  refine WO_v (a_ext (vs := [.ag [v₃, v₄, v₅, v₆], .i .i64 x3]) (v := .i .i64 x3) rfl rfl) ?_
  refine WO_x (hO₃.alloc (cs := [.sn, .sn, .sn, .sn]) hO₃.fr) ?_
  rintro _ k₄ ⟨r₂, rfl, n₂, f₂, hW⟩
  have hO₄ : Own B h k₄ [eBox r₁ [v_z_At, v_z_Bits, v_z_Own], eSl e_T_api_Cell v₁ x, eSl e_T_api_Point v₂ x1, eSl eInt v₃ x2.X, eSl eInt v₄ x2.Y, eSl eV v₅ vs₁, eAll eInt vs₁ x2.Vert, eSl eV v₆ vs₂, eAll eInt vs₂ x2.Horz, eBox r₂ [.sn, .sn, .sn, .sn]] := hW
  refine WO_x (hO₄.stb (ws := [v₃, v₄, v₅, v₆]) (cs' := [v₃, v₄, v₅, v₆]) (v := .ag [v₃, v₄, v₅, v₆]) 9 rfl rfl rfl rfl ⟨rfl, Nat.le_of_ble_eq_true rfl, (all_cons (hO₄.sl 3 rfl : Sl eInt k₄ v₃ x2.X).oneV (all_cons (hO₄.sl 4 rfl : Sl eInt k₄ v₄ x2.Y).oneV (all_cons (hO₄.sl 5 rfl : Sl eV k₄ v₅ vs₁).oneV (all_cons (hO₄.sl 7 rfl : Sl eV k₄ v₆ vs₂).oneV all_nil))))⟩ rfl) ?_
  rintro _ k₅ ⟨rfl, f₃, m₁, hW⟩
  have hO₅ : Own B h k₅ [eBox r₁ [v_z_At, v_z_Bits, v_z_Own], eSl e_T_api_Cell v₁ x, eSl e_T_api_Point v₂ x1, eSl eInt v₃ x2.X, eSl eInt v₄ x2.Y, eSl eV v₅ vs₁, eAll eInt vs₁ x2.Vert, eSl eV v₆ vs₂, eAll eInt vs₂ x2.Horz, eBox r₂ [v₃, v₄, v₅, v₆]] := hW
  refine WO_v (a_mv (v := .i .i64 x3) rfl) ?_
  refine WO_end ?_
  refine then_n ?_
  refine W_sq ?_
  refine W_sq ?_
  refine W_rg ?_
  obtain ⟨x4, hx₃, hp⟩ := bd_some hp
  obtain ⟨u₃, k₆, ca₃, rfl, hW₃⟩ := p_muntinlaw16_wakes.ok (h := k₅)   hx₃
  refine WO_c (id := 122) (caps := []) rfl mp_nil ca₃ ?_
  have hO₆ : Own B h k₆ [eBox r₁ [v_z_At, v_z_Bits, v_z_Own], eSl e_T_api_Cell v₁ x, eSl e_T_api_Point v₂ x1, eSl eInt v₃ x2.X, eSl eInt v₄ x2.Y, eSl eV v₅ vs₁, eAll eInt vs₁ x2.Vert, eSl eV v₆ vs₂, eAll eInt vs₂ x2.Horz, eBox r₂ [v₃, v₄, v₅, v₆]] := hO₅.call hW₃ rfl
  refine WO_v (a_not (t := x4) rfl) ?_
  refine WO_v (a_mv (v := .b (!x4)) rfl) ?_
  refine WO_cut 3 (fun fr' k' => k₆ = k' ∧ fr' 34 = .b ((!x4) || (!(decide (x3 = 0)))) ∧ fr' 3 = v₁ ∧ fr' 4 = v₂ ∧ fr' 5 = .p r₂ 0) ?_ ?_
  · rcases bc (!x4) with b₁ | b₁
    · skip
      refine WO_off rfl b₁ ?_
      refine WO_off rfl b₁ ?_
      refine WO_v (a_pickT (t := (!x4)) (v := .b ((!x4) || (!(decide (x3 = 0))))) rfl b₁ (Eq.trans (b := V.b true) rfl (or_off b₁))) ?_
      refine WO_end ?_
      exact ⟨rfl, rfl, rfl, rfl, rfl⟩
    · skip
      refine WO_on rfl b₁ ?_
      refine WO_v (a_mv (v := .i .i64 x3) rfl) ?_
      refine WO_on rfl b₁ ?_
      refine WO_v (a_neI (a := x3) (b := 0) rfl rfl) ?_
      refine WO_v (a_pickF (t := (!x4)) (v := .b ((!x4) || (!(decide (x3 = 0))))) rfl b₁ (Eq.trans (b := V.b (!(decide (x3 = 0)))) rfl (or_on b₁))) ?_
      refine WO_end ?_
      exact ⟨rfl, rfl, rfl, rfl, rfl⟩
  rintro frg₁ _ ⟨rfl, g₁_34, g₁_3, g₁_4, g₁_5⟩
  refine WO_v (a_mv (v := .b ((!x4) || (!(decide (x3 = 0))))) g₁_34) ?_
  refine WO_cut 7 (fun fr' k' => k₆ = k' ∧ fr' 42 = .b (((!x4) || (!(decide (x3 = 0)))) || (!(decide ((x2.X.length : Int) = (x.length : Int))))) ∧ fr' 3 = v₁ ∧ fr' 4 = v₂ ∧ fr' 5 = .p r₂ 0) ?_ ?_
  · rcases bc ((!x4) || (!(decide (x3 = 0)))) with b₂ | b₂
    · skip
      refine WO_off rfl b₂ ?_
      refine WO_off rfl b₂ ?_
      refine WO_off rfl b₂ ?_
      refine WO_off rfl b₂ ?_
      refine WO_off rfl b₂ ?_
      refine WO_off rfl b₂ ?_
      refine WO_v (a_pickT (t := ((!x4) || (!(decide (x3 = 0))))) (v := .b (((!x4) || (!(decide (x3 = 0)))) || (!(decide ((x2.X.length : Int) = (x.length : Int)))))) rfl b₂ (Eq.trans (b := V.b true) rfl (or_off b₂))) ?_
      refine WO_end ?_
      exact ⟨rfl, rfl, g₁_3, g₁_4, g₁_5⟩
    · skip
      refine WO_on rfl b₂ ?_
      refine WO_v (a_fa (r := r₂) (o := 0) (o' := 0) g₁_5 rfl) ?_
      refine WO_on rfl b₂ ?_
      refine WO_v (a_ldb (cs := [v₃, v₄, v₅, v₆]) (v := v₃) (hO₆.box 9 rfl) rfl rfl) ?_
      refine WO_on rfl b₂ ?_
      refine WO_v (a_len (hO₆.sl 3 rfl : Sl eInt k₆ v₃ x2.X) rfl) ?_
      refine WO_on rfl b₂ ?_
      refine WO_v (a_mv (v := v₁) g₁_3) ?_
      refine WO_on rfl b₂ ?_
      refine WO_v (a_len (hO₆.sl 1 rfl : Sl e_T_api_Cell k₆ v₁ x) rfl) ?_
      refine WO_on rfl b₂ ?_
      refine WO_v (a_neI (a := (x2.X.length : Int)) (b := (x.length : Int)) rfl rfl) ?_
      refine WO_v (a_pickF (t := ((!x4) || (!(decide (x3 = 0))))) (v := .b (((!x4) || (!(decide (x3 = 0)))) || (!(decide ((x2.X.length : Int) = (x.length : Int)))))) rfl b₂ (Eq.trans (b := V.b (!(decide ((x2.X.length : Int) = (x.length : Int))))) rfl (or_on b₂))) ?_
      refine WO_end ?_
      exact ⟨rfl, rfl, g₁_3, g₁_4, g₁_5⟩
  rintro frg₂ _ ⟨rfl, g₂_42, g₂_3, g₂_4, g₂_5⟩
  refine WO_v (a_mv (v := .b (((!x4) || (!(decide (x3 = 0)))) || (!(decide ((x2.X.length : Int) = (x.length : Int)))))) g₂_42) ?_
  refine WO_cut 7 (fun fr' k' => k₆ = k' ∧ fr' 50 = .b ((((!x4) || (!(decide (x3 = 0)))) || (!(decide ((x2.X.length : Int) = (x.length : Int))))) || (!(decide ((x2.Y.length : Int) = (x.length : Int))))) ∧ fr' 3 = v₁ ∧ fr' 4 = v₂ ∧ fr' 5 = .p r₂ 0) ?_ ?_
  · rcases bc (((!x4) || (!(decide (x3 = 0)))) || (!(decide ((x2.X.length : Int) = (x.length : Int))))) with b₃ | b₃
    · skip
      refine WO_off rfl b₃ ?_
      refine WO_off rfl b₃ ?_
      refine WO_off rfl b₃ ?_
      refine WO_off rfl b₃ ?_
      refine WO_off rfl b₃ ?_
      refine WO_off rfl b₃ ?_
      refine WO_v (a_pickT (t := (((!x4) || (!(decide (x3 = 0)))) || (!(decide ((x2.X.length : Int) = (x.length : Int)))))) (v := .b ((((!x4) || (!(decide (x3 = 0)))) || (!(decide ((x2.X.length : Int) = (x.length : Int))))) || (!(decide ((x2.Y.length : Int) = (x.length : Int)))))) rfl b₃ (Eq.trans (b := V.b true) rfl (or_off b₃))) ?_
      refine WO_end ?_
      exact ⟨rfl, rfl, g₂_3, g₂_4, g₂_5⟩
    · skip
      refine WO_on rfl b₃ ?_
      refine WO_v (a_fa (r := r₂) (o := 0) (o' := 1) g₂_5 rfl) ?_
      refine WO_on rfl b₃ ?_
      refine WO_v (a_ldb (cs := [v₃, v₄, v₅, v₆]) (v := v₄) (hO₆.box 9 rfl) rfl rfl) ?_
      refine WO_on rfl b₃ ?_
      refine WO_v (a_len (hO₆.sl 4 rfl : Sl eInt k₆ v₄ x2.Y) rfl) ?_
      refine WO_on rfl b₃ ?_
      refine WO_v (a_mv (v := v₁) g₂_3) ?_
      refine WO_on rfl b₃ ?_
      refine WO_v (a_len (hO₆.sl 1 rfl : Sl e_T_api_Cell k₆ v₁ x) rfl) ?_
      refine WO_on rfl b₃ ?_
      refine WO_v (a_neI (a := (x2.Y.length : Int)) (b := (x.length : Int)) rfl rfl) ?_
      refine WO_v (a_pickF (t := (((!x4) || (!(decide (x3 = 0)))) || (!(decide ((x2.X.length : Int) = (x.length : Int)))))) (v := .b ((((!x4) || (!(decide (x3 = 0)))) || (!(decide ((x2.X.length : Int) = (x.length : Int))))) || (!(decide ((x2.Y.length : Int) = (x.length : Int)))))) rfl b₃ (Eq.trans (b := V.b (!(decide ((x2.Y.length : Int) = (x.length : Int))))) rfl (or_on b₃))) ?_
      refine WO_end ?_
      exact ⟨rfl, rfl, g₂_3, g₂_4, g₂_5⟩
  rintro frg₃ _ ⟨rfl, g₃_50, g₃_3, g₃_4, g₃_5⟩
  refine WO_end ?_
  refine then_n ?_
  rcases if_some hp with ⟨b₄, hp⟩ | ⟨b₄, hp⟩
  · refine W_cT (t := ((((!x4) || (!(decide (x3 = 0)))) || (!(decide ((x2.X.length : Int) = (x.length : Int))))) || (!(decide ((x2.Y.length : Int) = (x.length : Int)))))) g₃_50 b₄ ?_
    refine W_sq ?_
    refine W_rg ?_
    refine WO_v (a_mv (v := .b false) rfl) ?_
    refine WO_end ?_
    refine then_n ?_
    refine W_rt ?_
    refine then_r ?_
    refine Ret_r (rs_t (n := 2) (v := .b false) rfl rs_nil) ?_
    have hp := Option.some.inj hp; subst hp
    exact (And.intro rfl (hO₆.pick [] rfl (by decide)))
  · refine W_cF (t := ((((!x4) || (!(decide (x3 = 0)))) || (!(decide ((x2.X.length : Int) = (x.length : Int))))) || (!(decide ((x2.Y.length : Int) = (x.length : Int)))))) g₃_50 b₄ ?_
    refine W_sk ?_
    refine then_n ?_
    refine W_sq ?_
    refine W_rg ?_
    refine WO_v (a_mv (v := .i .i64 0) rfl) ?_
    refine WO_v (a_mv (v := .i .i64 0) rfl) ?_
    refine WO_end ?_
    refine then_n ?_
    refine W_sq ?_
    refine W_sq ?_
    refine W_rg ?_
    refine WO_v (a_fa (r := r₂) (o := 0) (o' := 2) g₃_5 rfl) ?_
    refine WO_v (a_ldb (cs := [v₃, v₄, v₅, v₆]) (v := v₅) (hO₆.box 9 rfl) rfl rfl) ?_
    refine WO_v (a_lenN (n := (x2.Vert).length) (hO₆.sl 5 rfl : Sl eV k₆ v₅ vs₁) (hO₆.allLen 6 rfl : (vs₁).length = (x2.Vert).length) rfl) ?_
    refine WO_v (a_mv (v := .i .i64 0) rfl) ?_
    refine WO_end ?_
    refine then_n ?_
    refine W_bl ?_
    obtain ⟨o₁, ho₁, hp⟩ := bd_some hp
    refine W.mono (Q := fun e fr k => match (generalizing := false) o₁ with
        | .inl n1 => e = (.exit 0) ∧ fr 3 = v₁ ∧ fr 4 = v₂ ∧ fr 5 = .p r₂ 0 ∧ fr 7 = .i .i64 n1 ∧ fr 8 = .i .i64 0 ∧ Own B h k [eSl e_T_api_Cell v₁ x, eSl e_T_api_Point v₂ x1, eBox r₂ [v₃, v₄, v₅, v₆], eSl eInt v₃ x2.X, eSl eInt v₄ x2.Y, eSl eV v₅ vs₁, eAll eInt vs₁ x2.Vert, eSl eV v₆ vs₂, eAll eInt vs₂ x2.Horz]
        | .inr _ => e = .ret ∧ fr 2 = .b false ∧ Own B h k []) ?_ ?_
    · clear hp
      refine W_loopF (fun st fr k => match st with | (n, x5) => fr 3 = v₁ ∧ fr 4 = v₂ ∧ fr 5 = .p r₂ 0 ∧ fr 7 = .i .i64 n ∧ fr 8 = .i .i64 0 ∧ fr 52 = v₅ ∧ fr 53 = .i .i64 (x2.Vert.length : Int) ∧ fr 54 = .i .i64 x5 ∧ Own B h k [eSl e_T_api_Cell v₁ x, eSl e_T_api_Point v₂ x1, eBox r₂ [v₃, v₄, v₅, v₆], eSl eInt v₃ x2.X, eSl eInt v₄ x2.Y, eSl eV v₅ vs₁, eAll eInt vs₁ x2.Vert, eSl eV v₆ vs₂, eAll eInt vs₂ x2.Horz]) ho₁ (s := (0, 0)) (And.intro (g₃_3) (And.intro (g₃_4) (And.intro (g₃_5) (And.intro (rfl) (And.intro (rfl) (And.intro (rfl) (And.intro (rfl) (And.intro (rfl) (hO₆.pick [1, 2, 9, 3, 4, 5, 6, 7, 8] rfl (by decide)))))))))) ?_
      rintro ⟨n, x5⟩ q₂ k₈ ⟨q₂_3, q₂_4, q₂_5, q₂_7, q₂_8, q₂_52, q₂_53, q₂_54, hO₈⟩ o₂ hp
      dsimp only [p_muntinlaw16_SegOnce.s0] at hp
      refine W_sq ?_
      refine W_rg ?_
      refine WO_v (a_lss (a := x5) (b := (x2.Vert.length : Int)) q₂_54 q₂_53) ?_
      refine WO_end ?_
      refine then_n ?_
      refine W_sq ?_
      rcases if_some hp with ⟨b₅, hp⟩ | ⟨b₅, hp⟩
      · refine W_cT (t := (decide (x5 < (x2.Vert.length : Int)))) rfl b₅ ?_
        refine W_sk ?_
        refine then_n ?_
        refine W_sq ?_
        refine W_bl ?_
        refine W_sq ?_
        refine W_rg ?_
        refine WO_v (a_mv (v := .i .i64 x5) q₂_54) ?_
        obtain ⟨c₁, hp⟩ := ck_some hp
        refine WO_v (a_ixa (E := eV) (z := x5) (hO₈.sl 5 rfl : Sl eV k₈ v₅ vs₁) q₂_52 q₂_54 (by rw [(hO₈.allLen 6 rfl : (vs₁).length = (x2.Vert).length)]; exact c₁)) ?_
        refine WO_v (a_ldE (w := (gi vs₁ (x5 : Int).toNat)) (hO₈.sl 5 rfl : Sl eV k₈ v₅ vs₁) rfl (by rw [(hO₈.allLen 6 rfl : (vs₁).length = (x2.Vert).length)]; exact toNat_lt c₁) rfl) ?_
        refine WO_v (a_mv (v := .i .i64 x5) rfl) ?_
        refine WO_v (a_mv (v := (gi vs₁ (x5 : Int).toNat)) rfl) ?_
        refine WO_end ?_
        refine then_n ?_
        refine W_sq ?_
        refine W_rg ?_
        refine WO_v (a_mv (v := .i .i64 n) q₂_7) ?_
        refine WO_v (a_mv (v := (gi vs₁ (x5 : Int).toNat)) rfl) ?_
        refine WO_v (a_len (hO₈.inn 6 rfl (toNat_lt c₁) : Sl eInt k₈ (gi vs₁ (x5 : Int).toNat) (gi x2.Vert (x5 : Int).toNat)) rfl) ?_
        obtain ⟨c₂, hp⟩ := ck_some hp
        refine WO_v (a_add (a := n) (b := ((gi x2.Vert (x5 : Int).toNat).length : Int)) rfl rfl c₂) ?_
        refine WO_v (a_mv (v := .i .i64 (n + ((gi x2.Vert (x5 : Int).toNat).length : Int))) rfl) ?_
        refine WO_end ?_
        refine then_n ?_
        refine W_sq ?_
        refine W_rg ?_
        refine WO_v (a_mv (v := (gi vs₁ (x5 : Int).toNat)) rfl) ?_
        refine WO_v (a_len (hO₈.inn 6 rfl (toNat_lt c₁) : Sl eInt k₈ (gi vs₁ (x5 : Int).toNat) (gi x2.Vert (x5 : Int).toNat)) rfl) ?_
        refine WO_v (a_mv (v := .i .i64 0) rfl) ?_
        refine WO_end ?_
        refine then_n ?_
        refine W_bl ?_
        obtain ⟨o₃, ho₂, hp⟩ := bd_some hp
        refine W.mono (Q := fun e fr k => match (generalizing := false) o₃ with
            | .inl _ => e = (.exit 2) ∧ fr 3 = v₁ ∧ fr 4 = v₂ ∧ fr 5 = .p r₂ 0 ∧ fr 7 = .i .i64 (n + ((gi x2.Vert (x5 : Int).toNat).length : Int)) ∧ fr 8 = .i .i64 0 ∧ fr 52 = v₅ ∧ fr 53 = .i .i64 (x2.Vert.length : Int) ∧ fr 54 = .i .i64 x5 ∧ Own B h k [eSl e_T_api_Cell v₁ x, eSl e_T_api_Point v₂ x1, eBox r₂ [v₃, v₄, v₅, v₆], eSl eInt v₃ x2.X, eSl eInt v₄ x2.Y, eSl eV v₅ vs₁, eAll eInt vs₁ x2.Vert, eSl eV v₆ vs₂, eAll eInt vs₂ x2.Horz]
            | .inr _ => e = .ret ∧ fr 2 = .b false ∧ Own B h k []) ?_ ?_
        · clear hp
          refine W_loopF (fun st fr k => match st with | x6 => fr 3 = v₁ ∧ fr 4 = v₂ ∧ fr 5 = .p r₂ 0 ∧ fr 7 = .i .i64 (n + ((gi x2.Vert (x5 : Int).toNat).length : Int)) ∧ fr 8 = .i .i64 0 ∧ fr 9 = .i .i64 x5 ∧ fr 10 = (gi vs₁ (x5 : Int).toNat) ∧ fr 52 = v₅ ∧ fr 53 = .i .i64 (x2.Vert.length : Int) ∧ fr 54 = .i .i64 x5 ∧ fr 63 = (gi vs₁ (x5 : Int).toNat) ∧ fr 64 = .i .i64 ((gi x2.Vert (x5 : Int).toNat).length : Int) ∧ fr 65 = .i .i64 x6 ∧ Own B h k [eSl e_T_api_Cell v₁ x, eSl e_T_api_Point v₂ x1, eBox r₂ [v₃, v₄, v₅, v₆], eSl eInt v₃ x2.X, eSl eInt v₄ x2.Y, eSl eV v₅ vs₁, eAll eInt vs₁ x2.Vert, eSl eV v₆ vs₂, eAll eInt vs₂ x2.Horz]) ho₂ (s := 0) (And.intro (q₂_3) (And.intro (q₂_4) (And.intro (q₂_5) (And.intro (rfl) (And.intro (q₂_8) (And.intro (rfl) (And.intro (rfl) (And.intro (q₂_52) (And.intro (q₂_53) (And.intro (q₂_54) (And.intro (rfl) (And.intro (rfl) (And.intro (rfl) (hO₈.pick [0, 1, 2, 3, 4, 5, 6, 7, 8] rfl (by decide))))))))))))))) ?_
          rintro x6 q₄ k₁₀ ⟨q₄_3, q₄_4, q₄_5, q₄_7, q₄_8, q₄_9, q₄_10, q₄_52, q₄_53, q₄_54, q₄_63, q₄_64, q₄_65, hO₁₀⟩ o₄ hp
          dsimp only [p_muntinlaw16_SegOnce.s1] at hp
          refine W_sq ?_
          refine W_rg ?_
          refine WO_v (a_lss (a := x6) (b := ((gi x2.Vert (x5 : Int).toNat).length : Int)) q₄_65 q₄_64) ?_
          refine WO_end ?_
          refine then_n ?_
          refine W_sq ?_
          rcases if_some hp with ⟨b₆, hp⟩ | ⟨b₆, hp⟩
          · refine W_cT (t := (decide (x6 < ((gi x2.Vert (x5 : Int).toNat).length : Int)))) rfl b₆ ?_
            refine W_sk ?_
            refine then_n ?_
            refine W_sq ?_
            refine W_bl ?_
            refine W_sq ?_
            refine W_rg ?_
            refine WO_v (a_mv (v := .i .i64 x6) q₄_65) ?_
            obtain ⟨c₃, hp⟩ := ck_some hp
            refine WO_v (a_ixa (E := eInt) (z := x6) (hO₁₀.inn 6 rfl (toNat_lt c₁) : Sl eInt k₁₀ (gi vs₁ (x5 : Int).toNat) (gi x2.Vert (x5 : Int).toNat)) q₄_63 q₄_65 c₃) ?_
            refine WO_v (a_ldE (w := .i .i64 (gi (gi x2.Vert (x5 : Int).toNat) (x6 : Int).toNat)) (hO₁₀.inn 6 rfl (toNat_lt c₁) : Sl eInt k₁₀ (gi vs₁ (x5 : Int).toNat) (gi x2.Vert (x5 : Int).toNat)) rfl (toNat_lt c₃) rfl) ?_
            refine WO_v (a_mv (v := .i .i64 x6) rfl) ?_
            refine WO_v (a_mv (v := .i .i64 (gi (gi x2.Vert (x5 : Int).toNat) (x6 : Int).toNat)) rfl) ?_
            refine WO_end ?_
            refine then_n ?_
            refine W_sq ?_
            refine W_qd ?_
            have hW := hO₁₀.bump 40
            have hO₁₁ : Own B h (k₁₀.bump 40) [eSl e_T_api_Cell v₁ x, eSl e_T_api_Point v₂ x1, eBox r₂ [v₃, v₄, v₅, v₆], eSl eInt v₃ x2.X, eSl eInt v₄ x2.Y, eSl eV v₅ vs₁, eAll eInt vs₁ x2.Vert, eSl eV v₆ vs₂, eAll eInt vs₂ x2.Horz] := hW
            refine WQ_v rfl (a_fa (r := r₂) (o := 0) (o' := 0) q₄_5 rfl) ?_
            refine WQ_v rfl (a_ldb (cs := [v₃, v₄, v₅, v₆]) (v := v₃) (hO₁₁.box 2 rfl) rfl rfl) ?_
            refine WQ_v rfl (a_mv (v := .i .i64 (gi (gi x2.Vert (x5 : Int).toNat) (x6 : Int).toNat)) rfl) ?_
            obtain ⟨c₄, hp⟩ := ck_some hp
            refine WQ_v rfl (a_ixa (E := eInt) (z := (gi (gi x2.Vert (x5 : Int).toNat) (x6 : Int).toNat)) (hO₁₁.sl 3 rfl : Sl eInt (k₁₀.bump 40) v₃ x2.X) rfl rfl c₄) ?_
            refine WQ_v rfl (a_ldE (w := .i .i64 (gi x2.X (gi (gi x2.Vert (x5 : Int).toNat) (x6 : Int).toNat : Int).toNat)) (hO₁₁.sl 3 rfl : Sl eInt (k₁₀.bump 40) v₃ x2.X) rfl (toNat_lt c₄) rfl) ?_
            refine WQ_v rfl (a_mv (v := .i .i64 x5) q₄_9) ?_
            refine WQ_v rfl (a_neI (a := (gi x2.X (gi (gi x2.Vert (x5 : Int).toNat) (x6 : Int).toNat : Int).toNat)) (b := x5) rfl rfl) ?_
            refine WQ_v rfl (a_mv (v := .b (!(decide (gi x2.X (gi (gi x2.Vert (x5 : Int).toNat) (x6 : Int).toNat : Int).toNat = x5)))) rfl) ?_
            obtain ⟨t, hv₁, hp⟩ := bd_some hp
            refine WQ_cut 14 (fun fr' k' => (k₁₀.bump 40) = k' ∧ fr' 91 = .b t ∧ fr' 10 = (gi vs₁ (x5 : Int).toNat) ∧ fr' 11 = .i .i64 x6 ∧ fr' 12 = .i .i64 (gi (gi x2.Vert (x5 : Int).toNat) (x6 : Int).toNat) ∧ fr' 3 = v₁ ∧ fr' 4 = v₂ ∧ fr' 5 = .p r₂ 0 ∧ fr' 52 = v₅ ∧ fr' 53 = .i .i64 (x2.Vert.length : Int) ∧ fr' 54 = .i .i64 x5 ∧ fr' 63 = (gi vs₁ (x5 : Int).toNat) ∧ fr' 64 = .i .i64 ((gi x2.Vert (x5 : Int).toNat).length : Int) ∧ fr' 65 = .i .i64 x6 ∧ fr' 7 = .i .i64 (n + ((gi x2.Vert (x5 : Int).toNat).length : Int)) ∧ fr' 8 = .i .i64 0 ∧ fr' 9 = .i .i64 x5) ?_ ?_
            · clear hp; rcases if_some hv₁ with ⟨b₇, hp⟩ | ⟨b₇, hp⟩
              · skip
                refine WQ_off rfl b₇ ?_
                refine WQ_off rfl b₇ ?_
                refine WQ_off rfl b₇ ?_
                refine WQ_off rfl b₇ ?_
                refine WQ_off rfl b₇ ?_
                refine WQ_off rfl b₇ ?_
                refine WQ_off rfl b₇ ?_
                refine WQ_off rfl b₇ ?_
                refine WQ_off rfl b₇ ?_
                refine WQ_off rfl b₇ ?_
                refine WQ_off rfl b₇ ?_
                refine WQ_off rfl b₇ ?_
                refine WQ_off rfl b₇ ?_
                refine WQ_v rfl (a_pickT (t := (!(decide (gi x2.X (gi (gi x2.Vert (x5 : Int).toNat) (x6 : Int).toNat : Int).toNat = x5)))) (v := .b t) rfl b₇ (Eq.trans (b := V.b true) rfl (congrArg V.b (Option.some.inj hp)))) ?_
                refine WQ_end ?_
                exact ⟨rfl, rfl, q₄_10, rfl, rfl, q₄_3, q₄_4, q₄_5, q₄_52, q₄_53, q₄_54, q₄_63, q₄_64, q₄_65, q₄_7, q₄_8, q₄_9⟩
              · skip
                refine WQ_on rfl b₇ ?_
                refine WQ_v rfl (a_mv (v := v₂) q₄_4) ?_
                refine WQ_on rfl b₇ ?_
                refine WQ_v rfl (a_mv (v := .i .i64 (gi (gi x2.Vert (x5 : Int).toNat) (x6 : Int).toNat)) rfl) ?_
                refine WQ_on rfl b₇ ?_
                obtain ⟨c₅, hp⟩ := ck_some hp
                refine WQ_v rfl (a_ixa (E := e_T_api_Point) (z := (gi (gi x2.Vert (x5 : Int).toNat) (x6 : Int).toNat)) (hO₁₁.sl 1 rfl : Sl e_T_api_Point (k₁₀.bump 40) v₂ x1) rfl rfl c₅) ?_
                refine WQ_on rfl b₇ ?_
                refine WQ_v rfl (a_faE (off' := 0) (off2 := 0) (hO₁₁.sl 1 rfl : Sl e_T_api_Point (k₁₀.bump 40) v₂ x1) (toNat_lt c₅) rfl rfl) ?_
                refine WQ_on rfl b₇ ?_
                refine WQ_v rfl (a_ldE (w := .i .i64 ((gi x1 (gi (gi x2.Vert (x5 : Int).toNat) (x6 : Int).toNat : Int).toNat).X)) (hO₁₁.sl 1 rfl : Sl e_T_api_Point (k₁₀.bump 40) v₂ x1) rfl (toNat_lt c₅) rfl) ?_
                refine WQ_on rfl b₇ ?_
                refine WQ_v rfl (a_mv (v := v₂) q₄_4) ?_
                refine WQ_on rfl b₇ ?_
                refine WQ_v rfl (a_mv (v := (gi vs₁ (x5 : Int).toNat)) q₄_10) ?_
                refine WQ_on rfl b₇ ?_
                obtain ⟨c₆, hp⟩ := ck_some hp
                refine WQ_v rfl (a_ixa (E := eInt) (z := 0) (hO₁₁.inn 6 rfl (toNat_lt c₁) : Sl eInt (k₁₀.bump 40) (gi vs₁ (x5 : Int).toNat) (gi x2.Vert (x5 : Int).toNat)) rfl rfl c₆) ?_
                refine WQ_on rfl b₇ ?_
                refine WQ_v rfl (a_ldE (w := .i .i64 (gi (gi x2.Vert (x5 : Int).toNat) (0 : Int).toNat)) (hO₁₁.inn 6 rfl (toNat_lt c₁) : Sl eInt (k₁₀.bump 40) (gi vs₁ (x5 : Int).toNat) (gi x2.Vert (x5 : Int).toNat)) rfl (toNat_lt c₆) rfl) ?_
                refine WQ_on rfl b₇ ?_
                obtain ⟨c₇, hp⟩ := ck_some hp
                refine WQ_v rfl (a_ixa (E := e_T_api_Point) (z := (gi (gi x2.Vert (x5 : Int).toNat) (0 : Int).toNat)) (hO₁₁.sl 1 rfl : Sl e_T_api_Point (k₁₀.bump 40) v₂ x1) rfl rfl c₇) ?_
                refine WQ_on rfl b₇ ?_
                refine WQ_v rfl (a_faE (off' := 0) (off2 := 0) (hO₁₁.sl 1 rfl : Sl e_T_api_Point (k₁₀.bump 40) v₂ x1) (toNat_lt c₇) rfl rfl) ?_
                refine WQ_on rfl b₇ ?_
                refine WQ_v rfl (a_ldE (w := .i .i64 ((gi x1 (gi (gi x2.Vert (x5 : Int).toNat) (0 : Int).toNat : Int).toNat).X)) (hO₁₁.sl 1 rfl : Sl e_T_api_Point (k₁₀.bump 40) v₂ x1) rfl (toNat_lt c₇) rfl) ?_
                refine WQ_on rfl b₇ ?_
                refine WQ_v rfl (a_neI (a := ((gi x1 (gi (gi x2.Vert (x5 : Int).toNat) (x6 : Int).toNat : Int).toNat).X)) (b := ((gi x1 (gi (gi x2.Vert (x5 : Int).toNat) (0 : Int).toNat : Int).toNat).X)) rfl rfl) ?_
                refine WQ_v rfl (a_pickF (t := (!(decide (gi x2.X (gi (gi x2.Vert (x5 : Int).toNat) (x6 : Int).toNat : Int).toNat = x5)))) (v := .b t) rfl b₇ (Eq.trans (b := V.b (!(decide ((gi x1 (gi (gi x2.Vert (x5 : Int).toNat) (x6 : Int).toNat : Int).toNat).X = (gi x1 (gi (gi x2.Vert (x5 : Int).toNat) (0 : Int).toNat : Int).toNat).X)))) rfl (congrArg V.b (Option.some.inj hp)))) ?_
                refine WQ_end ?_
                exact ⟨rfl, rfl, q₄_10, rfl, rfl, q₄_3, q₄_4, q₄_5, q₄_52, q₄_53, q₄_54, q₄_63, q₄_64, q₄_65, q₄_7, q₄_8, q₄_9⟩
            rintro frg₄ _ ⟨rfl, g₄_91, g₄_10, g₄_11, g₄_12, g₄_3, g₄_4, g₄_5, g₄_52, g₄_53, g₄_54, g₄_63, g₄_64, g₄_65, g₄_7, g₄_8, g₄_9⟩
            refine WQ_v rfl (a_mv (v := .b t) g₄_91) ?_
            obtain ⟨t1, hv₂, hp⟩ := bd_some hp
            refine WQ_cut 17 (fun fr' k' => (k₁₀.bump 40) = k' ∧ fr' 109 = .b t1 ∧ fr' 10 = (gi vs₁ (x5 : Int).toNat) ∧ fr' 3 = v₁ ∧ fr' 4 = v₂ ∧ fr' 5 = .p r₂ 0 ∧ fr' 52 = v₅ ∧ fr' 53 = .i .i64 (x2.Vert.length : Int) ∧ fr' 54 = .i .i64 x5 ∧ fr' 63 = (gi vs₁ (x5 : Int).toNat) ∧ fr' 64 = .i .i64 ((gi x2.Vert (x5 : Int).toNat).length : Int) ∧ fr' 65 = .i .i64 x6 ∧ fr' 7 = .i .i64 (n + ((gi x2.Vert (x5 : Int).toNat).length : Int)) ∧ fr' 8 = .i .i64 0 ∧ fr' 9 = .i .i64 x5) ?_ ?_
            · clear hp; rcases if_some hv₂ with ⟨b₈, hp⟩ | ⟨b₈, hp⟩
              · skip
                refine WQ_off rfl b₈ ?_
                refine WQ_off rfl b₈ ?_
                refine WQ_off rfl b₈ ?_
                refine WQ_un rfl ?_
                refine WQ_un rfl ?_
                refine WQ_un rfl ?_
                refine WQ_un rfl ?_
                refine WQ_un rfl ?_
                refine WQ_un rfl ?_
                refine WQ_un rfl ?_
                refine WQ_un rfl ?_
                refine WQ_un rfl ?_
                refine WQ_un rfl ?_
                refine WQ_un rfl ?_
                refine WQ_un rfl ?_
                refine WQ_off rfl b₈ ?_
                refine WQ_v rfl (a_pickT (t := t) (v := .b t1) rfl b₈ (Eq.trans (b := V.b true) rfl (congrArg V.b (Option.some.inj hp)))) ?_
                refine WQ_end ?_
                exact ⟨rfl, rfl, g₄_10, g₄_3, g₄_4, g₄_5, g₄_52, g₄_53, g₄_54, g₄_63, g₄_64, g₄_65, g₄_7, g₄_8, g₄_9⟩
              · skip
                refine WQ_on rfl b₈ ?_
                refine WQ_v rfl (a_mv (v := .i .i64 x6) g₄_11) ?_
                refine WQ_on rfl b₈ ?_
                refine WQ_v rfl (a_gtr (a := x6) (b := 0) rfl rfl) ?_
                refine WQ_on rfl b₈ ?_
                refine WQ_v rfl (a_mv (v := .b (decide (0 < x6))) rfl) ?_
                obtain ⟨t2, hv₃, hp⟩ := bd_some hp
                refine WQ_cut 13 (fun fr' k' => (k₁₀.bump 40) = k' ∧ fr' 108 = .b t2 ∧ fr' 10 = (gi vs₁ (x5 : Int).toNat) ∧ fr' 3 = v₁ ∧ fr' 4 = v₂ ∧ fr' 5 = .p r₂ 0 ∧ fr' 52 = v₅ ∧ fr' 53 = .i .i64 (x2.Vert.length : Int) ∧ fr' 54 = .i .i64 x5 ∧ fr' 63 = (gi vs₁ (x5 : Int).toNat) ∧ fr' 64 = .i .i64 ((gi x2.Vert (x5 : Int).toNat).length : Int) ∧ fr' 65 = .i .i64 x6 ∧ fr' 7 = .i .i64 (n + ((gi x2.Vert (x5 : Int).toNat).length : Int)) ∧ fr' 8 = .i .i64 0 ∧ fr' 9 = .i .i64 x5 ∧ fr' 92 = .b t) ?_ ?_
                · clear hp; rcases if_some hv₃ with ⟨b₉, hp⟩ | ⟨b₉, hp⟩
                  · skip
                    refine WQ_on rfl b₉ ?_
                    refine WQ_v rfl (a_mv (v := v₁) g₄_3) ?_
                    refine WQ_on rfl b₉ ?_
                    refine WQ_v rfl (a_mv (v := (gi vs₁ (x5 : Int).toNat)) g₄_10) ?_
                    refine WQ_on rfl b₉ ?_
                    refine WQ_v rfl (a_mv (v := .i .i64 x6) g₄_11) ?_
                    refine WQ_on rfl b₉ ?_
                    obtain ⟨c₈, hp⟩ := ck_some hp
                    refine WQ_v rfl (a_sub (a := x6) (b := 1) rfl rfl c₈) ?_
                    refine WQ_on rfl b₉ ?_
                    obtain ⟨c₉, hp⟩ := ck_some hp
                    refine WQ_v rfl (a_ixa (E := eInt) (z := (x6 - 1)) (hO₁₁.inn 6 rfl (toNat_lt c₁) : Sl eInt (k₁₀.bump 40) (gi vs₁ (x5 : Int).toNat) (gi x2.Vert (x5 : Int).toNat)) rfl rfl c₉) ?_
                    refine WQ_on rfl b₉ ?_
                    refine WQ_v rfl (a_ldE (w := .i .i64 (gi (gi x2.Vert (x5 : Int).toNat) (x6 - 1 : Int).toNat)) (hO₁₁.inn 6 rfl (toNat_lt c₁) : Sl eInt (k₁₀.bump 40) (gi vs₁ (x5 : Int).toNat) (gi x2.Vert (x5 : Int).toNat)) rfl (toNat_lt c₉) rfl) ?_
                    refine WQ_on rfl b₉ ?_
                    obtain ⟨c₁₀, hp⟩ := ck_some hp
                    refine WQ_v rfl (a_ixa (E := e_T_api_Cell) (z := (gi (gi x2.Vert (x5 : Int).toNat) (x6 - 1 : Int).toNat)) (hO₁₁.sl 0 rfl : Sl e_T_api_Cell (k₁₀.bump 40) v₁ x) rfl rfl c₁₀) ?_
                    refine WQ_on rfl b₉ ?_
                    refine WQ_v rfl (a_faE (off' := 0) (off2 := 0) (hO₁₁.sl 0 rfl : Sl e_T_api_Cell (k₁₀.bump 40) v₁ x) (toNat_lt c₁₀) rfl rfl) ?_
                    refine WQ_on rfl b₉ ?_
                    refine WQ_v rfl (a_ixaaE (off := 0) (off2 := 1) (z := 1) (hO₁₁.sl 0 rfl : Sl e_T_api_Cell (k₁₀.bump 40) v₁ x) (toNat_lt c₁₀) rfl rfl (by decide) rfl) ?_
                    refine WQ_on rfl b₉ ?_
                    refine WQ_v rfl (a_ldE (w := .i .i64 (((gi x (gi (gi x2.Vert (x5 : Int).toNat) (x6 - 1 : Int).toNat : Int).toNat).Next).get 1)) (hO₁₁.sl 0 rfl : Sl e_T_api_Cell (k₁₀.bump 40) v₁ x) rfl (toNat_lt c₁₀) rfl) ?_
                    refine WQ_on rfl b₉ ?_
                    refine WQ_v rfl (a_mv (v := .i .i64 (gi (gi x2.Vert (x5 : Int).toNat) (x6 : Int).toNat)) g₄_12) ?_
                    refine WQ_on rfl b₉ ?_
                    refine WQ_v rfl (a_neI (a := (((gi x (gi (gi x2.Vert (x5 : Int).toNat) (x6 - 1 : Int).toNat : Int).toNat).Next).get 1)) (b := (gi (gi x2.Vert (x5 : Int).toNat) (x6 : Int).toNat)) rfl rfl) ?_
                    refine WQ_on rfl b₈ ?_
                    refine WQ_v rfl (a_pickT (t := (decide (0 < x6))) (v := .b t2) rfl b₉ (Eq.trans (b := V.b (!(decide (((gi x (gi (gi x2.Vert (x5 : Int).toNat) (x6 - 1 : Int).toNat : Int).toNat).Next).get 1 = gi (gi x2.Vert (x5 : Int).toNat) (x6 : Int).toNat)))) rfl (congrArg V.b (Option.some.inj hp)))) ?_
                    refine WQ_end ?_
                    exact ⟨rfl, rfl, g₄_10, g₄_3, g₄_4, g₄_5, g₄_52, g₄_53, g₄_54, g₄_63, g₄_64, g₄_65, g₄_7, g₄_8, g₄_9, rfl⟩
                  · skip
                    refine WQ_off rfl b₉ ?_
                    refine WQ_off rfl b₉ ?_
                    refine WQ_off rfl b₉ ?_
                    refine WQ_off rfl b₉ ?_
                    refine WQ_off rfl b₉ ?_
                    refine WQ_off rfl b₉ ?_
                    refine WQ_off rfl b₉ ?_
                    refine WQ_off rfl b₉ ?_
                    refine WQ_off rfl b₉ ?_
                    refine WQ_off rfl b₉ ?_
                    refine WQ_off rfl b₉ ?_
                    refine WQ_off rfl b₉ ?_
                    refine WQ_on rfl b₈ ?_
                    refine WQ_v rfl (a_pickF (t := (decide (0 < x6))) (v := .b t2) rfl b₉ (Eq.trans (b := V.b false) rfl (congrArg V.b (Option.some.inj hp)))) ?_
                    refine WQ_end ?_
                    exact ⟨rfl, rfl, g₄_10, g₄_3, g₄_4, g₄_5, g₄_52, g₄_53, g₄_54, g₄_63, g₄_64, g₄_65, g₄_7, g₄_8, g₄_9, rfl⟩
                rintro frg₅ _ ⟨rfl, g₅_108, g₅_10, g₅_3, g₅_4, g₅_5, g₅_52, g₅_53, g₅_54, g₅_63, g₅_64, g₅_65, g₅_7, g₅_8, g₅_9, g₅_92⟩
                refine WQ_v rfl (a_pickF (t := t) (v := .b t1) g₅_92 b₈ (Eq.trans (b := V.b t2) g₅_108 (congrArg V.b (Option.some.inj hp)))) ?_
                refine WQ_end ?_
                exact ⟨rfl, rfl, g₅_10, g₅_3, g₅_4, g₅_5, g₅_52, g₅_53, g₅_54, g₅_63, g₅_64, g₅_65, g₅_7, g₅_8, g₅_9⟩
            rintro frg₆ _ ⟨rfl, g₆_109, g₆_10, g₆_3, g₆_4, g₆_5, g₆_52, g₆_53, g₆_54, g₆_63, g₆_64, g₆_65, g₆_7, g₆_8, g₆_9⟩
            refine WQ_end ?_
            refine then_n ?_
            rcases if_some hp with ⟨b₁₀, hp⟩ | ⟨b₁₀, hp⟩
            · refine W_cT (t := t1) g₆_109 b₁₀ ?_
              refine W_sq ?_
              refine W_rg ?_
              refine WO_v (a_mv (v := .b false) rfl) ?_
              refine WO_end ?_
              refine then_n ?_
              refine W_rt ?_
              refine blk_r ?_
              refine then_r ?_
              have hp := Option.some.inj hp; subst hp
              refine (Or.inr (Exists.intro (.inr ()) (And.intro rfl (And.intro (fun h => nomatch h) (fun he => ?_)))))
              subst he; exact (And.intro rfl (And.intro (rfl) (hO₁₁.pick [] rfl (by decide))))
            · refine W_cF (t := t1) g₆_109 b₁₀ ?_
              refine W_sk ?_
              refine blk_n ?_
              refine then_n ?_
              refine W_rg ?_
              obtain ⟨c₁₁, hp⟩ := ck_some hp
              refine WO_v (a_add (a := x6) (b := 1) g₆_65 rfl c₁₁) ?_
              refine WO_v (a_mv (v := .i .i64 (x6 + 1)) rfl) ?_
              refine WO_end ?_
              have hp := Option.some.inj hp; subst hp
              exact (Or.inl (Exists.intro (x6 + 1) (And.intro rfl (And.intro rfl (And.intro (g₆_3) (And.intro (g₆_4) (And.intro (g₆_5) (And.intro (g₆_7) (And.intro (g₆_8) (And.intro (g₆_9) (And.intro (g₆_10) (And.intro (g₆_52) (And.intro (g₆_53) (And.intro (g₆_54) (And.intro (g₆_63) (And.intro (g₆_64) (And.intro (rfl) (hO₁₁.pick [0, 1, 2, 3, 4, 5, 6, 7, 8] rfl (by decide)))))))))))))))))))
          · refine W_cF (t := (decide (x6 < ((gi x2.Vert (x5 : Int).toNat).length : Int)))) rfl b₆ ?_
            refine W_ex ?_
            refine then_e ?_
            have hp := Option.some.inj hp; subst hp
            refine (Or.inr (Exists.intro (.inl ()) (And.intro rfl (And.intro (fun h => nomatch h) (fun he => ?_)))))
            subst he; exact (And.intro rfl (And.intro (q₄_3) (And.intro (q₄_4) (And.intro (q₄_5) (And.intro (q₄_7) (And.intro (q₄_8) (And.intro (q₄_52) (And.intro (q₄_53) (And.intro (q₄_54) (hO₁₀.pick [0, 1, 2, 3, 4, 5, 6, 7, 8] rfl (by decide)))))))))))
        intro e₂ q₃ k₉ hJ₂
        rcases o₃ with _ | _
        · obtain ⟨rfl, q₃_3, q₃_4, q₃_5, q₃_7, q₃_8, q₃_52, q₃_53, q₃_54, hO₉⟩ := hJ₂
          refine blk_i ?_
          refine blk_n ?_
          refine then_n ?_
          refine W_rg ?_
          obtain ⟨c₁₂, hp⟩ := ck_some hp
          refine WO_v (a_add (a := x5) (b := 1) q₃_54 rfl c₁₂) ?_
          refine WO_v (a_mv (v := .i .i64 (x5 + 1)) rfl) ?_
          refine WO_end ?_
          have hp := Option.some.inj hp; subst hp
          exact (Or.inl (Exists.intro (n + ((gi x2.Vert (x5 : Int).toNat).length : Int), x5 + 1) (And.intro rfl (And.intro rfl (And.intro (q₃_3) (And.intro (q₃_4) (And.intro (q₃_5) (And.intro (q₃_7) (And.intro (q₃_8) (And.intro (q₃_52) (And.intro (q₃_53) (And.intro (rfl) (hO₉.pick [0, 1, 2, 3, 4, 5, 6, 7, 8] rfl (by decide))))))))))))))
        · obtain ⟨rfl, q₃_2, hO₉⟩ := hJ₂
          refine blk_r ?_
          refine blk_r ?_
          refine then_r ?_
          have hp := Option.some.inj hp; subst hp
          refine (Or.inr (Exists.intro (.inr ()) (And.intro rfl (And.intro (fun h => nomatch h) (fun he => ?_)))))
          subst he; exact (And.intro rfl (And.intro (q₃_2) (hO₉.pick [] rfl (by decide))))
      · refine W_cF (t := (decide (x5 < (x2.Vert.length : Int)))) rfl b₅ ?_
        refine W_ex ?_
        refine then_e ?_
        have hp := Option.some.inj hp; subst hp
        refine (Or.inr (Exists.intro (.inl n) (And.intro rfl (And.intro (fun h => nomatch h) (fun he => ?_)))))
        subst he; exact (And.intro rfl (And.intro (q₂_3) (And.intro (q₂_4) (And.intro (q₂_5) (And.intro (q₂_7) (And.intro (q₂_8) (hO₈.pick [0, 1, 2, 3, 4, 5, 6, 7, 8] rfl (by decide))))))))
    intro e₁ q₁ k₇ hJ₁
    rcases o₁ with n1 | _
    · obtain ⟨rfl, q₁_3, q₁_4, q₁_5, q₁_7, q₁_8, hO₇⟩ := hJ₁
      refine blk_i ?_
      refine then_n ?_
      refine W_sq ?_
      refine W_sq ?_
      refine W_rg ?_
      refine WO_v (a_fa (r := r₂) (o := 0) (o' := 3) q₁_5 rfl) ?_
      refine WO_v (a_ldb (cs := [v₃, v₄, v₅, v₆]) (v := v₆) (hO₇.box 2 rfl) rfl rfl) ?_
      refine WO_v (a_lenN (n := (x2.Horz).length) (hO₇.sl 7 rfl : Sl eV k₇ v₆ vs₂) (hO₇.allLen 8 rfl : (vs₂).length = (x2.Horz).length) rfl) ?_
      refine WO_v (a_mv (v := .i .i64 0) rfl) ?_
      refine WO_end ?_
      refine then_n ?_
      refine W_bl ?_
      obtain ⟨o₅, ho₃, hp⟩ := bd_some hp
      refine W.mono (Q := fun e fr k => match (generalizing := false) o₅ with
          | .inl m1 => e = (.exit 4) ∧ fr 3 = v₁ ∧ fr 5 = .p r₂ 0 ∧ fr 7 = .i .i64 n1 ∧ fr 8 = .i .i64 m1 ∧ Own B h k [eSl e_T_api_Cell v₁ x, eBox r₂ [v₃, v₄, v₅, v₆], eSl eInt v₃ x2.X, eSl eInt v₄ x2.Y, eSl eV v₅ vs₁, eAll eInt vs₁ x2.Vert, eSl eV v₆ vs₂, eAll eInt vs₂ x2.Horz]
          | .inr _ => e = .ret ∧ fr 2 = .b false ∧ Own B h k []) ?_ ?_
      · clear hp
        refine W_loopF (fun st fr k => match st with | (m, x7) => fr 3 = v₁ ∧ fr 4 = v₂ ∧ fr 5 = .p r₂ 0 ∧ fr 7 = .i .i64 n1 ∧ fr 8 = .i .i64 m ∧ fr 113 = v₆ ∧ fr 114 = .i .i64 (x2.Horz.length : Int) ∧ fr 115 = .i .i64 x7 ∧ Own B h k [eSl e_T_api_Cell v₁ x, eSl e_T_api_Point v₂ x1, eBox r₂ [v₃, v₄, v₅, v₆], eSl eInt v₃ x2.X, eSl eInt v₄ x2.Y, eSl eV v₅ vs₁, eAll eInt vs₁ x2.Vert, eSl eV v₆ vs₂, eAll eInt vs₂ x2.Horz]) ho₃ (s := (0, 0)) (And.intro (q₁_3) (And.intro (q₁_4) (And.intro (q₁_5) (And.intro (q₁_7) (And.intro (q₁_8) (And.intro (rfl) (And.intro (rfl) (And.intro (rfl) (hO₇.pick [0, 1, 2, 3, 4, 5, 6, 7, 8] rfl (by decide)))))))))) ?_
        rintro ⟨m, x7⟩ q₆ k₁₃ ⟨q₆_3, q₆_4, q₆_5, q₆_7, q₆_8, q₆_113, q₆_114, q₆_115, hO₁₃⟩ o₆ hp
        dsimp only [p_muntinlaw16_SegOnce.s2] at hp
        refine W_sq ?_
        refine W_rg ?_
        refine WO_v (a_lss (a := x7) (b := (x2.Horz.length : Int)) q₆_115 q₆_114) ?_
        refine WO_end ?_
        refine then_n ?_
        refine W_sq ?_
        rcases if_some hp with ⟨b₁₁, hp⟩ | ⟨b₁₁, hp⟩
        · refine W_cT (t := (decide (x7 < (x2.Horz.length : Int)))) rfl b₁₁ ?_
          refine W_sk ?_
          refine then_n ?_
          refine W_sq ?_
          refine W_bl ?_
          refine W_sq ?_
          refine W_rg ?_
          refine WO_v (a_mv (v := .i .i64 x7) q₆_115) ?_
          obtain ⟨c₁₃, hp⟩ := ck_some hp
          refine WO_v (a_ixa (E := eV) (z := x7) (hO₁₃.sl 7 rfl : Sl eV k₁₃ v₆ vs₂) q₆_113 q₆_115 (by rw [(hO₁₃.allLen 8 rfl : (vs₂).length = (x2.Horz).length)]; exact c₁₃)) ?_
          refine WO_v (a_ldE (w := (gi vs₂ (x7 : Int).toNat)) (hO₁₃.sl 7 rfl : Sl eV k₁₃ v₆ vs₂) rfl (by rw [(hO₁₃.allLen 8 rfl : (vs₂).length = (x2.Horz).length)]; exact toNat_lt c₁₃) rfl) ?_
          refine WO_v (a_mv (v := .i .i64 x7) rfl) ?_
          refine WO_v (a_mv (v := (gi vs₂ (x7 : Int).toNat)) rfl) ?_
          refine WO_end ?_
          refine then_n ?_
          refine W_sq ?_
          refine W_rg ?_
          refine WO_v (a_mv (v := .i .i64 m) q₆_8) ?_
          refine WO_v (a_mv (v := (gi vs₂ (x7 : Int).toNat)) rfl) ?_
          refine WO_v (a_len (hO₁₃.inn 8 rfl (toNat_lt c₁₃) : Sl eInt k₁₃ (gi vs₂ (x7 : Int).toNat) (gi x2.Horz (x7 : Int).toNat)) rfl) ?_
          obtain ⟨c₁₄, hp⟩ := ck_some hp
          refine WO_v (a_add (a := m) (b := ((gi x2.Horz (x7 : Int).toNat).length : Int)) rfl rfl c₁₄) ?_
          refine WO_v (a_mv (v := .i .i64 (m + ((gi x2.Horz (x7 : Int).toNat).length : Int))) rfl) ?_
          refine WO_end ?_
          refine then_n ?_
          refine W_sq ?_
          refine W_rg ?_
          refine WO_v (a_mv (v := (gi vs₂ (x7 : Int).toNat)) rfl) ?_
          refine WO_v (a_len (hO₁₃.inn 8 rfl (toNat_lt c₁₃) : Sl eInt k₁₃ (gi vs₂ (x7 : Int).toNat) (gi x2.Horz (x7 : Int).toNat)) rfl) ?_
          refine WO_v (a_mv (v := .i .i64 0) rfl) ?_
          refine WO_end ?_
          refine then_n ?_
          refine W_bl ?_
          obtain ⟨o₇, ho₄, hp⟩ := bd_some hp
          refine W.mono (Q := fun e fr k => match (generalizing := false) o₇ with
              | .inl _ => e = (.exit 6) ∧ fr 3 = v₁ ∧ fr 4 = v₂ ∧ fr 5 = .p r₂ 0 ∧ fr 7 = .i .i64 n1 ∧ fr 8 = .i .i64 (m + ((gi x2.Horz (x7 : Int).toNat).length : Int)) ∧ fr 113 = v₆ ∧ fr 114 = .i .i64 (x2.Horz.length : Int) ∧ fr 115 = .i .i64 x7 ∧ Own B h k [eSl e_T_api_Cell v₁ x, eSl e_T_api_Point v₂ x1, eBox r₂ [v₃, v₄, v₅, v₆], eSl eInt v₃ x2.X, eSl eInt v₄ x2.Y, eSl eV v₅ vs₁, eAll eInt vs₁ x2.Vert, eSl eV v₆ vs₂, eAll eInt vs₂ x2.Horz]
              | .inr _ => e = .ret ∧ fr 2 = .b false ∧ Own B h k []) ?_ ?_
          · clear hp
            refine W_loopF (fun st fr k => match st with | x8 => fr 3 = v₁ ∧ fr 4 = v₂ ∧ fr 5 = .p r₂ 0 ∧ fr 7 = .i .i64 n1 ∧ fr 8 = .i .i64 (m + ((gi x2.Horz (x7 : Int).toNat).length : Int)) ∧ fr 13 = .i .i64 x7 ∧ fr 14 = (gi vs₂ (x7 : Int).toNat) ∧ fr 113 = v₆ ∧ fr 114 = .i .i64 (x2.Horz.length : Int) ∧ fr 115 = .i .i64 x7 ∧ fr 124 = (gi vs₂ (x7 : Int).toNat) ∧ fr 125 = .i .i64 ((gi x2.Horz (x7 : Int).toNat).length : Int) ∧ fr 126 = .i .i64 x8 ∧ Own B h k [eSl e_T_api_Cell v₁ x, eSl e_T_api_Point v₂ x1, eBox r₂ [v₃, v₄, v₅, v₆], eSl eInt v₃ x2.X, eSl eInt v₄ x2.Y, eSl eV v₅ vs₁, eAll eInt vs₁ x2.Vert, eSl eV v₆ vs₂, eAll eInt vs₂ x2.Horz]) ho₄ (s := 0) (And.intro (q₆_3) (And.intro (q₆_4) (And.intro (q₆_5) (And.intro (q₆_7) (And.intro (rfl) (And.intro (rfl) (And.intro (rfl) (And.intro (q₆_113) (And.intro (q₆_114) (And.intro (q₆_115) (And.intro (rfl) (And.intro (rfl) (And.intro (rfl) (hO₁₃.pick [0, 1, 2, 3, 4, 5, 6, 7, 8] rfl (by decide))))))))))))))) ?_
            rintro x8 q₈ k₁₅ ⟨q₈_3, q₈_4, q₈_5, q₈_7, q₈_8, q₈_13, q₈_14, q₈_113, q₈_114, q₈_115, q₈_124, q₈_125, q₈_126, hO₁₅⟩ o₈ hp
            dsimp only [p_muntinlaw16_SegOnce.s3] at hp
            refine W_sq ?_
            refine W_rg ?_
            refine WO_v (a_lss (a := x8) (b := ((gi x2.Horz (x7 : Int).toNat).length : Int)) q₈_126 q₈_125) ?_
            refine WO_end ?_
            refine then_n ?_
            refine W_sq ?_
            rcases if_some hp with ⟨b₁₂, hp⟩ | ⟨b₁₂, hp⟩
            · refine W_cT (t := (decide (x8 < ((gi x2.Horz (x7 : Int).toNat).length : Int)))) rfl b₁₂ ?_
              refine W_sk ?_
              refine then_n ?_
              refine W_sq ?_
              refine W_bl ?_
              refine W_sq ?_
              refine W_rg ?_
              refine WO_v (a_mv (v := .i .i64 x8) q₈_126) ?_
              obtain ⟨c₁₅, hp⟩ := ck_some hp
              refine WO_v (a_ixa (E := eInt) (z := x8) (hO₁₅.inn 8 rfl (toNat_lt c₁₃) : Sl eInt k₁₅ (gi vs₂ (x7 : Int).toNat) (gi x2.Horz (x7 : Int).toNat)) q₈_124 q₈_126 c₁₅) ?_
              refine WO_v (a_ldE (w := .i .i64 (gi (gi x2.Horz (x7 : Int).toNat) (x8 : Int).toNat)) (hO₁₅.inn 8 rfl (toNat_lt c₁₃) : Sl eInt k₁₅ (gi vs₂ (x7 : Int).toNat) (gi x2.Horz (x7 : Int).toNat)) rfl (toNat_lt c₁₅) rfl) ?_
              refine WO_v (a_mv (v := .i .i64 x8) rfl) ?_
              refine WO_v (a_mv (v := .i .i64 (gi (gi x2.Horz (x7 : Int).toNat) (x8 : Int).toNat)) rfl) ?_
              refine WO_end ?_
              refine then_n ?_
              refine W_sq ?_
              refine W_qd ?_
              have hW := hO₁₅.bump 40
              have hO₁₆ : Own B h (k₁₅.bump 40) [eSl e_T_api_Cell v₁ x, eSl e_T_api_Point v₂ x1, eBox r₂ [v₃, v₄, v₅, v₆], eSl eInt v₃ x2.X, eSl eInt v₄ x2.Y, eSl eV v₅ vs₁, eAll eInt vs₁ x2.Vert, eSl eV v₆ vs₂, eAll eInt vs₂ x2.Horz] := hW
              refine WQ_v rfl (a_fa (r := r₂) (o := 0) (o' := 1) q₈_5 rfl) ?_
              refine WQ_v rfl (a_ldb (cs := [v₃, v₄, v₅, v₆]) (v := v₄) (hO₁₆.box 2 rfl) rfl rfl) ?_
              refine WQ_v rfl (a_mv (v := .i .i64 (gi (gi x2.Horz (x7 : Int).toNat) (x8 : Int).toNat)) rfl) ?_
              obtain ⟨c₁₆, hp⟩ := ck_some hp
              refine WQ_v rfl (a_ixa (E := eInt) (z := (gi (gi x2.Horz (x7 : Int).toNat) (x8 : Int).toNat)) (hO₁₆.sl 4 rfl : Sl eInt (k₁₅.bump 40) v₄ x2.Y) rfl rfl c₁₆) ?_
              refine WQ_v rfl (a_ldE (w := .i .i64 (gi x2.Y (gi (gi x2.Horz (x7 : Int).toNat) (x8 : Int).toNat : Int).toNat)) (hO₁₆.sl 4 rfl : Sl eInt (k₁₅.bump 40) v₄ x2.Y) rfl (toNat_lt c₁₆) rfl) ?_
              refine WQ_v rfl (a_mv (v := .i .i64 x7) q₈_13) ?_
              refine WQ_v rfl (a_neI (a := (gi x2.Y (gi (gi x2.Horz (x7 : Int).toNat) (x8 : Int).toNat : Int).toNat)) (b := x7) rfl rfl) ?_
              refine WQ_v rfl (a_mv (v := .b (!(decide (gi x2.Y (gi (gi x2.Horz (x7 : Int).toNat) (x8 : Int).toNat : Int).toNat = x7)))) rfl) ?_
              obtain ⟨t3, hv₄, hp⟩ := bd_some hp
              refine WQ_cut 14 (fun fr' k' => (k₁₅.bump 40) = k' ∧ fr' 152 = .b t3 ∧ fr' 113 = v₆ ∧ fr' 114 = .i .i64 (x2.Horz.length : Int) ∧ fr' 115 = .i .i64 x7 ∧ fr' 124 = (gi vs₂ (x7 : Int).toNat) ∧ fr' 125 = .i .i64 ((gi x2.Horz (x7 : Int).toNat).length : Int) ∧ fr' 126 = .i .i64 x8 ∧ fr' 13 = .i .i64 x7 ∧ fr' 14 = (gi vs₂ (x7 : Int).toNat) ∧ fr' 15 = .i .i64 x8 ∧ fr' 16 = .i .i64 (gi (gi x2.Horz (x7 : Int).toNat) (x8 : Int).toNat) ∧ fr' 3 = v₁ ∧ fr' 4 = v₂ ∧ fr' 5 = .p r₂ 0 ∧ fr' 7 = .i .i64 n1 ∧ fr' 8 = .i .i64 (m + ((gi x2.Horz (x7 : Int).toNat).length : Int))) ?_ ?_
              · clear hp; rcases if_some hv₄ with ⟨b₁₃, hp⟩ | ⟨b₁₃, hp⟩
                · skip
                  refine WQ_off rfl b₁₃ ?_
                  refine WQ_off rfl b₁₃ ?_
                  refine WQ_off rfl b₁₃ ?_
                  refine WQ_off rfl b₁₃ ?_
                  refine WQ_off rfl b₁₃ ?_
                  refine WQ_off rfl b₁₃ ?_
                  refine WQ_off rfl b₁₃ ?_
                  refine WQ_off rfl b₁₃ ?_
                  refine WQ_off rfl b₁₃ ?_
                  refine WQ_off rfl b₁₃ ?_
                  refine WQ_off rfl b₁₃ ?_
                  refine WQ_off rfl b₁₃ ?_
                  refine WQ_off rfl b₁₃ ?_
                  refine WQ_v rfl (a_pickT (t := (!(decide (gi x2.Y (gi (gi x2.Horz (x7 : Int).toNat) (x8 : Int).toNat : Int).toNat = x7)))) (v := .b t3) rfl b₁₃ (Eq.trans (b := V.b true) rfl (congrArg V.b (Option.some.inj hp)))) ?_
                  refine WQ_end ?_
                  exact ⟨rfl, rfl, q₈_113, q₈_114, q₈_115, q₈_124, q₈_125, q₈_126, q₈_13, q₈_14, rfl, rfl, q₈_3, q₈_4, q₈_5, q₈_7, q₈_8⟩
                · skip
                  refine WQ_on rfl b₁₃ ?_
                  refine WQ_v rfl (a_mv (v := v₂) q₈_4) ?_
                  refine WQ_on rfl b₁₃ ?_
                  refine WQ_v rfl (a_mv (v := .i .i64 (gi (gi x2.Horz (x7 : Int).toNat) (x8 : Int).toNat)) rfl) ?_
                  refine WQ_on rfl b₁₃ ?_
                  obtain ⟨c₁₇, hp⟩ := ck_some hp
                  refine WQ_v rfl (a_ixa (E := e_T_api_Point) (z := (gi (gi x2.Horz (x7 : Int).toNat) (x8 : Int).toNat)) (hO₁₆.sl 1 rfl : Sl e_T_api_Point (k₁₅.bump 40) v₂ x1) rfl rfl c₁₇) ?_
                  refine WQ_on rfl b₁₃ ?_
                  refine WQ_v rfl (a_faE (off' := 0) (off2 := 1) (hO₁₆.sl 1 rfl : Sl e_T_api_Point (k₁₅.bump 40) v₂ x1) (toNat_lt c₁₇) rfl rfl) ?_
                  refine WQ_on rfl b₁₃ ?_
                  refine WQ_v rfl (a_ldE (w := .i .i64 ((gi x1 (gi (gi x2.Horz (x7 : Int).toNat) (x8 : Int).toNat : Int).toNat).Y)) (hO₁₆.sl 1 rfl : Sl e_T_api_Point (k₁₅.bump 40) v₂ x1) rfl (toNat_lt c₁₇) rfl) ?_
                  refine WQ_on rfl b₁₃ ?_
                  refine WQ_v rfl (a_mv (v := v₂) q₈_4) ?_
                  refine WQ_on rfl b₁₃ ?_
                  refine WQ_v rfl (a_mv (v := (gi vs₂ (x7 : Int).toNat)) q₈_14) ?_
                  refine WQ_on rfl b₁₃ ?_
                  obtain ⟨c₁₈, hp⟩ := ck_some hp
                  refine WQ_v rfl (a_ixa (E := eInt) (z := 0) (hO₁₆.inn 8 rfl (toNat_lt c₁₃) : Sl eInt (k₁₅.bump 40) (gi vs₂ (x7 : Int).toNat) (gi x2.Horz (x7 : Int).toNat)) rfl rfl c₁₈) ?_
                  refine WQ_on rfl b₁₃ ?_
                  refine WQ_v rfl (a_ldE (w := .i .i64 (gi (gi x2.Horz (x7 : Int).toNat) (0 : Int).toNat)) (hO₁₆.inn 8 rfl (toNat_lt c₁₃) : Sl eInt (k₁₅.bump 40) (gi vs₂ (x7 : Int).toNat) (gi x2.Horz (x7 : Int).toNat)) rfl (toNat_lt c₁₈) rfl) ?_
                  refine WQ_on rfl b₁₃ ?_
                  obtain ⟨c₁₉, hp⟩ := ck_some hp
                  refine WQ_v rfl (a_ixa (E := e_T_api_Point) (z := (gi (gi x2.Horz (x7 : Int).toNat) (0 : Int).toNat)) (hO₁₆.sl 1 rfl : Sl e_T_api_Point (k₁₅.bump 40) v₂ x1) rfl rfl c₁₉) ?_
                  refine WQ_on rfl b₁₃ ?_
                  refine WQ_v rfl (a_faE (off' := 0) (off2 := 1) (hO₁₆.sl 1 rfl : Sl e_T_api_Point (k₁₅.bump 40) v₂ x1) (toNat_lt c₁₉) rfl rfl) ?_
                  refine WQ_on rfl b₁₃ ?_
                  refine WQ_v rfl (a_ldE (w := .i .i64 ((gi x1 (gi (gi x2.Horz (x7 : Int).toNat) (0 : Int).toNat : Int).toNat).Y)) (hO₁₆.sl 1 rfl : Sl e_T_api_Point (k₁₅.bump 40) v₂ x1) rfl (toNat_lt c₁₉) rfl) ?_
                  refine WQ_on rfl b₁₃ ?_
                  refine WQ_v rfl (a_neI (a := ((gi x1 (gi (gi x2.Horz (x7 : Int).toNat) (x8 : Int).toNat : Int).toNat).Y)) (b := ((gi x1 (gi (gi x2.Horz (x7 : Int).toNat) (0 : Int).toNat : Int).toNat).Y)) rfl rfl) ?_
                  refine WQ_v rfl (a_pickF (t := (!(decide (gi x2.Y (gi (gi x2.Horz (x7 : Int).toNat) (x8 : Int).toNat : Int).toNat = x7)))) (v := .b t3) rfl b₁₃ (Eq.trans (b := V.b (!(decide ((gi x1 (gi (gi x2.Horz (x7 : Int).toNat) (x8 : Int).toNat : Int).toNat).Y = (gi x1 (gi (gi x2.Horz (x7 : Int).toNat) (0 : Int).toNat : Int).toNat).Y)))) rfl (congrArg V.b (Option.some.inj hp)))) ?_
                  refine WQ_end ?_
                  exact ⟨rfl, rfl, q₈_113, q₈_114, q₈_115, q₈_124, q₈_125, q₈_126, q₈_13, q₈_14, rfl, rfl, q₈_3, q₈_4, q₈_5, q₈_7, q₈_8⟩
              rintro frg₇ _ ⟨rfl, g₇_152, g₇_113, g₇_114, g₇_115, g₇_124, g₇_125, g₇_126, g₇_13, g₇_14, g₇_15, g₇_16, g₇_3, g₇_4, g₇_5, g₇_7, g₇_8⟩
              refine WQ_v rfl (a_mv (v := .b t3) g₇_152) ?_
              obtain ⟨t4, hv₅, hp⟩ := bd_some hp
              refine WQ_cut 17 (fun fr' k' => (k₁₅.bump 40) = k' ∧ fr' 170 = .b t4 ∧ fr' 113 = v₆ ∧ fr' 114 = .i .i64 (x2.Horz.length : Int) ∧ fr' 115 = .i .i64 x7 ∧ fr' 124 = (gi vs₂ (x7 : Int).toNat) ∧ fr' 125 = .i .i64 ((gi x2.Horz (x7 : Int).toNat).length : Int) ∧ fr' 126 = .i .i64 x8 ∧ fr' 13 = .i .i64 x7 ∧ fr' 14 = (gi vs₂ (x7 : Int).toNat) ∧ fr' 3 = v₁ ∧ fr' 4 = v₂ ∧ fr' 5 = .p r₂ 0 ∧ fr' 7 = .i .i64 n1 ∧ fr' 8 = .i .i64 (m + ((gi x2.Horz (x7 : Int).toNat).length : Int))) ?_ ?_
              · clear hp; rcases if_some hv₅ with ⟨b₁₄, hp⟩ | ⟨b₁₄, hp⟩
                · skip
                  refine WQ_off rfl b₁₄ ?_
                  refine WQ_off rfl b₁₄ ?_
                  refine WQ_off rfl b₁₄ ?_
                  refine WQ_un rfl ?_
                  refine WQ_un rfl ?_
                  refine WQ_un rfl ?_
                  refine WQ_un rfl ?_
                  refine WQ_un rfl ?_
                  refine WQ_un rfl ?_
                  refine WQ_un rfl ?_
                  refine WQ_un rfl ?_
                  refine WQ_un rfl ?_
                  refine WQ_un rfl ?_
                  refine WQ_un rfl ?_
                  refine WQ_un rfl ?_
                  refine WQ_off rfl b₁₄ ?_
                  refine WQ_v rfl (a_pickT (t := t3) (v := .b t4) rfl b₁₄ (Eq.trans (b := V.b true) rfl (congrArg V.b (Option.some.inj hp)))) ?_
                  refine WQ_end ?_
                  exact ⟨rfl, rfl, g₇_113, g₇_114, g₇_115, g₇_124, g₇_125, g₇_126, g₇_13, g₇_14, g₇_3, g₇_4, g₇_5, g₇_7, g₇_8⟩
                · skip
                  refine WQ_on rfl b₁₄ ?_
                  refine WQ_v rfl (a_mv (v := .i .i64 x8) g₇_15) ?_
                  refine WQ_on rfl b₁₄ ?_
                  refine WQ_v rfl (a_gtr (a := x8) (b := 0) rfl rfl) ?_
                  refine WQ_on rfl b₁₄ ?_
                  refine WQ_v rfl (a_mv (v := .b (decide (0 < x8))) rfl) ?_
                  obtain ⟨t5, hv₆, hp⟩ := bd_some hp
                  refine WQ_cut 13 (fun fr' k' => (k₁₅.bump 40) = k' ∧ fr' 169 = .b t5 ∧ fr' 113 = v₆ ∧ fr' 114 = .i .i64 (x2.Horz.length : Int) ∧ fr' 115 = .i .i64 x7 ∧ fr' 124 = (gi vs₂ (x7 : Int).toNat) ∧ fr' 125 = .i .i64 ((gi x2.Horz (x7 : Int).toNat).length : Int) ∧ fr' 126 = .i .i64 x8 ∧ fr' 13 = .i .i64 x7 ∧ fr' 14 = (gi vs₂ (x7 : Int).toNat) ∧ fr' 153 = .b t3 ∧ fr' 3 = v₁ ∧ fr' 4 = v₂ ∧ fr' 5 = .p r₂ 0 ∧ fr' 7 = .i .i64 n1 ∧ fr' 8 = .i .i64 (m + ((gi x2.Horz (x7 : Int).toNat).length : Int))) ?_ ?_
                  · clear hp; rcases if_some hv₆ with ⟨b₁₅, hp⟩ | ⟨b₁₅, hp⟩
                    · skip
                      refine WQ_on rfl b₁₅ ?_
                      refine WQ_v rfl (a_mv (v := v₁) g₇_3) ?_
                      refine WQ_on rfl b₁₅ ?_
                      refine WQ_v rfl (a_mv (v := (gi vs₂ (x7 : Int).toNat)) g₇_14) ?_
                      refine WQ_on rfl b₁₅ ?_
                      refine WQ_v rfl (a_mv (v := .i .i64 x8) g₇_15) ?_
                      refine WQ_on rfl b₁₅ ?_
                      obtain ⟨c₂₀, hp⟩ := ck_some hp
                      refine WQ_v rfl (a_sub (a := x8) (b := 1) rfl rfl c₂₀) ?_
                      refine WQ_on rfl b₁₅ ?_
                      obtain ⟨c₂₁, hp⟩ := ck_some hp
                      refine WQ_v rfl (a_ixa (E := eInt) (z := (x8 - 1)) (hO₁₆.inn 8 rfl (toNat_lt c₁₃) : Sl eInt (k₁₅.bump 40) (gi vs₂ (x7 : Int).toNat) (gi x2.Horz (x7 : Int).toNat)) rfl rfl c₂₁) ?_
                      refine WQ_on rfl b₁₅ ?_
                      refine WQ_v rfl (a_ldE (w := .i .i64 (gi (gi x2.Horz (x7 : Int).toNat) (x8 - 1 : Int).toNat)) (hO₁₆.inn 8 rfl (toNat_lt c₁₃) : Sl eInt (k₁₅.bump 40) (gi vs₂ (x7 : Int).toNat) (gi x2.Horz (x7 : Int).toNat)) rfl (toNat_lt c₂₁) rfl) ?_
                      refine WQ_on rfl b₁₅ ?_
                      obtain ⟨c₂₂, hp⟩ := ck_some hp
                      refine WQ_v rfl (a_ixa (E := e_T_api_Cell) (z := (gi (gi x2.Horz (x7 : Int).toNat) (x8 - 1 : Int).toNat)) (hO₁₆.sl 0 rfl : Sl e_T_api_Cell (k₁₅.bump 40) v₁ x) rfl rfl c₂₂) ?_
                      refine WQ_on rfl b₁₅ ?_
                      refine WQ_v rfl (a_faE (off' := 0) (off2 := 0) (hO₁₆.sl 0 rfl : Sl e_T_api_Cell (k₁₅.bump 40) v₁ x) (toNat_lt c₂₂) rfl rfl) ?_
                      refine WQ_on rfl b₁₅ ?_
                      refine WQ_v rfl (a_ixaaE (off := 0) (off2 := 0) (z := 0) (hO₁₆.sl 0 rfl : Sl e_T_api_Cell (k₁₅.bump 40) v₁ x) (toNat_lt c₂₂) rfl rfl (by decide) rfl) ?_
                      refine WQ_on rfl b₁₅ ?_
                      refine WQ_v rfl (a_ldE (w := .i .i64 (((gi x (gi (gi x2.Horz (x7 : Int).toNat) (x8 - 1 : Int).toNat : Int).toNat).Next).get 0)) (hO₁₆.sl 0 rfl : Sl e_T_api_Cell (k₁₅.bump 40) v₁ x) rfl (toNat_lt c₂₂) rfl) ?_
                      refine WQ_on rfl b₁₅ ?_
                      refine WQ_v rfl (a_mv (v := .i .i64 (gi (gi x2.Horz (x7 : Int).toNat) (x8 : Int).toNat)) g₇_16) ?_
                      refine WQ_on rfl b₁₅ ?_
                      refine WQ_v rfl (a_neI (a := (((gi x (gi (gi x2.Horz (x7 : Int).toNat) (x8 - 1 : Int).toNat : Int).toNat).Next).get 0)) (b := (gi (gi x2.Horz (x7 : Int).toNat) (x8 : Int).toNat)) rfl rfl) ?_
                      refine WQ_on rfl b₁₄ ?_
                      refine WQ_v rfl (a_pickT (t := (decide (0 < x8))) (v := .b t5) rfl b₁₅ (Eq.trans (b := V.b (!(decide (((gi x (gi (gi x2.Horz (x7 : Int).toNat) (x8 - 1 : Int).toNat : Int).toNat).Next).get 0 = gi (gi x2.Horz (x7 : Int).toNat) (x8 : Int).toNat)))) rfl (congrArg V.b (Option.some.inj hp)))) ?_
                      refine WQ_end ?_
                      exact ⟨rfl, rfl, g₇_113, g₇_114, g₇_115, g₇_124, g₇_125, g₇_126, g₇_13, g₇_14, rfl, g₇_3, g₇_4, g₇_5, g₇_7, g₇_8⟩
                    · skip
                      refine WQ_off rfl b₁₅ ?_
                      refine WQ_off rfl b₁₅ ?_
                      refine WQ_off rfl b₁₅ ?_
                      refine WQ_off rfl b₁₅ ?_
                      refine WQ_off rfl b₁₅ ?_
                      refine WQ_off rfl b₁₅ ?_
                      refine WQ_off rfl b₁₅ ?_
                      refine WQ_off rfl b₁₅ ?_
                      refine WQ_off rfl b₁₅ ?_
                      refine WQ_off rfl b₁₅ ?_
                      refine WQ_off rfl b₁₅ ?_
                      refine WQ_off rfl b₁₅ ?_
                      refine WQ_on rfl b₁₄ ?_
                      refine WQ_v rfl (a_pickF (t := (decide (0 < x8))) (v := .b t5) rfl b₁₅ (Eq.trans (b := V.b false) rfl (congrArg V.b (Option.some.inj hp)))) ?_
                      refine WQ_end ?_
                      exact ⟨rfl, rfl, g₇_113, g₇_114, g₇_115, g₇_124, g₇_125, g₇_126, g₇_13, g₇_14, rfl, g₇_3, g₇_4, g₇_5, g₇_7, g₇_8⟩
                  rintro frg₈ _ ⟨rfl, g₈_169, g₈_113, g₈_114, g₈_115, g₈_124, g₈_125, g₈_126, g₈_13, g₈_14, g₈_153, g₈_3, g₈_4, g₈_5, g₈_7, g₈_8⟩
                  refine WQ_v rfl (a_pickF (t := t3) (v := .b t4) g₈_153 b₁₄ (Eq.trans (b := V.b t5) g₈_169 (congrArg V.b (Option.some.inj hp)))) ?_
                  refine WQ_end ?_
                  exact ⟨rfl, rfl, g₈_113, g₈_114, g₈_115, g₈_124, g₈_125, g₈_126, g₈_13, g₈_14, g₈_3, g₈_4, g₈_5, g₈_7, g₈_8⟩
              rintro frg₉ _ ⟨rfl, g₉_170, g₉_113, g₉_114, g₉_115, g₉_124, g₉_125, g₉_126, g₉_13, g₉_14, g₉_3, g₉_4, g₉_5, g₉_7, g₉_8⟩
              refine WQ_end ?_
              refine then_n ?_
              rcases if_some hp with ⟨b₁₆, hp⟩ | ⟨b₁₆, hp⟩
              · refine W_cT (t := t4) g₉_170 b₁₆ ?_
                refine W_sq ?_
                refine W_rg ?_
                refine WO_v (a_mv (v := .b false) rfl) ?_
                refine WO_end ?_
                refine then_n ?_
                refine W_rt ?_
                refine blk_r ?_
                refine then_r ?_
                have hp := Option.some.inj hp; subst hp
                refine (Or.inr (Exists.intro (.inr ()) (And.intro rfl (And.intro (fun h => nomatch h) (fun he => ?_)))))
                subst he; exact (And.intro rfl (And.intro (rfl) (hO₁₆.pick [] rfl (by decide))))
              · refine W_cF (t := t4) g₉_170 b₁₆ ?_
                refine W_sk ?_
                refine blk_n ?_
                refine then_n ?_
                refine W_rg ?_
                obtain ⟨c₂₃, hp⟩ := ck_some hp
                refine WO_v (a_add (a := x8) (b := 1) g₉_126 rfl c₂₃) ?_
                refine WO_v (a_mv (v := .i .i64 (x8 + 1)) rfl) ?_
                refine WO_end ?_
                have hp := Option.some.inj hp; subst hp
                exact (Or.inl (Exists.intro (x8 + 1) (And.intro rfl (And.intro rfl (And.intro (g₉_3) (And.intro (g₉_4) (And.intro (g₉_5) (And.intro (g₉_7) (And.intro (g₉_8) (And.intro (g₉_13) (And.intro (g₉_14) (And.intro (g₉_113) (And.intro (g₉_114) (And.intro (g₉_115) (And.intro (g₉_124) (And.intro (g₉_125) (And.intro (rfl) (hO₁₆.pick [0, 1, 2, 3, 4, 5, 6, 7, 8] rfl (by decide)))))))))))))))))))
            · refine W_cF (t := (decide (x8 < ((gi x2.Horz (x7 : Int).toNat).length : Int)))) rfl b₁₂ ?_
              refine W_ex ?_
              refine then_e ?_
              have hp := Option.some.inj hp; subst hp
              refine (Or.inr (Exists.intro (.inl ()) (And.intro rfl (And.intro (fun h => nomatch h) (fun he => ?_)))))
              subst he; exact (And.intro rfl (And.intro (q₈_3) (And.intro (q₈_4) (And.intro (q₈_5) (And.intro (q₈_7) (And.intro (q₈_8) (And.intro (q₈_113) (And.intro (q₈_114) (And.intro (q₈_115) (hO₁₅.pick [0, 1, 2, 3, 4, 5, 6, 7, 8] rfl (by decide)))))))))))
          intro e₄ q₇ k₁₄ hJ₄
          rcases o₇ with _ | _
          · obtain ⟨rfl, q₇_3, q₇_4, q₇_5, q₇_7, q₇_8, q₇_113, q₇_114, q₇_115, hO₁₄⟩ := hJ₄
            refine blk_i ?_
            refine blk_n ?_
            refine then_n ?_
            refine W_rg ?_
            obtain ⟨c₂₄, hp⟩ := ck_some hp
            refine WO_v (a_add (a := x7) (b := 1) q₇_115 rfl c₂₄) ?_
            refine WO_v (a_mv (v := .i .i64 (x7 + 1)) rfl) ?_
            refine WO_end ?_
            have hp := Option.some.inj hp; subst hp
            exact (Or.inl (Exists.intro (m + ((gi x2.Horz (x7 : Int).toNat).length : Int), x7 + 1) (And.intro rfl (And.intro rfl (And.intro (q₇_3) (And.intro (q₇_4) (And.intro (q₇_5) (And.intro (q₇_7) (And.intro (q₇_8) (And.intro (q₇_113) (And.intro (q₇_114) (And.intro (rfl) (hO₁₄.pick [0, 1, 2, 3, 4, 5, 6, 7, 8] rfl (by decide))))))))))))))
          · obtain ⟨rfl, q₇_2, hO₁₄⟩ := hJ₄
            refine blk_r ?_
            refine blk_r ?_
            refine then_r ?_
            have hp := Option.some.inj hp; subst hp
            refine (Or.inr (Exists.intro (.inr ()) (And.intro rfl (And.intro (fun h => nomatch h) (fun he => ?_)))))
            subst he; exact (And.intro rfl (And.intro (q₇_2) (hO₁₄.pick [] rfl (by decide))))
        · refine W_cF (t := (decide (x7 < (x2.Horz.length : Int)))) rfl b₁₁ ?_
          refine W_ex ?_
          refine then_e ?_
          have hp := Option.some.inj hp; subst hp
          refine (Or.inr (Exists.intro (.inl m) (And.intro rfl (And.intro (fun h => nomatch h) (fun he => ?_)))))
          subst he; exact (And.intro rfl (And.intro (q₆_3) (And.intro (q₆_5) (And.intro (q₆_7) (And.intro (q₆_8) (hO₁₃.pick [0, 2, 3, 4, 5, 6, 7, 8] rfl (by decide)))))))
      intro e₃ q₅ k₁₂ hJ₃
      rcases o₅ with m1 | _
      · obtain ⟨rfl, q₅_3, q₅_5, q₅_7, q₅_8, hO₁₂⟩ := hJ₃
        refine blk_i ?_
        refine then_n ?_
        refine W_sq ?_
        refine W_rg ?_
        refine WO_x (hO₁₂.mkm e_A2_i64 hO₁₂.fr) ?_
        rintro _ k₁₇ ⟨r₃, rfl, n₃, f₄, hW⟩
        have hO₁₇ : Own B h k₁₇ [eSl e_T_api_Cell v₁ x, eBox r₂ [v₃, v₄, v₅, v₆], eSl eInt v₃ x2.X, eSl eInt v₄ x2.Y, eSl eV v₅ vs₁, eAll eInt vs₁ x2.Vert, eSl eV v₆ vs₂, eAll eInt vs₂ x2.Horz, eMp e_A2_i64 r₃ ([] : List (A2 Int × Bool))] := hW
        refine WO_v (a_mv (v := .mp r₃) rfl) ?_
        refine WO_end ?_
        refine then_n ?_
        refine W_sq ?_
        refine W_sq ?_
        refine W_rg ?_
        refine WO_v (a_mv (v := v₁) q₅_3) ?_
        refine WO_v (a_len (hO₁₇.sl 0 rfl : Sl e_T_api_Cell k₁₇ v₁ x) rfl) ?_
        refine WO_v (a_mv (v := .i .i64 0) rfl) ?_
        refine WO_end ?_
        refine then_n ?_
        refine W_bl ?_
        obtain ⟨o₉, ho₅, hp⟩ := bd_some hp
        refine W.mono (Q := fun e fr k => match (generalizing := false) o₉ with
            | met1 => e = (.exit 8) ∧ fr 3 = v₁ ∧ fr 7 = .i .i64 n1 ∧ fr 8 = .i .i64 m1 ∧ fr 17 = .mp r₃ ∧ Own B h k [eSl e_T_api_Cell v₁ x, eMp e_A2_i64 r₃ met1]) ?_ ?_
        · clear hp
          refine W_loopF (fun st fr k => match st with | (met, x9) => fr 3 = v₁ ∧ fr 5 = .p r₂ 0 ∧ fr 7 = .i .i64 n1 ∧ fr 8 = .i .i64 m1 ∧ fr 17 = .mp r₃ ∧ fr 175 = .i .i64 (x.length : Int) ∧ fr 176 = .i .i64 x9 ∧ Own B h k [eSl e_T_api_Cell v₁ x, eBox r₂ [v₃, v₄, v₅, v₆], eSl eInt v₃ x2.X, eSl eInt v₄ x2.Y, eSl eV v₅ vs₁, eAll eInt vs₁ x2.Vert, eSl eV v₆ vs₂, eAll eInt vs₂ x2.Horz, eMp e_A2_i64 r₃ met]) ho₅ (s := (([] : List (A2 Int × Bool)), 0)) (And.intro (q₅_3) (And.intro (q₅_5) (And.intro (q₅_7) (And.intro (q₅_8) (And.intro (rfl) (And.intro (rfl) (And.intro (rfl) (hO₁₇.pick [0, 1, 2, 3, 4, 5, 6, 7, 8] rfl (by decide))))))))) ?_
          rintro ⟨met, x9⟩ q₁₀ k₁₉ ⟨q₁₀_3, q₁₀_5, q₁₀_7, q₁₀_8, q₁₀_17, q₁₀_175, q₁₀_176, hO₁₉⟩ o₁₀ hp
          dsimp only [p_muntinlaw16_SegOnce.s4] at hp
          refine W_sq ?_
          refine W_rg ?_
          refine WO_v (a_lss (a := x9) (b := (x.length : Int)) q₁₀_176 q₁₀_175) ?_
          refine WO_end ?_
          refine then_n ?_
          refine W_sq ?_
          rcases if_some hp with ⟨b₁₇, hp⟩ | ⟨b₁₇, hp⟩
          · refine W_cT (t := (decide (x9 < (x.length : Int)))) rfl b₁₇ ?_
            refine W_sk ?_
            refine then_n ?_
            refine W_sq ?_
            refine W_bl ?_
            refine W_sq ?_
            refine W_rg ?_
            refine WO_v (a_mv (v := .i .i64 x9) q₁₀_176) ?_
            refine WO_v (a_mv (v := .i .i64 x9) rfl) ?_
            refine WO_end ?_
            refine then_n ?_
            refine W_dr ?_
            have hW := hO₁₉.bump 13
            have fr₁ := Fresh.start k₁₉ 13
            have nb₁ : ∀ {i : Nat}, h.n ≤ k₁₉.n + i := Nat.le_trans hO₁₉.n (Nat.le_add_right _ _)
            have hO₂₀ : Own B h (k₁₉.bump 13) [eSl e_T_api_Cell v₁ x, eBox r₂ [v₃, v₄, v₅, v₆], eSl eInt v₃ x2.X, eSl eInt v₄ x2.Y, eSl eV v₅ vs₁, eAll eInt vs₁ x2.Vert, eSl eV v₆ vs₂, eAll eInt vs₂ x2.Horz, eMp e_A2_i64 r₃ met] := hW
            refine WD_v (a_mv (v := .mp r₃) q₁₀_17) ?_
            refine WD_v (a_fa (r := r₂) (o := 0) (o' := 0) q₁₀_5 rfl) ?_
            refine WD_v (a_ldb (cs := [v₃, v₄, v₅, v₆]) (v := v₃) (hO₂₀.box 1 rfl) rfl rfl) ?_
            refine WD_v (a_mv (v := .i .i64 x9) rfl) ?_
            obtain ⟨c₂₅, hp⟩ := ck_some hp
            refine WD_v (a_ixa (E := eInt) (z := x9) (hO₂₀.sl 2 rfl : Sl eInt (k₁₉.bump 13) v₃ x2.X) rfl rfl c₂₅) ?_
            refine WD_v (a_ldE (w := .i .i64 (gi x2.X (x9 : Int).toNat)) (hO₂₀.sl 2 rfl : Sl eInt (k₁₉.bump 13) v₃ x2.X) rfl (toNat_lt c₂₅) rfl) ?_
            refine WD_v (a_fa (r := r₂) (o := 0) (o' := 1) q₁₀_5 rfl) ?_
            refine WD_v (a_ldb (cs := [v₃, v₄, v₅, v₆]) (v := v₄) (hO₂₀.box 1 rfl) rfl rfl) ?_
            refine WD_v (a_mv (v := .i .i64 x9) rfl) ?_
            obtain ⟨c₂₆, hp⟩ := ck_some hp
            refine WD_v (a_ixa (E := eInt) (z := x9) (hO₂₀.sl 3 rfl : Sl eInt (k₁₉.bump 13) v₄ x2.Y) rfl rfl c₂₆) ?_
            refine WD_v (a_ldE (w := .i .i64 (gi x2.Y (x9 : Int).toNat)) (hO₂₀.sl 3 rfl : Sl eInt (k₁₉.bump 13) v₄ x2.Y) rfl (toNat_lt c₂₆) rfl) ?_
            refine WD_v (a_build (cs := e_A2_i64.c (⟨gi x2.X (x9 : Int).toNat, gi x2.Y (x9 : Int).toNat⟩ : A2 Int)) (by rw [(ev_cons (v := .i .i64 (gi x2.X (x9 : Int).toNat)) rfl (ev_cons (v := .i .i64 (gi x2.Y (x9 : Int).toNat)) rfl ev_nil))]; rfl)) ?_
            refine WD_x (hO₂₀.mup (E := e_A2_i64) (m := met) (q := (⟨gi x2.X (x9 : Int).toNat, gi x2.Y (x9 : Int).toNat⟩ : A2 Int)) (v := true) 8 rfl rfl rfl rfl (Mu.e_A2_i64.same)) ?_
            rintro _ k₂₁ z₁ ⟨rfl, f₅, m₂, hW⟩
            have fr₂ := fr₁.kept f₅ (by decide)
            have hO₂₁ : Own B h k₂₁ [eSl e_T_api_Cell v₁ x, eBox r₂ [v₃, v₄, v₅, v₆], eSl eInt v₃ x2.X, eSl eInt v₄ x2.Y, eSl eV v₅ vs₁, eAll eInt vs₁ x2.Vert, eSl eV v₆ vs₂, eAll eInt vs₂ x2.Horz, eMp e_A2_i64 r₃ (mpSet (⟨gi x2.X (x9 : Int).toNat, gi x2.Y (x9 : Int).toNat⟩ : A2 Int) true met)] := hW
            refine WD_end ?_
            refine And.intro ?_ ?_
            · intro q hq
              simp only [List.mem_cons, List.not_mem_nil, or_false] at hq
              rcases hq with rfl | rfl | rfl | rfl
              · refine ap_ll ?_ ?_
                · exact (fun h => nomatch h)
                · exact (fun h => nomatch h)
              · refine ap_ll ?_ ?_
                · exact (fun h => nomatch h)
                · exact (fun h => nomatch h)
              · refine ap_ll ?_ ?_
                · exact (fun h => nomatch h)
                · exact (fun h => nomatch h)
              · refine ap_ll ?_ ?_
                · exact (fun h => nomatch h)
                · exact (fun h => nomatch h)
            refine blk_n ?_
            refine then_n ?_
            refine W_rg ?_
            obtain ⟨c₂₇, hp⟩ := ck_some hp
            refine WO_v (a_add (a := x9) (b := 1) q₁₀_176 rfl c₂₇) ?_
            refine WO_v (a_mv (v := .i .i64 (x9 + 1)) rfl) ?_
            refine WO_end ?_
            have hp := Option.some.inj hp; subst hp
            exact (Or.inl (Exists.intro (mpSet (⟨gi x2.X (x9 : Int).toNat, gi x2.Y (x9 : Int).toNat⟩ : A2 Int) true met, x9 + 1) (And.intro rfl (And.intro rfl (And.intro (q₁₀_3) (And.intro (q₁₀_5) (And.intro (q₁₀_7) (And.intro (q₁₀_8) (And.intro (q₁₀_17) (And.intro (q₁₀_175) (And.intro (rfl) (hO₂₁.pick [0, 1, 2, 3, 4, 5, 6, 7, 8] rfl (by decide)))))))))))))
          · refine W_cF (t := (decide (x9 < (x.length : Int)))) rfl b₁₇ ?_
            refine W_ex ?_
            refine then_e ?_
            have hp := Option.some.inj hp; subst hp
            refine (Or.inr (Exists.intro met (And.intro rfl (And.intro (fun h => nomatch h) (fun he => ?_)))))
            subst he; exact (And.intro rfl (And.intro (q₁₀_3) (And.intro (q₁₀_7) (And.intro (q₁₀_8) (And.intro (q₁₀_17) (hO₁₉.pick [0, 8] rfl (by decide)))))))
        intro e₅ q₉ k₁₈ hJ₅
        obtain ⟨met1, rfl⟩ : ∃ x, x = o₉ := ⟨_, rfl⟩
        obtain ⟨rfl, q₉_3, q₉_7, q₉_8, q₉_17, hO₁₈⟩ := hJ₅
        refine blk_i ?_
        refine then_n ?_
        refine W_sq ?_
        refine W_rg ?_
        refine WO_v (a_mv (v := .i .i64 n1) q₉_7) ?_
        refine WO_v (a_mv (v := v₁) q₉_3) ?_
        refine WO_v (a_len (hO₁₈.sl 0 rfl : Sl e_T_api_Cell k₁₈ v₁ x) rfl) ?_
        refine WO_v (a_eqI (a := n1) (b := (x.length : Int)) rfl rfl) ?_
        refine WO_v (a_mv (v := .b (decide (n1 = (x.length : Int)))) rfl) ?_
        refine WO_cut 5 (fun fr' k' => k₁₈ = k' ∧ fr' 201 = .b ((decide (n1 = (x.length : Int))) && (decide (m1 = (x.length : Int)))) ∧ fr' 17 = .mp r₃ ∧ fr' 3 = v₁) ?_ ?_
        · rcases bc (decide (n1 = (x.length : Int))) with b₁₈ | b₁₈
          · skip
            refine WO_on rfl b₁₈ ?_
            refine WO_v (a_mv (v := .i .i64 m1) q₉_8) ?_
            refine WO_on rfl b₁₈ ?_
            refine WO_v (a_mv (v := v₁) q₉_3) ?_
            refine WO_on rfl b₁₈ ?_
            refine WO_v (a_len (hO₁₈.sl 0 rfl : Sl e_T_api_Cell k₁₈ v₁ x) rfl) ?_
            refine WO_on rfl b₁₈ ?_
            refine WO_v (a_eqI (a := m1) (b := (x.length : Int)) rfl rfl) ?_
            refine WO_v (a_pickT (t := (decide (n1 = (x.length : Int)))) (v := .b ((decide (n1 = (x.length : Int))) && (decide (m1 = (x.length : Int))))) rfl b₁₈ (Eq.trans (b := V.b (decide (m1 = (x.length : Int)))) rfl (and_on b₁₈))) ?_
            refine WO_end ?_
            exact ⟨rfl, rfl, q₉_17, q₉_3⟩
          · skip
            refine WO_off rfl b₁₈ ?_
            refine WO_off rfl b₁₈ ?_
            refine WO_off rfl b₁₈ ?_
            refine WO_off rfl b₁₈ ?_
            refine WO_v (a_pickF (t := (decide (n1 = (x.length : Int)))) (v := .b ((decide (n1 = (x.length : Int))) && (decide (m1 = (x.length : Int))))) rfl b₁₈ (Eq.trans (b := V.b false) rfl (and_off b₁₈))) ?_
            refine WO_end ?_
            exact ⟨rfl, rfl, q₉_17, q₉_3⟩
        rintro frg₁₀ _ ⟨rfl, g₁₀_201, g₁₀_17, g₁₀_3⟩
        refine WO_v (a_mv (v := .b ((decide (n1 = (x.length : Int))) && (decide (m1 = (x.length : Int))))) g₁₀_201) ?_
        refine WO_cut 6 (fun fr' k' => k₁₈ = k' ∧ fr' 208 = .b (((decide (n1 = (x.length : Int))) && (decide (m1 = (x.length : Int)))) && (decide ((met1.length : Int) = (x.length : Int))))) ?_ ?_
        · rcases bc ((decide (n1 = (x.length : Int))) && (decide (m1 = (x.length : Int)))) with b₁₉ | b₁₉
          · skip
            refine WO_on rfl b₁₉ ?_
            refine WO_v (a_mv (v := .mp r₃) g₁₀_17) ?_
            refine WO_on rfl b₁₉ ?_
            refine WO_v (a_mlen (hO₁₈.mpP 1 rfl) rfl) ?_
            refine WO_on rfl b₁₉ ?_
            refine WO_v (a_mv (v := v₁) g₁₀_3) ?_
            refine WO_on rfl b₁₉ ?_
            refine WO_v (a_len (hO₁₈.sl 0 rfl : Sl e_T_api_Cell k₁₈ v₁ x) rfl) ?_
            refine WO_on rfl b₁₉ ?_
            refine WO_v (a_eqI (a := (met1.length : Int)) (b := (x.length : Int)) rfl rfl) ?_
            refine WO_v (a_pickT (t := ((decide (n1 = (x.length : Int))) && (decide (m1 = (x.length : Int))))) (v := .b (((decide (n1 = (x.length : Int))) && (decide (m1 = (x.length : Int)))) && (decide ((met1.length : Int) = (x.length : Int))))) rfl b₁₉ (Eq.trans (b := V.b (decide ((met1.length : Int) = (x.length : Int)))) rfl (and_on b₁₉))) ?_
            refine WO_end ?_
            exact ⟨rfl, rfl⟩
          · skip
            refine WO_off rfl b₁₉ ?_
            refine WO_off rfl b₁₉ ?_
            refine WO_off rfl b₁₉ ?_
            refine WO_off rfl b₁₉ ?_
            refine WO_off rfl b₁₉ ?_
            refine WO_v (a_pickF (t := ((decide (n1 = (x.length : Int))) && (decide (m1 = (x.length : Int))))) (v := .b (((decide (n1 = (x.length : Int))) && (decide (m1 = (x.length : Int)))) && (decide ((met1.length : Int) = (x.length : Int))))) rfl b₁₉ (Eq.trans (b := V.b false) rfl (and_off b₁₉))) ?_
            refine WO_end ?_
            exact ⟨rfl, rfl⟩
        rintro frg₁₁ _ ⟨rfl, g₁₁_208⟩
        refine WO_v (a_mv (v := .b (((decide (n1 = (x.length : Int))) && (decide (m1 = (x.length : Int)))) && (decide ((met1.length : Int) = (x.length : Int))))) g₁₁_208) ?_
        refine WO_end ?_
        refine then_n ?_
        refine W_rt ?_
        refine Ret_r (rs_t (n := 2) (v := .b (((decide (n1 = (x.length : Int))) && (decide (m1 = (x.length : Int)))) && (decide ((met1.length : Int) = (x.length : Int))))) rfl rs_nil) ?_
        have hp := Option.some.inj hp; subst hp
        exact (And.intro rfl (hO₁₈.pick [] rfl (by decide)))
      · obtain ⟨rfl, q₅_2, hO₁₂⟩ := hJ₃
        refine blk_r ?_
        refine then_r ?_
        refine Ret_r (rs_t (n := 2) (v := .b false) q₅_2 rs_nil) ?_
        have hp := Option.some.inj hp; subst hp
        exact (And.intro rfl (hO₁₂.pick [] rfl (by decide)))
    · obtain ⟨rfl, q₁_2, hO₇⟩ := hJ₁
      refine blk_r ?_
      refine then_r ?_
      refine Ret_r (rs_t (n := 2) (v := .b false) q₁_2 rs_nil) ?_
      have hp := Option.some.inj hp; subst hp
      exact (And.intro rfl (hO₇.pick [] rfl (by decide)))

end Mu
