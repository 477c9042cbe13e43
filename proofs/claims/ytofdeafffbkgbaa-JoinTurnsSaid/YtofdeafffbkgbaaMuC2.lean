/- The code comes to what was worked out. -/
import Derived.Test.YtofdeafffbkgbaaMuDf
import Derived.Test.YtofdeafffbkgbaaMuPa
import Derived.Test.YtofdeafffbkgbaaMuC1
set_option linter.unusedVariables false
set_option linter.unnecessarySimpa false
set_option linter.unusedSimpArgs false
set_option maxHeartbeats 2000000
set_option maxRecDepth 10000
namespace Mu
open Go (IntKind BinOp UnOp)
theorem p_muntinlaw13_JoinTurns.ok {h : Hp} {z : T_muntinref10_Places} {at_ : A2 Int} {v_z_At : V} {v_z_Bits : V} {v_z_Own : V} (s_z_At : Sl e_u8 h v_z_At z.At) (s_z_Bits : Sl e_u8 h v_z_Bits z.Bits) (s_z_Own : Sl e_i8 h v_z_Own z.Own) {r : Bool} (hp : p_muntinlaw13_JoinTurns z at_ = some r) :
    ∃ u k', Is G 103 [.ag [v_z_At, v_z_Bits, v_z_Own], .ag (e_A2_u8.c at_)] h u k' ∧ V.b r = u ∧ Own (fun r => r < h.n) h k' [] := by
  refine WC.is (WC_of G_F_muntinlaw13_JoinTurns ?_)
  unfold p_muntinlaw13_JoinTurns at hp
  let B : Nat → Prop := (fun r => r < h.n)
  have hO : Own B h h [] := Own.start0 h
  refine W_sq ?_
  refine W_rg ?_
  refine WO_x (hO.boxd (v := .ag [v_z_At, v_z_Bits, v_z_Own]) (cs := [v_z_At, v_z_Bits, v_z_Own]) hO.fr rfl rfl) ?_
  rintro _ k₁ ⟨r₁, rfl, n₁, f₁, hW⟩
  have hO₁ : Own B h k₁ [eBox r₁ [v_z_At, v_z_Bits, v_z_Own]] := hW
  refine WO_x (hO₁.boxd (v := .ag (e_A2_u8.c at_)) (cs := e_A2_u8.c at_) hO₁.fr rfl rfl) ?_
  rintro _ k₂ ⟨r₂, rfl, n₂, f₂, hW⟩
  have hO₂ : Own B h k₂ [eBox r₁ [v_z_At, v_z_Bits, v_z_Own], eBox r₂ (e_A2_u8.c at_)] := hW
  refine WO_v (a_mv (v := .b false) rfl) ?_
  refine WO_end ?_
  refine then_n ?_
  refine W_sq ?_
  refine W_rg ?_
  refine WO_v (a_ldbA (cs := [v_z_At, v_z_Bits, v_z_Own]) (ws := [v_z_At, v_z_Bits, v_z_Own]) (hO₂.box 0 rfl) rfl rfl) ?_
  obtain ⟨⟨x, x1⟩, hx₁, hp⟩ := bd_some hp
  obtain ⟨u₁, k₃, ca₁, v₁, v₂, rfl, hW₁⟩ := p_muntinref10_Make.ok (h := k₂)  (hO₂.rd0 s_z_At.rd : Sl e_u8 k₂ v_z_At z.At) (hO₂.rd0 s_z_Bits.rd : Sl e_u8 k₂ v_z_Bits z.Bits) (hO₂.rd0 s_z_Own.rd : Sl e_i8 k₂ v_z_Own z.Own) hx₁
  refine WO_c (id := 28) (caps := []) rfl (mp_cons (v := .ag [v_z_At, v_z_Bits, v_z_Own]) rfl (mp_cons (v := .i .i64 16) rfl mp_nil)) ca₁ ?_
  have hO₃ : Own B h k₃ [eBox r₁ [v_z_At, v_z_Bits, v_z_Own], eBox r₂ (e_A2_u8.c at_), eSl e_T_api_Cell v₁ x, eSl e_T_api_Point v₂ x1] := hO₂.call hW₁ rfl
  refine WO_v (a_mv (v := .tu [v₁, v₂]) rfl) ?_
  refine WO_v (a_ext (vs := [v₁, v₂]) (v := v₁) rfl rfl) ?_
  refine WO_v (a_ext (vs := [v₁, v₂]) (v := v₂) rfl rfl) ?_
  refine WO_v (a_mv (v := v₁) rfl) ?_
  refine WO_v (a_mv (v := v₂) rfl) ?_
  refine WO_end ?_
  refine then_n ?_
  refine W_sq ?_
  refine W_rg ?_
  refine WO_v (a_mv (v := v₁) rfl) ?_
  obtain ⟨⟨x2, x3⟩, hx₂, hp⟩ := bd_some hp
  obtain ⟨u₂, k₄, ca₂, v₃, vs₁, rfl, hW₂⟩ := p_join_Parts.ok (h := k₃)  (hO₃.sl 2 rfl : Sl e_T_api_Cell k₃ v₁ x) hx₂
  refine WO_c (id := 29) (caps := []) rfl (mp_cons (v := v₁) rfl mp_nil) ca₂ ?_
  have hO₄ : Own B h k₄ [eBox r₁ [v_z_At, v_z_Bits, v_z_Own], eBox r₂ (e_A2_u8.c at_), eSl e_T_api_Cell v₁ x, eSl e_T_api_Point v₂ x1, eSl eV v₃ vs₁, eAll eInt vs₁ x2] := hO₃.call hW₂ rfl
  refine WO_v (a_mv (v := .tu [v₃, .i .i64 x3]) rfl) ?_
  refine WO_v (a_ext (vs := [v₃, .i .i64 x3]) (v := v₃) rfl rfl) ?_
  refine WO_v (a_ext (vs := [v₃, .i .i64 x3]) (v := .i .i64 x3) rfl rfl) ?_
  refine WO_v (a_mv (v := v₃) rfl) ?_
  refine WO_v (a_mv (v := .i .i64 x3) rfl) ?_
  refine WO_end ?_
  refine then_n ?_
  refine W_sq ?_
  refine W_rg ?_
  refine WO_v (a_mv (v := v₁) rfl) ?_
  obtain ⟨x4, hx₃, hp⟩ := bd_some hp
  obtain ⟨u₃, k₅, ca₃, v₄, rfl, hW₃⟩ := p_muntinref10_Turned.ok (h := k₄)  (hO₄.sl 2 rfl : Sl e_T_api_Cell k₄ v₁ x) hx₃
  refine WO_c (id := 116) (caps := []) rfl (mp_cons (v := v₁) rfl mp_nil) ca₃ ?_
  have hO₅ : Own B h k₅ [eBox r₁ [v_z_At, v_z_Bits, v_z_Own], eBox r₂ (e_A2_u8.c at_), eSl e_T_api_Cell v₁ x, eSl e_T_api_Point v₂ x1, eSl eV v₃ vs₁, eAll eInt vs₁ x2, eSl e_T_api_Cell v₄ x4] := hO₄.call hW₃ rfl
  obtain ⟨⟨x5, x6⟩, hx₄, hp⟩ := bd_some hp
  obtain ⟨u₄, k₆, ca₄, v₅, vs₂, rfl, hW₄⟩ := p_join_Parts.ok (h := k₅)  (hO₅.sl 6 rfl : Sl e_T_api_Cell k₅ v₄ x4) hx₄
  refine WO_c (id := 29) (caps := []) rfl (mp_cons (v := v₄) rfl mp_nil) ca₄ ?_
  have hO₆ : Own B h k₆ [eBox r₁ [v_z_At, v_z_Bits, v_z_Own], eBox r₂ (e_A2_u8.c at_), eSl e_T_api_Cell v₁ x, eSl e_T_api_Point v₂ x1, eSl eV v₃ vs₁, eAll eInt vs₁ x2, eSl e_T_api_Cell v₄ x4, eSl eV v₅ vs₂, eAll eInt vs₂ x5] := hO₅.call hW₄ rfl
  refine WO_v (a_mv (v := .tu [v₅, .i .i64 x6]) rfl) ?_
  refine WO_v (a_ext (vs := [v₅, .i .i64 x6]) (v := v₅) rfl rfl) ?_
  refine WO_v (a_ext (vs := [v₅, .i .i64 x6]) (v := .i .i64 x6) rfl rfl) ?_
  refine WO_v (a_mv (v := v₅) rfl) ?_
  refine WO_v (a_mv (v := .i .i64 x6) rfl) ?_
  refine WO_end ?_
  refine then_n ?_
  refine W_sq ?_
  refine W_sq ?_
  refine W_rg ?_
  obtain ⟨x7, hx₅, hp⟩ := bd_some hp
  obtain ⟨u₅, k₇, ca₅, rfl, hW₅⟩ := p_muntinlaw13_wakes.ok (h := k₆)   hx₅
  refine WO_c (id := 31) (caps := []) rfl mp_nil ca₅ ?_
  have hO₇ : Own B h k₇ [eBox r₁ [v_z_At, v_z_Bits, v_z_Own], eBox r₂ (e_A2_u8.c at_), eSl e_T_api_Cell v₁ x, eSl e_T_api_Point v₂ x1, eSl eV v₃ vs₁, eAll eInt vs₁ x2, eSl e_T_api_Cell v₄ x4, eSl eV v₅ vs₂, eAll eInt vs₂ x5] := hO₆.call hW₅ rfl
  refine WO_v (a_not (t := x7) rfl) ?_
  refine WO_v (a_mv (v := .b (!x7)) rfl) ?_
  refine WO_cut 3 (fun fr' k' => k₇ = k' ∧ fr' 42 = .b ((!x7) || (!(decide (x3 = 0)))) ∧ fr' 10 = .i .i64 x6 ∧ fr' 3 = .p r₂ 0 ∧ fr' 5 = v₁ ∧ fr' 7 = v₃ ∧ fr' 9 = v₅) ?_ ?_
  · rcases bc (!x7) with b₁ | b₁
    · skip
      refine WO_off rfl b₁ ?_
      refine WO_off rfl b₁ ?_
      refine WO_v (a_pickT (t := (!x7)) (v := .b ((!x7) || (!(decide (x3 = 0))))) rfl b₁ (Eq.trans (b := V.b true) rfl (or_off b₁))) ?_
      refine WO_end ?_
      exact ⟨rfl, rfl, rfl, rfl, rfl, rfl, rfl⟩
    · skip
      refine WO_on rfl b₁ ?_
      refine WO_v (a_mv (v := .i .i64 x3) rfl) ?_
      refine WO_on rfl b₁ ?_
      refine WO_v (a_neI (a := x3) (b := 0) rfl rfl) ?_
      refine WO_v (a_pickF (t := (!x7)) (v := .b ((!x7) || (!(decide (x3 = 0))))) rfl b₁ (Eq.trans (b := V.b (!(decide (x3 = 0)))) rfl (or_on b₁))) ?_
      refine WO_end ?_
      exact ⟨rfl, rfl, rfl, rfl, rfl, rfl, rfl⟩
  rintro frg₁ _ ⟨rfl, g₁_42, g₁_10, g₁_3, g₁_5, g₁_7, g₁_9⟩
  refine WO_v (a_mv (v := .b ((!x7) || (!(decide (x3 = 0))))) g₁_42) ?_
  refine WO_cut 3 (fun fr' k' => k₇ = k' ∧ fr' 46 = .b (((!x7) || (!(decide (x3 = 0)))) || (!(decide (x6 = 0)))) ∧ fr' 3 = .p r₂ 0 ∧ fr' 5 = v₁ ∧ fr' 7 = v₃ ∧ fr' 9 = v₅) ?_ ?_
  · rcases bc ((!x7) || (!(decide (x3 = 0)))) with b₂ | b₂
    · skip
      refine WO_off rfl b₂ ?_
      refine WO_off rfl b₂ ?_
      refine WO_v (a_pickT (t := ((!x7) || (!(decide (x3 = 0))))) (v := .b (((!x7) || (!(decide (x3 = 0)))) || (!(decide (x6 = 0))))) rfl b₂ (Eq.trans (b := V.b true) rfl (or_off b₂))) ?_
      refine WO_end ?_
      exact ⟨rfl, rfl, g₁_3, g₁_5, g₁_7, g₁_9⟩
    · skip
      refine WO_on rfl b₂ ?_
      refine WO_v (a_mv (v := .i .i64 x6) g₁_10) ?_
      refine WO_on rfl b₂ ?_
      refine WO_v (a_neI (a := x6) (b := 0) rfl rfl) ?_
      refine WO_v (a_pickF (t := ((!x7) || (!(decide (x3 = 0))))) (v := .b (((!x7) || (!(decide (x3 = 0)))) || (!(decide (x6 = 0))))) rfl b₂ (Eq.trans (b := V.b (!(decide (x6 = 0)))) rfl (or_on b₂))) ?_
      refine WO_end ?_
      exact ⟨rfl, rfl, g₁_3, g₁_5, g₁_7, g₁_9⟩
  rintro frg₂ _ ⟨rfl, g₂_46, g₂_3, g₂_5, g₂_7, g₂_9⟩
  refine WO_v (a_mv (v := .b (((!x7) || (!(decide (x3 = 0)))) || (!(decide (x6 = 0))))) g₂_46) ?_
  refine WO_cut 6 (fun fr' k' => k₇ = k' ∧ fr' 53 = .b ((((!x7) || (!(decide (x3 = 0)))) || (!(decide (x6 = 0)))) || (!(decide ((x2.length : Int) = (x5.length : Int))))) ∧ fr' 3 = .p r₂ 0 ∧ fr' 5 = v₁ ∧ fr' 7 = v₃ ∧ fr' 9 = v₅) ?_ ?_
  · rcases bc (((!x7) || (!(decide (x3 = 0)))) || (!(decide (x6 = 0)))) with b₃ | b₃
    · skip
      refine WO_off rfl b₃ ?_
      refine WO_off rfl b₃ ?_
      refine WO_off rfl b₃ ?_
      refine WO_off rfl b₃ ?_
      refine WO_off rfl b₃ ?_
      refine WO_v (a_pickT (t := (((!x7) || (!(decide (x3 = 0)))) || (!(decide (x6 = 0))))) (v := .b ((((!x7) || (!(decide (x3 = 0)))) || (!(decide (x6 = 0)))) || (!(decide ((x2.length : Int) = (x5.length : Int)))))) rfl b₃ (Eq.trans (b := V.b true) rfl (or_off b₃))) ?_
      refine WO_end ?_
      exact ⟨rfl, rfl, g₂_3, g₂_5, g₂_7, g₂_9⟩
    · skip
      refine WO_on rfl b₃ ?_
      refine WO_v (a_mv (v := v₃) g₂_7) ?_
      refine WO_on rfl b₃ ?_
      refine WO_v (a_lenN (n := (x2).length) (hO₇.sl 4 rfl : Sl eV k₇ v₃ vs₁) (hO₇.allLen 5 rfl : (vs₁).length = (x2).length) rfl) ?_
      refine WO_on rfl b₃ ?_
      refine WO_v (a_mv (v := v₅) g₂_9) ?_
      refine WO_on rfl b₃ ?_
      refine WO_v (a_lenN (n := (x5).length) (hO₇.sl 7 rfl : Sl eV k₇ v₅ vs₂) (hO₇.allLen 8 rfl : (vs₂).length = (x5).length) rfl) ?_
      refine WO_on rfl b₃ ?_
      refine WO_v (a_neI (a := (x2.length : Int)) (b := (x5.length : Int)) rfl rfl) ?_
      refine WO_v (a_pickF (t := (((!x7) || (!(decide (x3 = 0)))) || (!(decide (x6 = 0))))) (v := .b ((((!x7) || (!(decide (x3 = 0)))) || (!(decide (x6 = 0)))) || (!(decide ((x2.length : Int) = (x5.length : Int)))))) rfl b₃ (Eq.trans (b := V.b (!(decide ((x2.length : Int) = (x5.length : Int))))) rfl (or_on b₃))) ?_
      refine WO_end ?_
      exact ⟨rfl, rfl, g₂_3, g₂_5, g₂_7, g₂_9⟩
  rintro frg₃ _ ⟨rfl, g₃_53, g₃_3, g₃_5, g₃_7, g₃_9⟩
  refine WO_end ?_
  refine then_n ?_
  rcases if_some hp with ⟨b₄, hp⟩ | ⟨b₄, hp⟩
  · refine W_cT (t := ((((!x7) || (!(decide (x3 = 0)))) || (!(decide (x6 = 0)))) || (!(decide ((x2.length : Int) = (x5.length : Int)))))) g₃_53 b₄ ?_
    refine W_sq ?_
    refine W_rg ?_
    refine WO_v (a_mv (v := .b false) rfl) ?_
    refine WO_end ?_
    refine then_n ?_
    refine W_rt ?_
    refine then_r ?_
    refine Ret_r (rs_t (n := 4) (v := .b false) rfl rs_nil) ?_
    have hp := Option.some.inj hp; subst hp
    exact (And.intro rfl (hO₇.pick [] rfl (by decide)))
  · refine W_cF (t := ((((!x7) || (!(decide (x3 = 0)))) || (!(decide (x6 = 0)))) || (!(decide ((x2.length : Int) = (x5.length : Int)))))) g₃_53 b₄ ?_
    refine W_sk ?_
    refine then_n ?_
    refine W_sq ?_
    refine W_sq ?_
    refine W_rg ?_
    refine WO_v (a_mv (v := v₃) g₃_7) ?_
    refine WO_v (a_lenN (n := (x2).length) (hO₇.sl 4 rfl : Sl eV k₇ v₃ vs₁) (hO₇.allLen 5 rfl : (vs₁).length = (x2).length) rfl) ?_
    refine WO_v (a_mv (v := .i .i64 0) rfl) ?_
    refine WO_end ?_
    refine then_n ?_
    refine W_bl ?_
    obtain ⟨o₁, ho₁, hp⟩ := bd_some hp
    refine W.mono (Q := fun e fr k => match (generalizing := false) o₁ with
        | .inl _ => e = (.exit 0) ∧ fr 3 = .p r₂ 0 ∧ fr 5 = v₁ ∧ fr 7 = v₃ ∧ Own B h k [eBox r₂ (e_A2_u8.c at_), eSl e_T_api_Cell v₁ x, eSl eV v₃ vs₁, eAll eInt vs₁ x2]
        | .inr _ => e = .ret ∧ fr 4 = .b false ∧ Own B h k []) ?_ ?_
    · clear hp
      refine W_loopF (fun st fr k => match st with | x8 => fr 3 = .p r₂ 0 ∧ fr 5 = v₁ ∧ fr 7 = v₃ ∧ fr 9 = v₅ ∧ fr 55 = .i .i64 (x2.length : Int) ∧ fr 56 = .i .i64 x8 ∧ Own B h k [eBox r₂ (e_A2_u8.c at_), eSl e_T_api_Cell v₁ x, eSl eV v₃ vs₁, eAll eInt vs₁ x2, eSl eV v₅ vs₂, eAll eInt vs₂ x5]) ho₁ (s := 0) (And.intro (g₃_3) (And.intro (g₃_5) (And.intro (g₃_7) (And.intro (g₃_9) (And.intro (rfl) (And.intro (rfl) (hO₇.pick [1, 2, 4, 5, 7, 8] rfl (by decide)))))))) ?_
      rintro x8 q₂ k₉ ⟨q₂_3, q₂_5, q₂_7, q₂_9, q₂_55, q₂_56, hO₉⟩ o₂ hp
      dsimp only [p_muntinlaw13_JoinTurns.s0] at hp
      refine W_sq ?_
      refine W_rg ?_
      refine WO_v (a_lss (a := x8) (b := (x2.length : Int)) q₂_56 q₂_55) ?_
      refine WO_end ?_
      refine then_n ?_
      refine W_sq ?_
      rcases if_some hp with ⟨b₅, hp⟩ | ⟨b₅, hp⟩
      · refine W_cT (t := (decide (x8 < (x2.length : Int)))) rfl b₅ ?_
        refine W_sk ?_
        refine then_n ?_
        refine W_sq ?_
        refine W_bl ?_
        refine W_sq ?_
        refine W_rg ?_
        refine WO_v (a_mv (v := .i .i64 x8) q₂_56) ?_
        refine WO_v (a_mv (v := .i .i64 x8) rfl) ?_
        refine WO_end ?_
        refine then_n ?_
        refine W_sq ?_
        refine W_dr ?_
        have hW := hO₉.bump 10
        have fr₁ := Fresh.start k₉ 10
        have nb₁ : ∀ {i : Nat}, h.n ≤ k₉.n + i := Nat.le_trans hO₉.n (Nat.le_add_right _ _)
        have hO₁₀ : Own B h (k₉.bump 10) [eBox r₂ (e_A2_u8.c at_), eSl e_T_api_Cell v₁ x, eSl eV v₃ vs₁, eAll eInt vs₁ x2, eSl eV v₅ vs₂, eAll eInt vs₂ x5] := hW
        refine WD_v (a_mv (v := v₃) q₂_7) ?_
        refine WD_v (a_mv (v := .i .i64 x8) rfl) ?_
        obtain ⟨c₁, hp⟩ := ck_some hp
        refine WD_v (a_ixa (E := eV) (z := x8) (hO₁₀.sl 2 rfl : Sl eV (k₉.bump 10) v₃ vs₁) rfl rfl (by rw [(hO₁₀.allLen 3 rfl : (vs₁).length = (x2).length)]; exact c₁)) ?_
        refine WD_v (a_ldE (w := (gi vs₁ (x8 : Int).toNat)) (hO₁₀.sl 2 rfl : Sl eV (k₉.bump 10) v₃ vs₁) rfl (by rw [(hO₁₀.allLen 3 rfl : (vs₁).length = (x2).length)]; exact toNat_lt c₁) rfl) ?_
        refine WD_v (a_mv (v := v₅) q₂_9) ?_
        refine WD_v (a_mv (v := .i .i64 x8) rfl) ?_
        obtain ⟨c₂, hp⟩ := ck_some hp
        refine WD_v (a_ixa (E := eV) (z := x8) (hO₁₀.sl 4 rfl : Sl eV (k₉.bump 10) v₅ vs₂) rfl rfl (by rw [(hO₁₀.allLen 5 rfl : (vs₂).length = (x5).length)]; exact c₂)) ?_
        refine WD_v (a_ldE (w := (gi vs₂ (x8 : Int).toNat)) (hO₁₀.sl 4 rfl : Sl eV (k₉.bump 10) v₅ vs₂) rfl (by rw [(hO₁₀.allLen 5 rfl : (vs₂).length = (x5).length)]; exact toNat_lt c₂) rfl) ?_
        obtain ⟨x9, hx₆, hp⟩ := bd_some hp
        obtain ⟨u₆, k₁₁, ca₆, rfl, hW₆⟩ := p_slices_Equal_int.ok (h := (k₉.bump 10))  (hO₁₀.inn 3 rfl (toNat_lt c₁) : Sl eInt (k₉.bump 10) (gi vs₁ (x8 : Int).toNat) (gi x2 (x8 : Int).toNat)) (hO₁₀.inn 5 rfl (toNat_lt c₂) : Sl eInt (k₉.bump 10) (gi vs₂ (x8 : Int).toNat) (gi x5 (x8 : Int).toNat)) hx₆
        refine WD_c (id := 33) (caps := []) rfl (mp_cons (v := (gi vs₁ (x8 : Int).toNat)) rfl (mp_cons (v := (gi vs₂ (x8 : Int).toNat)) rfl mp_nil)) ca₆ ?_
        have fr₂ := fr₁.call hW₆
        have hO₁₁ : Own B h k₁₁ [eBox r₂ (e_A2_u8.c at_), eSl e_T_api_Cell v₁ x, eSl eV v₃ vs₁, eAll eInt vs₁ x2, eSl eV v₅ vs₂, eAll eInt vs₂ x5] := hO₁₀.call hW₆ rfl
        refine WD_v (a_not (t := x9) rfl) ?_
        refine WD_end ?_
        refine And.intro ?_ ?_
        · intro q hq
          simp only [List.mem_cons, List.not_mem_nil, or_false] at hq
          rcases hq with rfl
          · refine ap_ll ?_ ?_
            · exact (fun h => nomatch h)
            · exact (fun h => nomatch h)
        refine then_n ?_
        rcases if_some hp with ⟨b₆, hp⟩ | ⟨b₆, hp⟩
        · refine W_cT (t := (!x9)) rfl b₆ ?_
          refine W_sq ?_
          refine W_rg ?_
          refine WO_v (a_mv (v := .b false) rfl) ?_
          refine WO_end ?_
          refine then_n ?_
          refine W_rt ?_
          refine blk_r ?_
          refine then_r ?_
          have hp := Option.some.inj hp; subst hp
          refine (Or.inr (Exists.intro (.inr ()) (And.intro rfl (And.intro (fun h => nomatch h) (fun he => ?_)))))
          subst he; exact (And.intro rfl (And.intro (rfl) (hO₁₁.pick [] rfl (by decide))))
        · refine W_cF (t := (!x9)) rfl b₆ ?_
          refine W_sk ?_
          refine blk_n ?_
          refine then_n ?_
          refine W_rg ?_
          obtain ⟨c₃, hp⟩ := ck_some hp
          refine WO_v (a_add (a := x8) (b := 1) q₂_56 rfl c₃) ?_
          refine WO_v (a_mv (v := .i .i64 (x8 + 1)) rfl) ?_
          refine WO_end ?_
          have hp := Option.some.inj hp; subst hp
          exact (Or.inl (Exists.intro (x8 + 1) (And.intro rfl (And.intro rfl (And.intro (q₂_3) (And.intro (q₂_5) (And.intro (q₂_7) (And.intro (q₂_9) (And.intro (q₂_55) (And.intro (rfl) (hO₁₁.pick [0, 1, 2, 3, 4, 5] rfl (by decide))))))))))))
      · refine W_cF (t := (decide (x8 < (x2.length : Int)))) rfl b₅ ?_
        refine W_ex ?_
        refine then_e ?_
        have hp := Option.some.inj hp; subst hp
        refine (Or.inr (Exists.intro (.inl ()) (And.intro rfl (And.intro (fun h => nomatch h) (fun he => ?_)))))
        subst he; exact (And.intro rfl (And.intro (q₂_3) (And.intro (q₂_5) (And.intro (q₂_7) (hO₉.pick [0, 1, 2, 3] rfl (by decide))))))
    intro e₁ q₁ k₈ hJ₁
    rcases o₁ with _ | _
    · obtain ⟨rfl, q₁_3, q₁_5, q₁_7, hO₈⟩ := hJ₁
      refine blk_i ?_
      refine then_n ?_
      refine W_sq ?_
      refine W_rg ?_
      refine WO_v (a_mv (v := v₁) q₁_5) ?_
      refine WO_v (a_ixaa (o := 0) (o' := 0) (z := 0) q₁_3 rfl (by decide) rfl) ?_
      refine WO_v (a_ldb (cs := (e_A2_u8.c at_)) (v := .i .u8 (at_.get 0)) (hO₈.box 0 rfl) rfl rfl) ?_
      obtain ⟨c₄, hp⟩ := ck_some hp
      refine WO_v (a_conv (a := (at_.get 0)) rfl c₄) ?_
      refine WO_v (a_ixaa (o := 0) (o' := 1) (z := 1) q₁_3 rfl (by decide) rfl) ?_
      refine WO_v (a_ldb (cs := (e_A2_u8.c at_)) (v := .i .u8 (at_.get 1)) (hO₈.box 0 rfl) rfl rfl) ?_
      obtain ⟨c₅, hp⟩ := ck_some hp
      refine WO_v (a_conv (a := (at_.get 1)) rfl c₅) ?_
      obtain ⟨⟨x10, x11, x12⟩, hx₇, hp⟩ := bd_some hp
      obtain ⟨u₇, k₁₂, ca₇, rfl, hW₇⟩ := p_muntinref10_Edge.ok (h := k₈)  (hO₈.sl 1 rfl : Sl e_T_api_Cell k₈ v₁ x) hx₇
      refine WO_c (id := 117) (caps := []) rfl (mp_cons (v := v₁) rfl (mp_cons (v := .i .i64 (at_.get 0)) rfl (mp_cons (v := .i .i64 (at_.get 1)) rfl mp_nil))) ca₇ ?_
      have hO₁₂ : Own B h k₁₂ [eBox r₂ (e_A2_u8.c at_), eSl e_T_api_Cell v₁ x, eSl eV v₃ vs₁, eAll eInt vs₁ x2] := hO₈.call hW₇ rfl
      refine WO_v (a_mv (v := .tu [.i .i64 x10, .i .i64 x11, .b x12]) rfl) ?_
      refine WO_v (a_ext (vs := [.i .i64 x10, .i .i64 x11, .b x12]) (v := .i .i64 x10) rfl rfl) ?_
      refine WO_v (a_ext (vs := [.i .i64 x10, .i .i64 x11, .b x12]) (v := .i .i64 x11) rfl rfl) ?_
      refine WO_v (a_ext (vs := [.i .i64 x10, .i .i64 x11, .b x12]) (v := .b x12) rfl rfl) ?_
      refine WO_v (a_mv (v := .i .i64 x10) rfl) ?_
      refine WO_v (a_mv (v := .i .i64 x11) rfl) ?_
      refine WO_v (a_mv (v := .b x12) rfl) ?_
      refine WO_end ?_
      refine then_n ?_
      refine W_sq ?_
      refine W_sq ?_
      refine W_rg ?_
      refine WO_v (a_mv (v := .b x12) rfl) ?_
      refine WO_v (a_not (t := x12) rfl) ?_
      refine WO_end ?_
      refine then_n ?_
      rcases if_some hp with ⟨b₇, hp⟩ | ⟨b₇, hp⟩
      · refine W_cT (t := (!x12)) rfl b₇ ?_
        refine W_sq ?_
        refine W_rg ?_
        refine WO_v (a_mv (v := .b true) rfl) ?_
        refine WO_end ?_
        refine then_n ?_
        refine W_rt ?_
        refine then_r ?_
        refine Ret_r (rs_t (n := 4) (v := .b true) rfl rs_nil) ?_
        have hp := Option.some.inj hp; subst hp
        exact (And.intro rfl (hO₁₂.pick [] rfl (by decide)))
      · refine W_cF (t := (!x12)) rfl b₇ ?_
        refine W_sk ?_
        refine then_n ?_
        refine W_sq ?_
        refine W_rg ?_
        refine WO_v (a_mv (v := v₁) q₁_5) ?_
        refine WO_v (a_mv (v := .i .i64 x10) rfl) ?_
        refine WO_v (a_mv (v := .i .i64 x11) rfl) ?_
        obtain ⟨⟨x13, x14, x15⟩, hx₈, hp⟩ := bd_some hp
        obtain ⟨u₈, k₁₃, ca₈, v₆, rfl, hW₈⟩ := p_muntinref10_Split.ok (h := k₁₂) (l := x) (v := x10) (d := x11) (hO₁₂.toM [1] rfl (by decide))  hx₈
        refine WO_c (id := 49) (caps := []) rfl (mp_cons (v := v₁) rfl (mp_cons (v := .i .i64 x10) rfl (mp_cons (v := .i .i64 x11) rfl mp_nil))) ca₈ ?_
        have hO₁₃ : Own B h k₁₃ [eBox r₂ (e_A2_u8.c at_), eNone, eSl eV v₃ vs₁, eAll eInt vs₁ x2, eSl e_T_api_Cell v₆ x13] := (hO₁₂.callM [1] [0, 2, 3] rfl rfl (by decide) hW₈ rfl).pick [0, 900, 1, 2, 3] rfl (by decide)
        refine WO_v (a_mv (v := .tu [v₆, .i .i64 x14, .i .i64 x15]) rfl) ?_
        refine WO_v (a_ext (vs := [v₆, .i .i64 x14, .i .i64 x15]) (v := v₆) rfl rfl) ?_
        refine WO_v (a_ext (vs := [v₆, .i .i64 x14, .i .i64 x15]) (v := .i .i64 x14) rfl rfl) ?_
        refine WO_v (a_ext (vs := [v₆, .i .i64 x14, .i .i64 x15]) (v := .i .i64 x15) rfl rfl) ?_
        refine WO_v (a_mv (v := v₆) rfl) ?_
        refine WO_v (a_mv (v := .i .i64 x14) rfl) ?_
        refine WO_v (a_mv (v := .i .i64 x15) rfl) ?_
        refine WO_end ?_
        refine then_n ?_
        refine W_sq ?_
        refine W_rg ?_
        refine WO_v (a_mv (v := v₆) rfl) ?_
        obtain ⟨⟨x16, x17⟩, hx₉, hp⟩ := bd_some hp
        obtain ⟨u₉, k₁₄, ca₉, v₇, vs₃, rfl, hW₉⟩ := p_join_Parts.ok (h := k₁₃)  (hO₁₃.sl 4 rfl : Sl e_T_api_Cell k₁₃ v₆ x13) hx₉
        refine WO_c (id := 29) (caps := []) rfl (mp_cons (v := v₆) rfl mp_nil) ca₉ ?_
        have hO₁₄ : Own B h k₁₄ [eBox r₂ (e_A2_u8.c at_), eNone, eSl eV v₃ vs₁, eAll eInt vs₁ x2, eSl e_T_api_Cell v₆ x13, eSl eV v₇ vs₃, eAll eInt vs₃ x16] := hO₁₃.call hW₉ rfl
        refine WO_v (a_mv (v := .tu [v₇, .i .i64 x17]) rfl) ?_
        refine WO_v (a_ext (vs := [v₇, .i .i64 x17]) (v := v₇) rfl rfl) ?_
        refine WO_v (a_ext (vs := [v₇, .i .i64 x17]) (v := .i .i64 x17) rfl rfl) ?_
        refine WO_v (a_mv (v := v₇) rfl) ?_
        refine WO_v (a_mv (v := .i .i64 x17) rfl) ?_
        refine WO_end ?_
        refine then_n ?_
        refine W_sq ?_
        refine W_sq ?_
        refine W_rg ?_
        refine WO_v (a_mv (v := .i .i64 x17) rfl) ?_
        refine WO_v (a_neI (a := x17) (b := 0) rfl rfl) ?_
        refine WO_v (a_mv (v := .b (!(decide (x17 = 0)))) rfl) ?_
        refine WO_cut 6 (fun fr' k' => k₁₄ = k' ∧ fr' 105 = .b ((!(decide (x17 = 0))) || (!(decide ((x16.length : Int) = (x2.length : Int))))) ∧ fr' 12 = .i .i64 x10 ∧ fr' 16 = .i .i64 x14 ∧ fr' 18 = v₇ ∧ fr' 7 = v₃) ?_ ?_
        · rcases bc (!(decide (x17 = 0))) with b₈ | b₈
          · skip
            refine WO_off rfl b₈ ?_
            refine WO_off rfl b₈ ?_
            refine WO_off rfl b₈ ?_
            refine WO_off rfl b₈ ?_
            refine WO_off rfl b₈ ?_
            refine WO_v (a_pickT (t := (!(decide (x17 = 0)))) (v := .b ((!(decide (x17 = 0))) || (!(decide ((x16.length : Int) = (x2.length : Int)))))) rfl b₈ (Eq.trans (b := V.b true) rfl (or_off b₈))) ?_
            refine WO_end ?_
            exact ⟨rfl, rfl, rfl, rfl, rfl, q₁_7⟩
          · skip
            refine WO_on rfl b₈ ?_
            refine WO_v (a_mv (v := v₇) rfl) ?_
            refine WO_on rfl b₈ ?_
            refine WO_v (a_lenN (n := (x16).length) (hO₁₄.sl 5 rfl : Sl eV k₁₄ v₇ vs₃) (hO₁₄.allLen 6 rfl : (vs₃).length = (x16).length) rfl) ?_
            refine WO_on rfl b₈ ?_
            refine WO_v (a_mv (v := v₃) q₁_7) ?_
            refine WO_on rfl b₈ ?_
            refine WO_v (a_lenN (n := (x2).length) (hO₁₄.sl 2 rfl : Sl eV k₁₄ v₃ vs₁) (hO₁₄.allLen 3 rfl : (vs₁).length = (x2).length) rfl) ?_
            refine WO_on rfl b₈ ?_
            refine WO_v (a_neI (a := (x16.length : Int)) (b := (x2.length : Int)) rfl rfl) ?_
            refine WO_v (a_pickF (t := (!(decide (x17 = 0)))) (v := .b ((!(decide (x17 = 0))) || (!(decide ((x16.length : Int) = (x2.length : Int)))))) rfl b₈ (Eq.trans (b := V.b (!(decide ((x16.length : Int) = (x2.length : Int))))) rfl (or_on b₈))) ?_
            refine WO_end ?_
            exact ⟨rfl, rfl, rfl, rfl, rfl, q₁_7⟩
        rintro frg₄ _ ⟨rfl, g₄_105, g₄_12, g₄_16, g₄_18, g₄_7⟩
        refine WO_end ?_
        refine then_n ?_
        rcases if_some hp with ⟨b₉, hp⟩ | ⟨b₉, hp⟩
        · refine W_cT (t := ((!(decide (x17 = 0))) || (!(decide ((x16.length : Int) = (x2.length : Int)))))) g₄_105 b₉ ?_
          refine W_sq ?_
          refine W_rg ?_
          refine WO_v (a_mv (v := .b false) rfl) ?_
          refine WO_end ?_
          refine then_n ?_
          refine W_rt ?_
          refine then_r ?_
          refine Ret_r (rs_t (n := 4) (v := .b false) rfl rs_nil) ?_
          have hp := Option.some.inj hp; subst hp
          exact (And.intro rfl (hO₁₄.pick [] rfl (by decide)))
        · refine W_cF (t := ((!(decide (x17 = 0))) || (!(decide ((x16.length : Int) = (x2.length : Int)))))) g₄_105 b₉ ?_
          refine W_sk ?_
          refine then_n ?_
          refine W_sq ?_
          refine W_sq ?_
          refine W_rg ?_
          refine WO_v (a_mv (v := v₇) g₄_18) ?_
          refine WO_v (a_lenN (n := (x16).length) (hO₁₄.sl 5 rfl : Sl eV k₁₄ v₇ vs₃) (hO₁₄.allLen 6 rfl : (vs₃).length = (x16).length) rfl) ?_
          refine WO_v (a_mv (v := .i .i64 0) rfl) ?_
          refine WO_end ?_
          refine then_n ?_
          refine W_bl ?_
          obtain ⟨o₃, ho₂, hp⟩ := bd_some hp
          refine W.mono (Q := fun e fr k => match (generalizing := false) o₃ with
              | .inl _ => e = (.exit 2) ∧ Own B h k []
              | .inr _ => e = .ret ∧ fr 4 = .b false ∧ Own B h k []) ?_ ?_
          · clear hp
            refine W_loopF (fun st fr k => match st with | (p, x18) => ∃ (v₈ : V), ∃ (vs₄ : List V), fr 7 = v₈ ∧ fr 12 = .i .i64 x10 ∧ fr 16 = .i .i64 x14 ∧ fr 18 = v₇ ∧ fr 107 = .i .i64 (x16.length : Int) ∧ fr 108 = .i .i64 x18 ∧ Own B h k [eSl eV v₈ vs₄, eAll eInt vs₄ p, eSl eV v₇ vs₃, eAll eInt vs₃ x16]) ho₂ (s := (x2, 0)) (Exists.intro v₃ (Exists.intro vs₁ (And.intro (g₄_7) (And.intro (g₄_12) (And.intro (g₄_16) (And.intro (g₄_18) (And.intro (rfl) (And.intro (rfl) (hO₁₄.pick [2, 3, 5, 6] rfl (by decide)))))))))) ?_
            rintro ⟨p, x18⟩ q₄ k₁₆ ⟨v₈, vs₄, q₄_7, q₄_12, q₄_16, q₄_18, q₄_107, q₄_108, hO₁₆⟩ o₄ hp
            dsimp only [p_muntinlaw13_JoinTurns.s1] at hp
            refine W_sq ?_
            refine W_rg ?_
            refine WO_v (a_lss (a := x18) (b := (x16.length : Int)) q₄_108 q₄_107) ?_
            refine WO_end ?_
            refine then_n ?_
            refine W_sq ?_
            rcases if_some hp with ⟨b₁₀, hp⟩ | ⟨b₁₀, hp⟩
            · refine W_cT (t := (decide (x18 < (x16.length : Int)))) rfl b₁₀ ?_
              refine W_sk ?_
              refine then_n ?_
              refine W_sq ?_
              refine W_bl ?_
              refine W_sq ?_
              refine W_rg ?_
              refine WO_v (a_mv (v := .i .i64 x18) q₄_108) ?_
              refine WO_v (a_mv (v := .i .i64 x18) rfl) ?_
              refine WO_end ?_
              refine then_n ?_
              refine W_sq ?_
              refine W_sq ?_
              refine W_rg ?_
              refine WO_v (a_mv (v := v₈) q₄_7) ?_
              refine WO_v (a_mv (v := .i .i64 x18) rfl) ?_
              obtain ⟨c₆, hp⟩ := ck_some hp
              refine WO_v (a_ixa (E := eV) (z := x18) (hO₁₆.sl 0 rfl : Sl eV k₁₆ v₈ vs₄) rfl rfl (by rw [(hO₁₆.allLen 1 rfl : (vs₄).length = (p).length)]; exact c₆)) ?_
              refine WO_v (a_ldE (w := (gi vs₄ (x18 : Int).toNat)) (hO₁₆.sl 0 rfl : Sl eV k₁₆ v₈ vs₄) rfl (by rw [(hO₁₆.allLen 1 rfl : (vs₄).length = (p).length)]; exact toNat_lt c₆) rfl) ?_
              refine WO_v (a_mv (v := .i .i64 x10) q₄_12) ?_
              obtain ⟨x19, hx₁₀, hp⟩ := bd_some hp
              obtain ⟨u₁₀, k₁₇, ca₁₀, rfl, hW₁₀⟩ := p_slices_Contains_int.ok (h := k₁₆)  (hO₁₆.inn 1 rfl (toNat_lt c₆) : Sl eInt k₁₆ (gi vs₄ (x18 : Int).toNat) (gi p (x18 : Int).toNat)) hx₁₀
              refine WO_c (id := 118) (caps := []) rfl (mp_cons (v := (gi vs₄ (x18 : Int).toNat)) rfl (mp_cons (v := .i .i64 x10) rfl mp_nil)) ca₁₀ ?_
              have hO₁₇ : Own B h k₁₇ [eSl eV v₈ vs₄, eAll eInt vs₄ p, eSl eV v₇ vs₃, eAll eInt vs₃ x16] := hO₁₆.call hW₁₀ rfl
              refine WO_end ?_
              refine then_n ?_
              obtain ⟨o₅, ho₃, hp⟩ := bd_some hp
              refine W.mono (Q := fun e fr k => match (generalizing := false) o₅ with
                  | p1 => e = .normal ∧ ∃ (v₉ : V), ∃ (vs₅ : List V), fr 7 = v₉ ∧ fr 12 = .i .i64 x10 ∧ fr 16 = .i .i64 x14 ∧ fr 18 = v₇ ∧ fr 20 = .i .i64 x18 ∧ fr 107 = .i .i64 (x16.length : Int) ∧ fr 108 = .i .i64 x18 ∧ Own B h k [eSl eV v₉ vs₅, eAll eInt vs₅ p1, eSl eV v₇ vs₃, eAll eInt vs₃ x16]) ?_ ?_
              · clear hp; have hp := ho₃; clear ho₃
                rcases if_some hp with ⟨b₁₁, hp⟩ | ⟨b₁₁, hp⟩
                · refine W_cT (t := x19) rfl b₁₁ ?_
                  refine W_rg ?_
                  refine WO_v (a_mv (v := v₈) q₄_7) ?_
                  refine WO_v (a_mv (v := .i .i64 x18) rfl) ?_
                  refine WO_v (a_mv (v := v₈) q₄_7) ?_
                  refine WO_v (a_mv (v := .i .i64 x18) rfl) ?_
                  refine WO_v (a_ixa (E := eV) (z := x18) (hO₁₇.sl 0 rfl : Sl eV k₁₇ v₈ vs₄) rfl rfl (by rw [(hO₁₇.allLen 1 rfl : (vs₄).length = (p).length)]; exact c₆)) ?_
                  refine WO_v (a_ldE (w := (gi vs₄ (x18 : Int).toNat)) (hO₁₇.sl 0 rfl : Sl eV k₁₇ v₈ vs₄) rfl (by rw [(hO₁₇.allLen 1 rfl : (vs₄).length = (p).length)]; exact toNat_lt c₆) rfl) ?_
                  refine WO_v (a_mv (v := .i .i64 x14) q₄_16) ?_
                  refine WO_x (hO₁₇.bsl (E := eInt) (l := [x14]) hO₁₇.fr (by rw [(ev_cons (v := .i .i64 x14) rfl ev_nil)]; rfl) rfl) ?_
                  rintro v₁₀ k₁₉ ⟨r₃, f₃, hW⟩
                  have hO₁₉ : Own B h k₁₉ [eSl eV v₈ vs₄, eAll eInt vs₄ p, eSl eV v₇ vs₃, eAll eInt vs₃ x16, eSl eInt v₁₀ [x14]] := hW
                  obtain ⟨c₇, hp⟩ := ck_some hp
                  refine WO_x (hO₁₉.appInn (E := eInt) (bytes := 8) (j := (x18 : Int).toNat) 1 hO₁₉.fr rfl (toNat_lt c₆) (hO₁₉.sl 4 rfl : Sl eInt k₁₉ v₁₀ [x14]) rfl rfl (fun _ => rfl) c₇ (by decide)) ?_
                  rintro v₁₁ k₂₀ ⟨f₄, hW⟩
                  have hl₁ := (hO₁₉.allLen 1 rfl : (vs₄).length = (p).length)
                  have hO₂₀ : Own B h k₂₀ [eSl eV v₈ vs₄, eAll eInt (vs₄.set (x18 : Int).toNat v₁₁) (p.set (x18 : Int).toNat ((gi p (x18 : Int).toNat) ++ [x14])), eSl eV v₇ vs₃, eAll eInt vs₃ x16, eSl eInt v₁₀ [x14]] := hW
                  have hi₁ : SlN eInt 0 k₂₀ v₁₁ ((gi p (x18 : Int).toNat) ++ [x14]) := by
                    have := (hO₂₀.at 1 rfl).2.1 (x18 : Int).toNat (by have := toNat_lt c₆; simp; omega)
                    rwa [gi_set (by have := toNat_lt c₆; omega), gi_set (by have := toNat_lt c₆; omega), if_pos rfl, if_pos rfl] at this
                  refine WO_v (a_ixa (E := eV) (z := x18) (hO₂₀.sl 0 rfl : Sl eV k₂₀ v₈ vs₄) rfl rfl (by rw [hl₁]; exact c₆)) ?_
                  refine WO_x (hO₂₀.ste (E := eV) (y := v₁₁) (ws := [v₁₁]) 0 rfl rfl (by rw [hl₁]; exact toNat_lt c₆) rfl hi₁.to.cells ⟨rfl, Nat.le_of_ble_eq_true rfl, (all_cons hi₁.to.oneV rfl)⟩ rfl) ?_
                  rintro _ k₂₁ ⟨rfl, f₅, m₁, hW⟩
                  have hO₂₁ : Own B h k₂₁ [eSl eV v₈ (vs₄.set (x18 : Int).toNat v₁₁), eAll eInt (vs₄.set (x18 : Int).toNat v₁₁) (p.set (x18 : Int).toNat ((gi p (x18 : Int).toNat) ++ [x14])), eSl eV v₇ vs₃, eAll eInt vs₃ x16, eSl eInt v₁₀ [x14]] := hW
                  refine WO_end ?_
                  have hp := Option.some.inj hp; subst hp
                  exact (And.intro rfl (Exists.intro v₈ (Exists.intro (vs₄.set (x18 : Int).toNat v₁₁) (And.intro (q₄_7) (And.intro (q₄_12) (And.intro (q₄_16) (And.intro (q₄_18) (And.intro (rfl) (And.intro (q₄_107) (And.intro (q₄_108) (hO₂₁.pick [0, 1, 2, 3] rfl (by decide))))))))))))
                · refine W_cF (t := x19) rfl b₁₁ ?_
                  refine W_sk ?_
                  have hp := Option.some.inj hp; subst hp
                  exact (And.intro rfl (Exists.intro v₈ (Exists.intro vs₄ (And.intro (q₄_7) (And.intro (q₄_12) (And.intro (q₄_16) (And.intro (q₄_18) (And.intro (rfl) (And.intro (q₄_107) (And.intro (q₄_108) (hO₁₇.pick [0, 1, 2, 3] rfl (by decide))))))))))))
              intro e₃ q₅ k₁₈ hJ₃
              obtain ⟨p1, rfl⟩ : ∃ x, x = o₅ := ⟨_, rfl⟩
              obtain ⟨rfl, v₉, vs₅, q₅_7, q₅_12, q₅_16, q₅_18, q₅_20, q₅_107, q₅_108, hO₁₈⟩ := hJ₃
              refine then_n ?_
              refine W_sq ?_
              refine W_dr ?_
              have hW := hO₁₈.bump 10
              have fr₃ := Fresh.start k₁₈ 10
              have nb₂ : ∀ {i : Nat}, h.n ≤ k₁₈.n + i := Nat.le_trans hO₁₈.n (Nat.le_add_right _ _)
              have hO₂₂ : Own B h (k₁₈.bump 10) [eSl eV v₉ vs₅, eAll eInt vs₅ p1, eSl eV v₇ vs₃, eAll eInt vs₃ x16] := hW
              refine WD_v (a_mv (v := v₉) q₅_7) ?_
              refine WD_v (a_mv (v := .i .i64 x18) q₅_20) ?_
              obtain ⟨c₈, hp⟩ := ck_some hp
              refine WD_v (a_ixa (E := eV) (z := x18) (hO₂₂.sl 0 rfl : Sl eV (k₁₈.bump 10) v₉ vs₅) rfl rfl (by rw [(hO₂₂.allLen 1 rfl : (vs₅).length = (p1).length)]; exact c₈)) ?_
              refine WD_v (a_ldE (w := (gi vs₅ (x18 : Int).toNat)) (hO₂₂.sl 0 rfl : Sl eV (k₁₈.bump 10) v₉ vs₅) rfl (by rw [(hO₂₂.allLen 1 rfl : (vs₅).length = (p1).length)]; exact toNat_lt c₈) rfl) ?_
              refine WD_v (a_mv (v := v₇) q₅_18) ?_
              refine WD_v (a_mv (v := .i .i64 x18) q₅_20) ?_
              obtain ⟨c₉, hp⟩ := ck_some hp
              refine WD_v (a_ixa (E := eV) (z := x18) (hO₂₂.sl 2 rfl : Sl eV (k₁₈.bump 10) v₇ vs₃) rfl rfl (by rw [(hO₂₂.allLen 3 rfl : (vs₃).length = (x16).length)]; exact c₉)) ?_
              refine WD_v (a_ldE (w := (gi vs₃ (x18 : Int).toNat)) (hO₂₂.sl 2 rfl : Sl eV (k₁₈.bump 10) v₇ vs₃) rfl (by rw [(hO₂₂.allLen 3 rfl : (vs₃).length = (x16).length)]; exact toNat_lt c₉) rfl) ?_
              obtain ⟨x20, hx₁₁, hp⟩ := bd_some hp
              obtain ⟨u₁₁, k₂₃, ca₁₁, rfl, hW₁₁⟩ := p_slices_Equal_int.ok (h := (k₁₈.bump 10))  (hO₂₂.inn 1 rfl (toNat_lt c₈) : Sl eInt (k₁₈.bump 10) (gi vs₅ (x18 : Int).toNat) (gi p1 (x18 : Int).toNat)) (hO₂₂.inn 3 rfl (toNat_lt c₉) : Sl eInt (k₁₈.bump 10) (gi vs₃ (x18 : Int).toNat) (gi x16 (x18 : Int).toNat)) hx₁₁
              refine WD_c (id := 33) (caps := []) rfl (mp_cons (v := (gi vs₅ (x18 : Int).toNat)) rfl (mp_cons (v := (gi vs₃ (x18 : Int).toNat)) rfl mp_nil)) ca₁₁ ?_
              have fr₄ := fr₃.call hW₁₁
              have hO₂₃ : Own B h k₂₃ [eSl eV v₉ vs₅, eAll eInt vs₅ p1, eSl eV v₇ vs₃, eAll eInt vs₃ x16] := hO₂₂.call hW₁₁ rfl
              refine WD_v (a_not (t := x20) rfl) ?_
              refine WD_end ?_
              refine And.intro ?_ ?_
              · intro q hq
                simp only [List.mem_cons, List.not_mem_nil, or_false] at hq
                rcases hq with rfl
                · refine ap_ll ?_ ?_
                  · exact (fun h => nomatch h)
                  · exact (fun h => nomatch h)
              refine then_n ?_
              rcases if_some hp with ⟨b₁₂, hp⟩ | ⟨b₁₂, hp⟩
              · refine W_cT (t := (!x20)) rfl b₁₂ ?_
                refine W_sq ?_
                refine W_rg ?_
                refine WO_v (a_mv (v := .b false) rfl) ?_
                refine WO_end ?_
                refine then_n ?_
                refine W_rt ?_
                refine blk_r ?_
                refine then_r ?_
                have hp := Option.some.inj hp; subst hp
                refine (Or.inr (Exists.intro (.inr ()) (And.intro rfl (And.intro (fun h => nomatch h) (fun he => ?_)))))
                subst he; exact (And.intro rfl (And.intro (rfl) (hO₂₃.pick [] rfl (by decide))))
              · refine W_cF (t := (!x20)) rfl b₁₂ ?_
                refine W_sk ?_
                refine blk_n ?_
                refine then_n ?_
                refine W_rg ?_
                obtain ⟨c₁₀, hp⟩ := ck_some hp
                refine WO_v (a_add (a := x18) (b := 1) q₅_108 rfl c₁₀) ?_
                refine WO_v (a_mv (v := .i .i64 (x18 + 1)) rfl) ?_
                refine WO_end ?_
                have hp := Option.some.inj hp; subst hp
                exact (Or.inl (Exists.intro (p1, x18 + 1) (And.intro rfl (And.intro rfl (Exists.intro v₉ (Exists.intro vs₅ (And.intro (q₅_7) (And.intro (q₅_12) (And.intro (q₅_16) (And.intro (q₅_18) (And.intro (q₅_107) (And.intro (rfl) (hO₂₃.pick [0, 1, 2, 3] rfl (by decide))))))))))))))
            · refine W_cF (t := (decide (x18 < (x16.length : Int)))) rfl b₁₀ ?_
              refine W_ex ?_
              refine then_e ?_
              have hp := Option.some.inj hp; subst hp
              refine (Or.inr (Exists.intro (.inl ()) (And.intro rfl (And.intro (fun h => nomatch h) (fun he => ?_)))))
              subst he; exact (And.intro rfl (hO₁₆.pick [] rfl (by decide)))
          intro e₂ q₃ k₁₅ hJ₂
          rcases o₃ with _ | _
          · obtain ⟨rfl, hO₁₅⟩ := hJ₂
            refine blk_i ?_
            refine then_n ?_
            refine W_sq ?_
            refine W_rg ?_
            refine WO_v (a_mv (v := .b true) rfl) ?_
            refine WO_end ?_
            refine then_n ?_
            refine W_rt ?_
            refine Ret_r (rs_t (n := 4) (v := .b true) rfl rs_nil) ?_
            have hp := Option.some.inj hp; subst hp
            exact (And.intro rfl (hO₁₅.pick [] rfl (by decide)))
          · obtain ⟨rfl, q₃_4, hO₁₅⟩ := hJ₂
            refine blk_r ?_
            refine then_r ?_
            refine Ret_r (rs_t (n := 4) (v := .b false) q₃_4 rs_nil) ?_
            have hp := Option.some.inj hp; subst hp
            exact (And.intro rfl (hO₁₅.pick [] rfl (by decide)))
    · obtain ⟨rfl, q₁_4, hO₈⟩ := hJ₁
      refine blk_r ?_
      refine then_r ?_
      refine Ret_r (rs_t (n := 4) (v := .b false) q₁_4 rs_nil) ?_
      have hp := Option.some.inj hp; subst hp
      exact (And.intro rfl (hO₈.pick [] rfl (by decide)))

end Mu
