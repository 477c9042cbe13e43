/- The code comes to what was worked out. -/
import Derived.Test.YteedifiifkghkaaMuDf
import Derived.Test.YteedifiifkghkaaMuPa
import Derived.Test.YteedifiifkghkaaMuC1
set_option linter.unusedVariables false
set_option linter.unnecessarySimpa false
set_option linter.unusedSimpArgs false
set_option maxHeartbeats 2000000
set_option maxRecDepth 10000
namespace Mu
open Go (IntKind BinOp UnOp)
theorem p_muntinlaw13_JoinParts.ok {h : Hp} {z : T_muntinref10_Places} {raw : List T_api_Cell} {v_z_At : V} {v_z_Bits : V} {v_z_Own : V} {v_raw : V} (s_z_At : Sl e_u8 h v_z_At z.At) (s_z_Bits : Sl e_u8 h v_z_Bits z.Bits) (s_z_Own : Sl e_i8 h v_z_Own z.Own) (s_raw : Sl e_T_api_Cell h v_raw raw) {r : Bool} (hp : p_muntinlaw13_JoinParts z raw = some r) :
    ∃ u k', Is G 6 [.ag [v_z_At, v_z_Bits, v_z_Own], v_raw] h u k' ∧ V.b r = u ∧ Own (fun r => r < h.n) h k' [] := by
  refine WC.is (WC_of G_F_muntinlaw13_JoinParts ?_)
  unfold p_muntinlaw13_JoinParts at hp
  let B : Nat → Prop := (fun r => r < h.n)
  have hO : Own B h h [] := Own.start0 h
  refine W_sq ?_
  refine W_rg ?_
  refine WO_x (hO.boxd (v := .ag [v_z_At, v_z_Bits, v_z_Own]) (cs := [v_z_At, v_z_Bits, v_z_Own]) hO.fr rfl rfl) ?_
  rintro _ k₁ ⟨r₁, rfl, n₁, f₁, hW⟩
  have hO₁ : Own B h k₁ [eBox r₁ [v_z_At, v_z_Bits, v_z_Own]] := hW
  refine WO_v (a_mv (v := .b false) rfl) ?_
  refine WO_end ?_
  refine then_n ?_
  refine W_sq ?_
  refine W_rg ?_
  refine WO_v (a_ldbA (cs := [v_z_At, v_z_Bits, v_z_Own]) (ws := [v_z_At, v_z_Bits, v_z_Own]) (hO₁.box 0 rfl) rfl rfl) ?_
  obtain ⟨⟨x, x1⟩, hx₁, hp⟩ := bd_some hp
  obtain ⟨u₁, k₂, ca₁, v₁, v₂, rfl, hW₁⟩ := p_muntinref10_Make.ok (h := k₁)  (hO₁.rd0 s_z_At.rd : Sl e_u8 k₁ v_z_At z.At) (hO₁.rd0 s_z_Bits.rd : Sl e_u8 k₁ v_z_Bits z.Bits) (hO₁.rd0 s_z_Own.rd : Sl e_i8 k₁ v_z_Own z.Own) hx₁
  refine WO_c (id := 28) (caps := []) rfl (mp_cons (v := .ag [v_z_At, v_z_Bits, v_z_Own]) rfl (mp_cons (v := .i .i64 20) rfl mp_nil)) ca₁ ?_
  have hO₂ : Own B h k₂ [eBox r₁ [v_z_At, v_z_Bits, v_z_Own], eSl e_T_api_Cell v₁ x, eSl e_T_api_Point v₂ x1] := hO₁.call hW₁ rfl
  refine WO_v (a_mv (v := .tu [v₁, v₂]) rfl) ?_
  refine WO_v (a_ext (vs := [v₁, v₂]) (v := v₁) rfl rfl) ?_
  refine WO_v (a_ext (vs := [v₁, v₂]) (v := v₂) rfl rfl) ?_
  refine WO_v (a_mv (v := v₁) rfl) ?_
  refine WO_v (a_mv (v := v₂) rfl) ?_
  refine WO_end ?_
  refine then_n ?_
  refine W_sq ?_
  refine W_rg ?_
  refine WO_v (a_mv (v := v₁) rfl) ?_
  obtain ⟨⟨x2, x3⟩, hx₂, hp⟩ := bd_some hp
  obtain ⟨u₂, k₃, ca₂, v₃, vs₁, rfl, hW₂⟩ := p_join_Parts.ok (h := k₂)  (hO₂.sl 1 rfl : Sl e_T_api_Cell k₂ v₁ x) hx₂
  refine WO_c (id := 29) (caps := []) rfl (mp_cons (v := v₁) rfl mp_nil) ca₂ ?_
  have hO₃ : Own B h k₃ [eBox r₁ [v_z_At, v_z_Bits, v_z_Own], eSl e_T_api_Cell v₁ x, eSl e_T_api_Point v₂ x1, eSl eV v₃ vs₁, eAll eInt vs₁ x2] := hO₂.call hW₂ rfl
  refine WO_v (a_mv (v := .tu [v₃, .i .i64 x3]) rfl) ?_
  refine WO_v (a_ext (vs := [v₃, .i .i64 x3]) (v := v₃) rfl rfl) ?_
  refine WO_v (a_ext (vs := [v₃, .i .i64 x3]) (v := .i .i64 x3) rfl rfl) ?_
  refine WO_v (a_mv (v := v₃) rfl) ?_
  refine WO_v (a_mv (v := .i .i64 x3) rfl) ?_
  refine WO_end ?_
  refine then_n ?_
  refine W_sq ?_
  refine W_rg ?_
  refine WO_v (a_mv (v := v₁) rfl) ?_
  obtain ⟨x4, hx₃, hp⟩ := bd_some hp
  obtain ⟨u₃, k₄, ca₃, v₄, vs₂, rfl, hW₃⟩ := p_muntinref13_Parts.ok (h := k₃)  (hO₃.sl 1 rfl : Sl e_T_api_Cell k₃ v₁ x) hx₃
  refine WO_c (id := 30) (caps := []) rfl (mp_cons (v := v₁) rfl mp_nil) ca₃ ?_
  have hO₄ : Own B h k₄ [eBox r₁ [v_z_At, v_z_Bits, v_z_Own], eSl e_T_api_Cell v₁ x, eSl e_T_api_Point v₂ x1, eSl eV v₃ vs₁, eAll eInt vs₁ x2, eSl eV v₄ vs₂, eAll eInt vs₂ x4] := hO₃.call hW₃ rfl
  refine WO_v (a_mv (v := v₄) rfl) ?_
  refine WO_end ?_
  refine then_n ?_
  refine W_sq ?_
  refine W_sq ?_
  refine W_rg ?_
  obtain ⟨x5, hx₄, hp⟩ := bd_some hp
  obtain ⟨u₄, k₅, ca₄, rfl, hW₄⟩ := p_muntinlaw13_wakes.ok (h := k₄)   hx₄
  refine WO_c (id := 31) (caps := []) rfl mp_nil ca₄ ?_
  have hO₅ : Own B h k₅ [eBox r₁ [v_z_At, v_z_Bits, v_z_Own], eSl e_T_api_Cell v₁ x, eSl e_T_api_Point v₂ x1, eSl eV v₃ vs₁, eAll eInt vs₁ x2, eSl eV v₄ vs₂, eAll eInt vs₂ x4] := hO₄.call hW₄ rfl
  refine WO_v (a_not (t := x5) rfl) ?_
  refine WO_v (a_mv (v := .b (!x5)) rfl) ?_
  refine WO_cut 3 (fun fr' k' => k₅ = k' ∧ fr' 31 = .b ((!x5) || (!(decide (x3 = 0)))) ∧ fr' 1 = v_raw ∧ fr' 5 = v₁ ∧ fr' 7 = v₃ ∧ fr' 9 = v₄) ?_ ?_
  · rcases bc (!x5) with b₁ | b₁
    · skip
      refine WO_off rfl b₁ ?_
      refine WO_off rfl b₁ ?_
      refine WO_v (a_pickT (t := (!x5)) (v := .b ((!x5) || (!(decide (x3 = 0))))) rfl b₁ (Eq.trans (b := V.b true) rfl (or_off b₁))) ?_
      refine WO_end ?_
      exact ⟨rfl, rfl, rfl, rfl, rfl, rfl⟩
    · skip
      refine WO_on rfl b₁ ?_
      refine WO_v (a_mv (v := .i .i64 x3) rfl) ?_
      refine WO_on rfl b₁ ?_
      refine WO_v (a_neI (a := x3) (b := 0) rfl rfl) ?_
      refine WO_v (a_pickF (t := (!x5)) (v := .b ((!x5) || (!(decide (x3 = 0))))) rfl b₁ (Eq.trans (b := V.b (!(decide (x3 = 0)))) rfl (or_on b₁))) ?_
      refine WO_end ?_
      exact ⟨rfl, rfl, rfl, rfl, rfl, rfl⟩
  rintro frg₁ _ ⟨rfl, g₁_31, g₁_1, g₁_5, g₁_7, g₁_9⟩
  refine WO_v (a_mv (v := .b ((!x5) || (!(decide (x3 = 0))))) g₁_31) ?_
  refine WO_cut 6 (fun fr' k' => k₅ = k' ∧ fr' 38 = .b (((!x5) || (!(decide (x3 = 0)))) || (!(decide ((x2.length : Int) = (x4.length : Int))))) ∧ fr' 1 = v_raw ∧ fr' 5 = v₁ ∧ fr' 7 = v₃ ∧ fr' 9 = v₄) ?_ ?_
  · rcases bc ((!x5) || (!(decide (x3 = 0)))) with b₂ | b₂
    · skip
      refine WO_off rfl b₂ ?_
      refine WO_off rfl b₂ ?_
      refine WO_off rfl b₂ ?_
      refine WO_off rfl b₂ ?_
      refine WO_off rfl b₂ ?_
      refine WO_v (a_pickT (t := ((!x5) || (!(decide (x3 = 0))))) (v := .b (((!x5) || (!(decide (x3 = 0)))) || (!(decide ((x2.length : Int) = (x4.length : Int)))))) rfl b₂ (Eq.trans (b := V.b true) rfl (or_off b₂))) ?_
      refine WO_end ?_
      exact ⟨rfl, rfl, g₁_1, g₁_5, g₁_7, g₁_9⟩
    · skip
      refine WO_on rfl b₂ ?_
      refine WO_v (a_mv (v := v₃) g₁_7) ?_
      refine WO_on rfl b₂ ?_
      refine WO_v (a_lenN (n := (x2).length) (hO₅.sl 3 rfl : Sl eV k₅ v₃ vs₁) (hO₅.allLen 4 rfl : (vs₁).length = (x2).length) rfl) ?_
      refine WO_on rfl b₂ ?_
      refine WO_v (a_mv (v := v₄) g₁_9) ?_
      refine WO_on rfl b₂ ?_
      refine WO_v (a_lenN (n := (x4).length) (hO₅.sl 5 rfl : Sl eV k₅ v₄ vs₂) (hO₅.allLen 6 rfl : (vs₂).length = (x4).length) rfl) ?_
      refine WO_on rfl b₂ ?_
      refine WO_v (a_neI (a := (x2.length : Int)) (b := (x4.length : Int)) rfl rfl) ?_
      refine WO_v (a_pickF (t := ((!x5) || (!(decide (x3 = 0))))) (v := .b (((!x5) || (!(decide (x3 = 0)))) || (!(decide ((x2.length : Int) = (x4.length : Int)))))) rfl b₂ (Eq.trans (b := V.b (!(decide ((x2.length : Int) = (x4.length : Int))))) rfl (or_on b₂))) ?_
      refine WO_end ?_
      exact ⟨rfl, rfl, g₁_1, g₁_5, g₁_7, g₁_9⟩
  rintro frg₂ _ ⟨rfl, g₂_38, g₂_1, g₂_5, g₂_7, g₂_9⟩
  refine WO_v (a_mv (v := .b (((!x5) || (!(decide (x3 = 0)))) || (!(decide ((x2.length : Int) = (x4.length : Int)))))) g₂_38) ?_
  obtain ⟨t, hv₁, hp⟩ := bd_some hp
  refine WO_cut 7 (fun fr' k' => Own B h k' [eBox r₁ [v_z_At, v_z_Bits, v_z_Own], eSl e_T_api_Cell v₁ x, eSl e_T_api_Point v₂ x1, eSl eV v₃ vs₁, eAll eInt vs₁ x2, eSl eV v₄ vs₂, eAll eInt vs₂ x4] ∧ fr' 46 = .b t ∧ fr' 1 = v_raw ∧ fr' 7 = v₃ ∧ fr' 9 = v₄) ?_ ?_
  · clear hp; rcases if_some hv₁ with ⟨b₃, hp⟩ | ⟨b₃, hp⟩
    · skip
      refine WO_off rfl b₃ ?_
      refine WO_off rfl b₃ ?_
      refine WO_off rfl b₃ ?_
      refine WO_off rfl b₃ ?_
      refine WO_off rfl b₃ ?_
      refine WO_off rfl b₃ ?_
      refine WO_v (a_pickT (t := (((!x5) || (!(decide (x3 = 0)))) || (!(decide ((x2.length : Int) = (x4.length : Int)))))) (v := .b t) rfl b₃ (Eq.trans (b := V.b true) rfl (congrArg V.b (Option.some.inj hp)))) ?_
      refine WO_end ?_
      exact ⟨hO₅.pick [0, 1, 2, 3, 4, 5, 6] rfl (by decide), rfl, g₂_1, g₂_7, g₂_9⟩
    · skip
      refine WO_on rfl b₃ ?_
      refine WO_v (a_mv (v := v₁) g₂_5) ?_
      refine WO_on rfl b₃ ?_
      obtain ⟨x6, hx₅, hp⟩ := bd_some hp
      obtain ⟨u₅, k₆, ca₅, rfl, hW₅⟩ := p_join_Whole.ok (h := k₅)  (hO₅.sl 1 rfl : Sl e_T_api_Cell k₅ v₁ x) hx₅
      refine WO_c (id := 32) (caps := []) rfl (mp_cons (v := v₁) rfl mp_nil) ca₅ ?_
      have hO₆ : Own B h k₆ [eBox r₁ [v_z_At, v_z_Bits, v_z_Own], eSl e_T_api_Cell v₁ x, eSl e_T_api_Point v₂ x1, eSl eV v₃ vs₁, eAll eInt vs₁ x2, eSl eV v₄ vs₂, eAll eInt vs₂ x4] := hO₅.call hW₅ rfl
      refine WO_on rfl b₃ ?_
      refine WO_v (a_mv (v := v₄) g₂_9) ?_
      refine WO_on rfl b₃ ?_
      refine WO_v (a_lenN (n := (x4).length) (hO₆.sl 5 rfl : Sl eV k₆ v₄ vs₂) (hO₆.allLen 6 rfl : (vs₂).length = (x4).length) rfl) ?_
      refine WO_on rfl b₃ ?_
      refine WO_v (a_eqI (a := (x4.length : Int)) (b := 1) rfl rfl) ?_
      refine WO_on rfl b₃ ?_
      refine WO_v (a_neB (a := x6) (b := (decide ((x4.length : Int) = 1))) rfl rfl) ?_
      refine WO_v (a_pickF (t := (((!x5) || (!(decide (x3 = 0)))) || (!(decide ((x2.length : Int) = (x4.length : Int)))))) (v := .b t) rfl b₃ (Eq.trans (b := V.b (!(decide (x6 = (decide ((x4.length : Int) = 1)))))) rfl (congrArg V.b (Option.some.inj hp)))) ?_
      refine WO_end ?_
      exact ⟨hO₆.pick [0, 1, 2, 3, 4, 5, 6] rfl (by decide), rfl, g₂_1, g₂_7, g₂_9⟩
  rintro frg₃ k₇ ⟨hO₇, g₃_46, g₃_1, g₃_7, g₃_9⟩
  refine WO_end ?_
  refine then_n ?_
  rcases if_some hp with ⟨b₄, hp⟩ | ⟨b₄, hp⟩
  · refine W_cT (t := t) g₃_46 b₄ ?_
    refine W_sq ?_
    refine W_rg ?_
    refine WO_v (a_mv (v := .b false) rfl) ?_
    refine WO_end ?_
    refine then_n ?_
    refine W_rt ?_
    refine then_r ?_
    refine Ret_r (rs_t (n := 4) (v := .b false) rfl rs_nil) ?_
    have hp := Option.some.inj hp; subst hp
    exact (And.intro rfl (hO₇.pick [] rfl (by decide)))
  · refine W_cF (t := t) g₃_46 b₄ ?_
    refine W_sk ?_
    refine then_n ?_
    refine W_sq ?_
    refine W_sq ?_
    refine W_rg ?_
    refine WO_v (a_mv (v := v₃) g₃_7) ?_
    refine WO_v (a_lenN (n := (x2).length) (hO₇.sl 3 rfl : Sl eV k₇ v₃ vs₁) (hO₇.allLen 4 rfl : (vs₁).length = (x2).length) rfl) ?_
    refine WO_v (a_mv (v := .i .i64 0) rfl) ?_
    refine WO_end ?_
    refine then_n ?_
    refine W_bl ?_
    obtain ⟨o₁, ho₁, hp⟩ := bd_some hp
    refine W.mono (Q := fun e fr k => match (generalizing := false) o₁ with
        | .inl _ => e = (.exit 0) ∧ fr 1 = v_raw ∧ Own B h k []
        | .inr _ => e = .ret ∧ fr 4 = .b false ∧ Own B h k []) ?_ ?_
    · clear hp
      refine W_loopF (fun st fr k => match st with | x7 => fr 1 = v_raw ∧ fr 7 = v₃ ∧ fr 9 = v₄ ∧ fr 48 = .i .i64 (x2.length : Int) ∧ fr 49 = .i .i64 x7 ∧ Own B h k [eSl eV v₃ vs₁, eAll eInt vs₁ x2, eSl eV v₄ vs₂, eAll eInt vs₂ x4]) ho₁ (s := 0) (And.intro (g₃_1) (And.intro (g₃_7) (And.intro (g₃_9) (And.intro (rfl) (And.intro (rfl) (hO₇.pick [3, 4, 5, 6] rfl (by decide))))))) ?_
      rintro x7 q₂ k₉ ⟨q₂_1, q₂_7, q₂_9, q₂_48, q₂_49, hO₉⟩ o₂ hp
      dsimp only [p_muntinlaw13_JoinParts.s0] at hp
      refine W_sq ?_
      refine W_rg ?_
      refine WO_v (a_lss (a := x7) (b := (x2.length : Int)) q₂_49 q₂_48) ?_
      refine WO_end ?_
      refine then_n ?_
      refine W_sq ?_
      rcases if_some hp with ⟨b₅, hp⟩ | ⟨b₅, hp⟩
      · refine W_cT (t := (decide (x7 < (x2.length : Int)))) rfl b₅ ?_
        refine W_sk ?_
        refine then_n ?_
        refine W_sq ?_
        refine W_bl ?_
        refine W_sq ?_
        refine W_rg ?_
        refine WO_v (a_mv (v := .i .i64 x7) q₂_49) ?_
        refine WO_v (a_mv (v := .i .i64 x7) rfl) ?_
        refine WO_end ?_
        refine then_n ?_
        refine W_sq ?_
        refine W_dr ?_
        have hW := hO₉.bump 10
        have fr₁ := Fresh.start k₉ 10
        have nb₁ : ∀ {i : Nat}, h.n ≤ k₉.n + i := Nat.le_trans hO₉.n (Nat.le_add_right _ _)
        have hO₁₀ : Own B h (k₉.bump 10) [eSl eV v₃ vs₁, eAll eInt vs₁ x2, eSl eV v₄ vs₂, eAll eInt vs₂ x4] := hW
        refine WD_v (a_mv (v := v₃) q₂_7) ?_
        refine WD_v (a_mv (v := .i .i64 x7) rfl) ?_
        obtain ⟨c₁, hp⟩ := ck_some hp
        refine WD_v (a_ixa (E := eV) (z := x7) (hO₁₀.sl 0 rfl : Sl eV (k₉.bump 10) v₃ vs₁) rfl rfl (by rw [(hO₁₀.allLen 1 rfl : (vs₁).length = (x2).length)]; exact c₁)) ?_
        refine WD_v (a_ldE (w := (gi vs₁ (x7 : Int).toNat)) (hO₁₀.sl 0 rfl : Sl eV (k₉.bump 10) v₃ vs₁) rfl (by rw [(hO₁₀.allLen 1 rfl : (vs₁).length = (x2).length)]; exact toNat_lt c₁) rfl) ?_
        refine WD_v (a_mv (v := v₄) q₂_9) ?_
        refine WD_v (a_mv (v := .i .i64 x7) rfl) ?_
        obtain ⟨c₂, hp⟩ := ck_some hp
        refine WD_v (a_ixa (E := eV) (z := x7) (hO₁₀.sl 2 rfl : Sl eV (k₉.bump 10) v₄ vs₂) rfl rfl (by rw [(hO₁₀.allLen 3 rfl : (vs₂).length = (x4).length)]; exact c₂)) ?_
        refine WD_v (a_ldE (w := (gi vs₂ (x7 : Int).toNat)) (hO₁₀.sl 2 rfl : Sl eV (k₉.bump 10) v₄ vs₂) rfl (by rw [(hO₁₀.allLen 3 rfl : (vs₂).length = (x4).length)]; exact toNat_lt c₂) rfl) ?_
        obtain ⟨x8, hx₆, hp⟩ := bd_some hp
        obtain ⟨u₆, k₁₁, ca₆, rfl, hW₆⟩ := p_slices_Equal_int.ok (h := (k₉.bump 10))  (hO₁₀.inn 1 rfl (toNat_lt c₁) : Sl eInt (k₉.bump 10) (gi vs₁ (x7 : Int).toNat) (gi x2 (x7 : Int).toNat)) (hO₁₀.inn 3 rfl (toNat_lt c₂) : Sl eInt (k₉.bump 10) (gi vs₂ (x7 : Int).toNat) (gi x4 (x7 : Int).toNat)) hx₆
        refine WD_c (id := 33) (caps := []) rfl (mp_cons (v := (gi vs₁ (x7 : Int).toNat)) rfl (mp_cons (v := (gi vs₂ (x7 : Int).toNat)) rfl mp_nil)) ca₆ ?_
        have fr₂ := fr₁.call hW₆
        have hO₁₁ : Own B h k₁₁ [eSl eV v₃ vs₁, eAll eInt vs₁ x2, eSl eV v₄ vs₂, eAll eInt vs₂ x4] := hO₁₀.call hW₆ rfl
        refine WD_v (a_not (t := x8) rfl) ?_
        refine WD_end ?_
        refine And.intro ?_ ?_
        · intro q hq
          simp only [List.mem_cons, List.not_mem_nil, or_false] at hq
          rcases hq with rfl
          · refine ap_ll ?_ ?_
            · exact (fun h => nomatch h)
            · exact (fun h => nomatch h)
        refine then_n ?_
        rcases if_some hp with ⟨b₆, hp⟩ | ⟨b₆, hp⟩
        · refine W_cT (t := (!x8)) rfl b₆ ?_
          refine W_sq ?_
          refine W_rg ?_
          refine WO_v (a_mv (v := .b false) rfl) ?_
          refine WO_end ?_
          refine then_n ?_
          refine W_rt ?_
          refine blk_r ?_
          refine then_r ?_
          have hp := Option.some.inj hp; subst hp
          refine (Or.inr (Exists.intro (.inr ()) (And.intro rfl (And.intro (fun h => nomatch h) (fun he => ?_)))))
          subst he; exact (And.intro rfl (And.intro (rfl) (hO₁₁.pick [] rfl (by decide))))
        · refine W_cF (t := (!x8)) rfl b₆ ?_
          refine W_sk ?_
          refine blk_n ?_
          refine then_n ?_
          refine W_rg ?_
          obtain ⟨c₃, hp⟩ := ck_some hp
          refine WO_v (a_add (a := x7) (b := 1) q₂_49 rfl c₃) ?_
          refine WO_v (a_mv (v := .i .i64 (x7 + 1)) rfl) ?_
          refine WO_end ?_
          have hp := Option.some.inj hp; subst hp
          exact (Or.inl (Exists.intro (x7 + 1) (And.intro rfl (And.intro rfl (And.intro (q₂_1) (And.intro (q₂_7) (And.intro (q₂_9) (And.intro (q₂_48) (And.intro (rfl) (hO₁₁.pick [0, 1, 2, 3] rfl (by decide)))))))))))
      · refine W_cF (t := (decide (x7 < (x2.length : Int)))) rfl b₅ ?_
        refine W_ex ?_
        refine then_e ?_
        have hp := Option.some.inj hp; subst hp
        refine (Or.inr (Exists.intro (.inl ()) (And.intro rfl (And.intro (fun h => nomatch h) (fun he => ?_)))))
        subst he; exact (And.intro rfl (And.intro (q₂_1) (hO₉.pick [] rfl (by decide))))
    intro e₁ q₁ k₈ hJ₁
    rcases o₁ with _ | _
    · obtain ⟨rfl, q₁_1, hO₈⟩ := hJ₁
      refine blk_i ?_
      refine then_n ?_
      refine W_sq ?_
      refine W_rg ?_
      refine WO_v (a_mv (v := v_raw) q₁_1) ?_
      refine WO_v (a_mv (v := v_raw) q₁_1) ?_
      refine WO_v (a_len (hO₈.rd0 s_raw.rd : Sl e_T_api_Cell k₈ v_raw raw) rfl) ?_
      refine WO_v (a_mn (a := (raw.length : Int)) (b := 5) rfl rfl) ?_
      obtain ⟨c₄, hp⟩ := ck_some hp
      refine WO_v (a_slcU (E := e_T_api_Cell) (z := (min (raw.length : Int) 5)) (hO₈.rd0 s_raw.rd : Sl e_T_api_Cell k₈ v_raw raw) rfl rfl c₄) ?_
      refine WO_v (a_mv (v := (V.cut v_raw 0 (min (raw.length : Int) 5 : Int).toNat)) rfl) ?_
      refine WO_end ?_
      refine then_n ?_
      refine W_sq ?_
      refine W_rg ?_
      refine WO_v (a_mv (v := (V.cut v_raw 0 (min (raw.length : Int) 5 : Int).toNat)) rfl) ?_
      obtain ⟨⟨x9, x10⟩, hx₇, hp⟩ := bd_some hp
      obtain ⟨u₇, k₁₂, ca₇, v₅, vs₃, rfl, hW₇⟩ := p_join_Parts.ok (h := k₈)  (Sl.cutU (hO₈.rd0 s_raw.rd : Sl e_T_api_Cell k₈ v_raw raw) c₄ : Sl e_T_api_Cell k₈ (V.cut v_raw 0 (min (raw.length : Int) 5 : Int).toNat) (raw.take (min (raw.length : Int) 5 : Int).toNat)) hx₇
      refine WO_c (id := 29) (caps := []) rfl (mp_cons (v := (V.cut v_raw 0 (min (raw.length : Int) 5 : Int).toNat)) rfl mp_nil) ca₇ ?_
      have hO₁₂ : Own B h k₁₂ [eSl eV v₅ vs₃, eAll eInt vs₃ x9] := hO₈.call hW₇ rfl
      refine WO_v (a_mv (v := .tu [v₅, .i .i64 x10]) rfl) ?_
      refine WO_v (a_ext (vs := [v₅, .i .i64 x10]) (v := v₅) rfl rfl) ?_
      refine WO_v (a_ext (vs := [v₅, .i .i64 x10]) (v := .i .i64 x10) rfl rfl) ?_
      refine WO_v (a_mv (v := v₅) rfl) ?_
      refine WO_v (a_mv (v := .i .i64 x10) rfl) ?_
      refine WO_end ?_
      refine then_n ?_
      refine W_sq ?_
      refine W_rg ?_
      refine WO_v (a_mv (v := (V.cut v_raw 0 (min (raw.length : Int) 5 : Int).toNat)) rfl) ?_
      obtain ⟨x11, hx₈, hp⟩ := bd_some hp
      obtain ⟨u₈, k₁₃, ca₈, rfl, hW₈⟩ := p_muntinref10_Check.ok (h := k₁₂)  (Sl.cutU (hO₁₂.rd0 s_raw.rd : Sl e_T_api_Cell k₁₂ v_raw raw) c₄ : Sl e_T_api_Cell k₁₂ (V.cut v_raw 0 (min (raw.length : Int) 5 : Int).toNat) (raw.take (min (raw.length : Int) 5 : Int).toNat)) hx₈
      refine WO_c (id := 34) (caps := []) rfl (mp_cons (v := (V.cut v_raw 0 (min (raw.length : Int) 5 : Int).toNat)) rfl mp_nil) ca₈ ?_
      have hO₁₃ : Own B h k₁₃ [eSl eV v₅ vs₃, eAll eInt vs₃ x9] := hO₁₂.call hW₈ rfl
      refine WO_v (a_mv (v := .i .i64 x11) rfl) ?_
      refine WO_end ?_
      refine then_n ?_
      refine W_sq ?_
      refine W_rg ?_
      refine WO_v (a_mv (v := .i .i64 x10) rfl) ?_
      refine WO_v (a_mv (v := .i .i64 x11) rfl) ?_
      refine WO_v (a_eqI (a := x10) (b := x11) rfl rfl) ?_
      refine WO_v (a_mv (v := .b (decide (x10 = x11))) rfl) ?_
      obtain ⟨t1, hv₂, hp⟩ := bd_some hp
      refine WO_cut 13 (fun fr' k' => Own B h k' [eSl eV v₅ vs₃, eAll eInt vs₃ x9] ∧ fr' 91 = .b t1) ?_ ?_
      · clear hp; rcases if_some hv₂ with ⟨b₇, hp⟩ | ⟨b₇, hp⟩
        · skip
          refine WO_on rfl b₇ ?_
          refine WO_v (a_mv (v := .i .i64 x11) rfl) ?_
          refine WO_on rfl b₇ ?_
          refine WO_v (a_eqI (a := x11) (b := 0) rfl rfl) ?_
          refine WO_on rfl b₇ ?_
          refine WO_v (a_mv (v := .b (decide (x11 = 0))) rfl) ?_
          obtain ⟨t2, hv₃, hp⟩ := bd_some hp
          refine WO_cut 9 (fun fr' k' => Own B h k' [eSl eV v₅ vs₃, eAll eInt vs₃ x9] ∧ fr' 90 = .b t2 ∧ fr' 78 = .b (decide (x10 = x11))) ?_ ?_
          · clear hp; rcases if_some hv₃ with ⟨b₈, hp⟩ | ⟨b₈, hp⟩
            · skip
              refine WO_off rfl b₈ ?_
              refine WO_off rfl b₈ ?_
              refine WO_off rfl b₈ ?_
              refine WO_off rfl b₈ ?_
              refine WO_un rfl ?_
              refine WO_un rfl ?_
              refine WO_un rfl ?_
              refine WO_off rfl b₈ ?_
              refine WO_on rfl b₇ ?_
              refine WO_v (a_pickT (t := (decide (x11 = 0))) (v := .b t2) rfl b₈ (Eq.trans (b := V.b true) rfl (congrArg V.b (Option.some.inj hp)))) ?_
              refine WO_end ?_
              exact ⟨hO₁₃.pick [0, 1] rfl (by decide), rfl, rfl⟩
            · skip
              refine WO_on rfl b₈ ?_
              refine WO_v (a_mv (v := v₅) rfl) ?_
              refine WO_on rfl b₈ ?_
              refine WO_v (a_lenN (n := (x9).length) (hO₁₃.sl 0 rfl : Sl eV k₁₃ v₅ vs₃) (hO₁₃.allLen 1 rfl : (vs₃).length = (x9).length) rfl) ?_
              refine WO_on rfl b₈ ?_
              refine WO_v (a_eqI (a := (x9.length : Int)) (b := 0) rfl rfl) ?_
              refine WO_on rfl b₈ ?_
              refine WO_v (a_mv (v := .b (decide ((x9.length : Int) = 0))) rfl) ?_
              obtain ⟨t3, hv₄, hp⟩ := bd_some hp
              refine WO_cut 4 (fun fr' k' => Own B h k' [eSl eV v₅ vs₃, eAll eInt vs₃ x9] ∧ fr' 89 = .b t3 ∧ fr' 78 = .b (decide (x10 = x11)) ∧ fr' 81 = .b (decide (x11 = 0))) ?_ ?_
              · clear hp; rcases if_some hv₄ with ⟨b₉, hp⟩ | ⟨b₉, hp⟩
                · skip
                  refine WO_on rfl b₉ ?_
                  refine WO_v (a_mv (v := (V.cut v_raw 0 (min (raw.length : Int) 5 : Int).toNat)) rfl) ?_
                  refine WO_on rfl b₉ ?_
                  obtain ⟨x12, hx₉, hp⟩ := bd_some hp
                  obtain ⟨u₉, k₁₄, ca₉, rfl, hW₉⟩ := p_join_Whole.ok (h := k₁₃)  (Sl.cutU (hO₁₃.rd0 s_raw.rd : Sl e_T_api_Cell k₁₃ v_raw raw) c₄ : Sl e_T_api_Cell k₁₃ (V.cut v_raw 0 (min (raw.length : Int) 5 : Int).toNat) (raw.take (min (raw.length : Int) 5 : Int).toNat)) hx₉
                  refine WO_c (id := 32) (caps := []) rfl (mp_cons (v := (V.cut v_raw 0 (min (raw.length : Int) 5 : Int).toNat)) rfl mp_nil) ca₉ ?_
                  have hO₁₄ : Own B h k₁₄ [eSl eV v₅ vs₃, eAll eInt vs₃ x9] := hO₁₃.call hW₉ rfl
                  refine WO_on rfl b₉ ?_
                  refine WO_v (a_not (t := x12) rfl) ?_
                  refine WO_on rfl b₈ ?_
                  refine WO_v (a_pickT (t := (decide ((x9.length : Int) = 0))) (v := .b t3) rfl b₉ (Eq.trans (b := V.b (!x12)) rfl (congrArg V.b (Option.some.inj hp)))) ?_
                  refine WO_end ?_
                  exact ⟨hO₁₄.pick [0, 1] rfl (by decide), rfl, rfl, rfl⟩
                · skip
                  refine WO_off rfl b₉ ?_
                  refine WO_off rfl b₉ ?_
                  refine WO_off rfl b₉ ?_
                  refine WO_on rfl b₈ ?_
                  refine WO_v (a_pickF (t := (decide ((x9.length : Int) = 0))) (v := .b t3) rfl b₉ (Eq.trans (b := V.b false) rfl (congrArg V.b (Option.some.inj hp)))) ?_
                  refine WO_end ?_
                  exact ⟨hO₁₃.pick [0, 1] rfl (by decide), rfl, rfl, rfl⟩
              rintro frg₄ k₁₅ ⟨hO₁₅, g₄_89, g₄_78, g₄_81⟩
              refine WO_on g₄_78 b₇ ?_
              refine WO_v (a_pickF (t := (decide (x11 = 0))) (v := .b t2) g₄_81 b₈ (Eq.trans (b := V.b t3) g₄_89 (congrArg V.b (Option.some.inj hp)))) ?_
              refine WO_end ?_
              exact ⟨hO₁₅.pick [0, 1] rfl (by decide), rfl, g₄_78⟩
          rintro frg₅ k₁₆ ⟨hO₁₆, g₅_90, g₅_78⟩
          refine WO_v (a_pickT (t := (decide (x10 = x11))) (v := .b t1) g₅_78 b₇ (Eq.trans (b := V.b t2) g₅_90 (congrArg V.b (Option.some.inj hp)))) ?_
          refine WO_end ?_
          exact ⟨hO₁₆.pick [0, 1] rfl (by decide), rfl⟩
        · skip
          refine WO_off rfl b₇ ?_
          refine WO_off rfl b₇ ?_
          refine WO_off rfl b₇ ?_
          refine WO_un rfl ?_
          refine WO_un rfl ?_
          refine WO_un rfl ?_
          refine WO_un rfl ?_
          refine WO_un rfl ?_
          refine WO_un rfl ?_
          refine WO_un rfl ?_
          refine WO_un rfl ?_
          refine WO_off rfl b₇ ?_
          refine WO_v (a_pickF (t := (decide (x10 = x11))) (v := .b t1) rfl b₇ (Eq.trans (b := V.b false) rfl (congrArg V.b (Option.some.inj hp)))) ?_
          refine WO_end ?_
          exact ⟨hO₁₃.pick [0, 1] rfl (by decide), rfl⟩
      rintro frg₆ k₁₇ ⟨hO₁₇, g₆_91⟩
      refine WO_v (a_mv (v := .b t1) g₆_91) ?_
      refine WO_end ?_
      refine then_n ?_
      refine W_rt ?_
      refine Ret_r (rs_t (n := 4) (v := .b t1) rfl rs_nil) ?_
      have hp := Option.some.inj hp; subst hp
      exact (And.intro rfl (hO₁₇.pick [] rfl (by decide)))
    · obtain ⟨rfl, q₁_4, hO₈⟩ := hJ₁
      refine blk_r ?_
      refine then_r ?_
      refine Ret_r (rs_t (n := 4) (v := .b false) q₁_4 rs_nil) ?_
      have hp := Option.some.inj hp; subst hp
      exact (And.intro rfl (hO₈.pick [] rfl (by decide)))

end Mu
