/- The code comes to what was worked out. -/
import Derived.Test.YtdefkboekpjiiaaMuDf
import Derived.Test.YtdefkboekpjiiaaMuPa
import Derived.Test.YtdefkboekpjiiaaMuC1
set_option linter.unusedVariables false
set_option linter.unnecessarySimpa false
set_option linter.unusedSimpArgs false
set_option maxHeartbeats 2000000
set_option maxRecDepth 10000
namespace Mu
open Go (IntKind BinOp UnOp)
theorem p_muntinlaw17_wakes.ok {h : Hp}    {r : Bool} (hp : p_muntinlaw17_wakes  = some r) :
    ∃ u k', Is G 130 [] h u k' ∧ V.b r = u ∧ Own (fun r => r < h.n) h k' [] := by
  refine WC.is (WC_of G_F_muntinlaw17_wakes ?_)
  unfold p_muntinlaw17_wakes at hp
  let B : Nat → Prop := (fun r => r < h.n)
  have hO : Own B h h [] := Own.start0 h
  refine W_sq ?_
  refine W_rg ?_
  refine WO_v (a_mv (v := .b false) rfl) ?_
  refine WO_end ?_
  refine then_n ?_
  refine W_sq ?_
  refine W_rg ?_
  obtain ⟨x, hx₁, hp⟩ := bd_some hp
  obtain ⟨u₁, k₁, ca₁, v₁, rfl, hW₁⟩ := p_muntinlaw17_square.ok (h := h)   hx₁
  refine WO_c (id := 145) (caps := []) rfl mp_nil ca₁ ?_
  have hO₁ : Own B h k₁ [eSl e_T_api_Cell v₁ x] := hO.call hW₁ rfl
  obtain ⟨⟨x1, x2⟩, hx₂, hp⟩ := bd_some hp
  obtain ⟨u₂, k₂, ca₂, v₂, v₃, v₄, vs₁, v₅, vs₂, v₆, v₇, rfl, hW₂⟩ := p_arcs_Of.ok (h := k₁)  (hO₁.sl 0 rfl : Sl e_T_api_Cell k₁ v₁ x) hx₂
  refine WO_c (id := 129) (caps := []) rfl (mp_cons (v := v₁) rfl mp_nil) ca₂ ?_
  have hO₂ : Own B h k₂ [eSl e_T_api_Cell v₁ x, eSl eInt v₂ x1.Chains.X, eSl eInt v₃ x1.Chains.Y, eSl eV v₄ vs₁, eAll eInt vs₁ x1.Chains.Vert, eSl eV v₅ vs₂, eAll eInt vs₂ x1.Chains.Horz, eSl e_T_api_Arc v₆ x1.H, eSl e_T_api_Arc v₇ x1.V] := hO₁.call hW₂ rfl
  refine WO_v (a_mv (v := .tu [.ag [v₂, v₃, v₄, v₅, v₆, v₇], .i .i64 x2]) rfl) ?_
  refine WO_v (a_ext (vs := [.ag [v₂, v₃, v₄, v₅, v₆, v₇], .i .i64 x2]) (v := .ag [v₂, v₃, v₄, v₅, v₆, v₇]) rfl rfl) ?_
  refine WO_v (a_ext (vs := [.ag [v₂, v₃, v₄, v₅, v₆, v₇], .i .i64 x2]) (v := .i .i64 x2) rfl rfl) ?_
  refine WO_x (hO₂.alloc (cs := [.sn, .sn, .sn, .sn, .sn, .sn]) hO₂.fr) ?_
  rintro _ k₃ ⟨r₁, rfl, n₁, f₁, hW⟩
  have hO₃ : Own B h k₃ [eSl e_T_api_Cell v₁ x, eSl eInt v₂ x1.Chains.X, eSl eInt v₃ x1.Chains.Y, eSl eV v₄ vs₁, eAll eInt vs₁ x1.Chains.Vert, eSl eV v₅ vs₂, eAll eInt vs₂ x1.Chains.Horz, eSl e_T_api_Arc v₆ x1.H, eSl e_T_api_Arc v₇ x1.V, eBox r₁ [.sn, .sn, .sn, .sn, .sn, .sn]] := hW
  refine WO_x (hO₃.stb (ws := [v₂, v₃, v₄, v₅, v₆, v₇]) (cs' := [v₂, v₃, v₄, v₅, v₆, v₇]) (v := .ag [v₂, v₃, v₄, v₅, v₆, v₇]) 9 rfl rfl rfl rfl ⟨rfl, Nat.le_of_ble_eq_true rfl, (all_cons (hO₃.sl 1 rfl : Sl eInt k₃ v₂ x1.Chains.X).oneV (all_cons (hO₃.sl 2 rfl : Sl eInt k₃ v₃ x1.Chains.Y).oneV (all_cons (hO₃.sl 3 rfl : Sl eV k₃ v₄ vs₁).oneV (all_cons (hO₃.sl 5 rfl : Sl eV k₃ v₅ vs₂).oneV (all_cons (hO₃.sl 7 rfl : Sl e_T_api_Arc k₃ v₆ x1.H).oneV (all_cons (hO₃.sl 8 rfl : Sl e_T_api_Arc k₃ v₇ x1.V).oneV all_nil))))))⟩ rfl) ?_
  rintro _ k₄ ⟨rfl, f₂, m₁, hW⟩
  have hO₄ : Own B h k₄ [eSl e_T_api_Cell v₁ x, eSl eInt v₂ x1.Chains.X, eSl eInt v₃ x1.Chains.Y, eSl eV v₄ vs₁, eAll eInt vs₁ x1.Chains.Vert, eSl eV v₅ vs₂, eAll eInt vs₂ x1.Chains.Horz, eSl e_T_api_Arc v₆ x1.H, eSl e_T_api_Arc v₇ x1.V, eBox r₁ [v₂, v₃, v₄, v₅, v₆, v₇]] := hW
  refine WO_v (a_mv (v := .i .i64 x2) rfl) ?_
  refine WO_end ?_
  refine then_n ?_
  refine W_sq ?_
  refine W_sq ?_
  refine W_rg ?_
  refine WO_v (a_mv (v := .i .i64 x2) rfl) ?_
  refine WO_v (a_neI (a := x2) (b := 0) rfl rfl) ?_
  refine WO_v (a_mv (v := .b (!(decide (x2 = 0)))) rfl) ?_
  refine WO_cut 5 (fun fr' k' => k₄ = k' ∧ fr' 19 = .b ((!(decide (x2 = 0))) || (!(decide ((x1.H.length : Int) = 2)))) ∧ fr' 1 = .p r₁ 0) ?_ ?_
  · rcases bc (!(decide (x2 = 0))) with b₁ | b₁
    · skip
      refine WO_off rfl b₁ ?_
      refine WO_off rfl b₁ ?_
      refine WO_off rfl b₁ ?_
      refine WO_off rfl b₁ ?_
      refine WO_v (a_pickT (t := (!(decide (x2 = 0)))) (v := .b ((!(decide (x2 = 0))) || (!(decide ((x1.H.length : Int) = 2))))) rfl b₁ (Eq.trans (b := V.b true) rfl (or_off b₁))) ?_
      refine WO_end ?_
      exact ⟨rfl, rfl, rfl⟩
    · skip
      refine WO_on rfl b₁ ?_
      refine WO_v (a_fa (r := r₁) (o := 0) (o' := 4) rfl rfl) ?_
      refine WO_on rfl b₁ ?_
      refine WO_v (a_ldb (cs := [v₂, v₃, v₄, v₅, v₆, v₇]) (v := v₆) (hO₄.box 9 rfl) rfl rfl) ?_
      refine WO_on rfl b₁ ?_
      refine WO_v (a_len (hO₄.sl 7 rfl : Sl e_T_api_Arc k₄ v₆ x1.H) rfl) ?_
      refine WO_on rfl b₁ ?_
      refine WO_v (a_neI (a := (x1.H.length : Int)) (b := 2) rfl rfl) ?_
      refine WO_v (a_pickF (t := (!(decide (x2 = 0)))) (v := .b ((!(decide (x2 = 0))) || (!(decide ((x1.H.length : Int) = 2))))) rfl b₁ (Eq.trans (b := V.b (!(decide ((x1.H.length : Int) = 2)))) rfl (or_on b₁))) ?_
      refine WO_end ?_
      exact ⟨rfl, rfl, rfl⟩
  rintro frg₁ _ ⟨rfl, g₁_19, g₁_1⟩
  refine WO_v (a_mv (v := .b ((!(decide (x2 = 0))) || (!(decide ((x1.H.length : Int) = 2))))) g₁_19) ?_
  obtain ⟨t, hv₁, hp⟩ := bd_some hp
  refine WO_cut 7 (fun fr' k' => k₄ = k' ∧ fr' 27 = .b t ∧ fr' 1 = .p r₁ 0) ?_ ?_
  · clear hp; rcases if_some hv₁ with ⟨b₂, hp⟩ | ⟨b₂, hp⟩
    · skip
      refine WO_off rfl b₂ ?_
      refine WO_off rfl b₂ ?_
      refine WO_off rfl b₂ ?_
      refine WO_off rfl b₂ ?_
      refine WO_off rfl b₂ ?_
      refine WO_off rfl b₂ ?_
      refine WO_v (a_pickT (t := ((!(decide (x2 = 0))) || (!(decide ((x1.H.length : Int) = 2))))) (v := .b t) rfl b₂ (Eq.trans (b := V.b true) rfl (congrArg V.b (Option.some.inj hp)))) ?_
      refine WO_end ?_
      exact ⟨rfl, rfl, g₁_1⟩
    · skip
      refine WO_on rfl b₂ ?_
      refine WO_v (a_fa (r := r₁) (o := 0) (o' := 4) g₁_1 rfl) ?_
      refine WO_on rfl b₂ ?_
      refine WO_v (a_ldb (cs := [v₂, v₃, v₄, v₅, v₆, v₇]) (v := v₆) (hO₄.box 9 rfl) rfl rfl) ?_
      refine WO_on rfl b₂ ?_
      obtain ⟨c₁, hp⟩ := ck_some hp
      refine WO_v (a_ixa (E := e_T_api_Arc) (z := 1) (hO₄.sl 7 rfl : Sl e_T_api_Arc k₄ v₆ x1.H) rfl rfl c₁) ?_
      refine WO_on rfl b₂ ?_
      refine WO_v (a_ldA (E := e_T_api_Arc) (hO₄.sl 7 rfl : Sl e_T_api_Arc k₄ v₆ x1.H) rfl (toNat_lt c₁)) ?_
      refine WO_on rfl b₂ ?_
      refine WO_v (a_build (cs := e_T_api_Arc.c (⟨0, 1, 1⟩ : T_api_Arc)) (by rw [(ev_cons (v := .i .i64 0) rfl (ev_cons (v := .i .i64 1) rfl (ev_cons (v := .i .i64 1) rfl ev_nil)))]; rfl)) ?_
      refine WO_on rfl b₂ ?_
      refine WO_v (a_neA (as := e_T_api_Arc.c (gi x1.H (1 : Int).toNat)) (bs := e_T_api_Arc.c (⟨0, 1, 1⟩ : T_api_Arc)) rfl rfl (Mu.e_T_api_Arc.same _ _)) ?_
      refine WO_v (a_pickF (t := ((!(decide (x2 = 0))) || (!(decide ((x1.H.length : Int) = 2))))) (v := .b t) rfl b₂ (Eq.trans (b := V.b (!(decide (gi x1.H (1 : Int).toNat = (⟨0, 1, 1⟩ : T_api_Arc))))) rfl (congrArg V.b (Option.some.inj hp)))) ?_
      refine WO_end ?_
      exact ⟨rfl, rfl, g₁_1⟩
  rintro frg₂ _ ⟨rfl, g₂_27, g₂_1⟩
  refine WO_v (a_mv (v := .b t) g₂_27) ?_
  obtain ⟨t1, hv₂, hp⟩ := bd_some hp
  refine WO_cut 7 (fun fr' k' => k₄ = k' ∧ fr' 35 = .b t1 ∧ fr' 1 = .p r₁ 0) ?_ ?_
  · clear hp; rcases if_some hv₂ with ⟨b₃, hp⟩ | ⟨b₃, hp⟩
    · skip
      refine WO_off rfl b₃ ?_
      refine WO_off rfl b₃ ?_
      refine WO_off rfl b₃ ?_
      refine WO_off rfl b₃ ?_
      refine WO_off rfl b₃ ?_
      refine WO_off rfl b₃ ?_
      refine WO_v (a_pickT (t := t) (v := .b t1) rfl b₃ (Eq.trans (b := V.b true) rfl (congrArg V.b (Option.some.inj hp)))) ?_
      refine WO_end ?_
      exact ⟨rfl, rfl, g₂_1⟩
    · skip
      refine WO_on rfl b₃ ?_
      refine WO_v (a_fa (r := r₁) (o := 0) (o' := 5) g₂_1 rfl) ?_
      refine WO_on rfl b₃ ?_
      refine WO_v (a_ldb (cs := [v₂, v₃, v₄, v₅, v₆, v₇]) (v := v₇) (hO₄.box 9 rfl) rfl rfl) ?_
      refine WO_on rfl b₃ ?_
      obtain ⟨c₂, hp⟩ := ck_some hp
      refine WO_v (a_ixa (E := e_T_api_Arc) (z := 0) (hO₄.sl 8 rfl : Sl e_T_api_Arc k₄ v₇ x1.V) rfl rfl c₂) ?_
      refine WO_on rfl b₃ ?_
      refine WO_v (a_ldA (E := e_T_api_Arc) (hO₄.sl 8 rfl : Sl e_T_api_Arc k₄ v₇ x1.V) rfl (toNat_lt c₂)) ?_
      refine WO_on rfl b₃ ?_
      refine WO_v (a_build (cs := e_T_api_Arc.c (⟨0, 1, (0 : Int)⟩ : T_api_Arc)) (by rw [(ev_cons (v := .i .i64 0) rfl (ev_cons (v := .i .i64 1) rfl ev_nil))]; rfl)) ?_
      refine WO_on rfl b₃ ?_
      refine WO_v (a_neA (as := e_T_api_Arc.c (gi x1.V (0 : Int).toNat)) (bs := e_T_api_Arc.c (⟨0, 1, (0 : Int)⟩ : T_api_Arc)) rfl rfl (Mu.e_T_api_Arc.same _ _)) ?_
      refine WO_v (a_pickF (t := t) (v := .b t1) rfl b₃ (Eq.trans (b := V.b (!(decide (gi x1.V (0 : Int).toNat = (⟨0, 1, (0 : Int)⟩ : T_api_Arc))))) rfl (congrArg V.b (Option.some.inj hp)))) ?_
      refine WO_end ?_
      exact ⟨rfl, rfl, g₂_1⟩
  rintro frg₃ _ ⟨rfl, g₃_35, g₃_1⟩
  refine WO_end ?_
  refine then_n ?_
  rcases if_some hp with ⟨b₄, hp⟩ | ⟨b₄, hp⟩
  · refine W_cT (t := t1) g₃_35 b₄ ?_
    refine W_sq ?_
    refine W_rg ?_
    refine WO_v (a_mv (v := .b false) rfl) ?_
    refine WO_end ?_
    refine then_n ?_
    refine W_rt ?_
    refine then_r ?_
    refine Ret_r (rs_t (n := 0) (v := .b false) rfl rs_nil) ?_
    have hp := Option.some.inj hp; subst hp
    exact (And.intro rfl (hO₄.pick [] rfl (by decide)))
  · refine W_cF (t := t1) g₃_35 b₄ ?_
    refine W_sk ?_
    refine then_n ?_
    refine W_sq ?_
    refine W_rg ?_
    refine WO_v (a_fa (r := r₁) (o := 0) (o' := 0) g₃_1 rfl) ?_
    refine WO_v (a_ldbA (cs := [v₂, v₃, v₄, v₅, v₆, v₇]) (ws := [v₂, v₃, v₄, v₅]) (hO₄.box 9 rfl) rfl rfl) ?_
    refine WO_x (hO₄.bsl (E := eInt) (l := ([0, 5] : List Int)) hO₄.fr (by rw [(ev_cons (v := .i .i64 0) rfl (ev_cons (v := .i .i64 5) rfl ev_nil))]; rfl) rfl) ?_
    rintro v₈ k₅ ⟨r₂, f₃, hW⟩
    have hO₅ : Own B h k₅ [eSl e_T_api_Cell v₁ x, eSl eInt v₂ x1.Chains.X, eSl eInt v₃ x1.Chains.Y, eSl eV v₄ vs₁, eAll eInt vs₁ x1.Chains.Vert, eSl eV v₅ vs₂, eAll eInt vs₂ x1.Chains.Horz, eSl e_T_api_Arc v₆ x1.H, eSl e_T_api_Arc v₇ x1.V, eBox r₁ [v₂, v₃, v₄, v₅, v₆, v₇], eSl eInt v₈ ([0, 5] : List Int)] := hW
    refine WO_x (hO₅.bsl (E := eInt) (l := ([0, 2] : List Int)) hO₅.fr (by rw [(ev_cons (v := .i .i64 0) rfl (ev_cons (v := .i .i64 2) rfl ev_nil))]; rfl) rfl) ?_
    rintro v₉ k₆ ⟨r₃, f₄, hW⟩
    have hO₆ : Own B h k₆ [eSl e_T_api_Cell v₁ x, eSl eInt v₂ x1.Chains.X, eSl eInt v₃ x1.Chains.Y, eSl eV v₄ vs₁, eAll eInt vs₁ x1.Chains.Vert, eSl eV v₅ vs₂, eAll eInt vs₂ x1.Chains.Horz, eSl e_T_api_Arc v₆ x1.H, eSl e_T_api_Arc v₇ x1.V, eBox r₁ [v₂, v₃, v₄, v₅, v₆, v₇], eSl eInt v₈ ([0, 5] : List Int), eSl eInt v₉ ([0, 2] : List Int)] := hW
    obtain ⟨⟨x3, x4⟩, hx₃, hp⟩ := bd_some hp
    obtain ⟨u₃, k₇, ca₃, v₁₀, rfl, hW₃⟩ := p_arcs_Place.ok (h := k₆)  (hO₆.sl 1 rfl : Sl eInt k₆ v₂ x1.Chains.X) (hO₆.sl 2 rfl : Sl eInt k₆ v₃ x1.Chains.Y) (hO₆.sl 3 rfl : Sl eV k₆ v₄ vs₁) (hO₆.allLen 4 rfl : (vs₁).length = (x1.Chains.Vert).length) (fun j hj => hO₆.inn 4 rfl hj) (hO₆.sl 5 rfl : Sl eV k₆ v₅ vs₂) (hO₆.allLen 6 rfl : (vs₂).length = (x1.Chains.Horz).length) (fun j hj => hO₆.inn 6 rfl hj) (hO₆.sl 10 rfl : Sl eInt k₆ v₈ ([0, 5] : List Int)) (hO₆.sl 11 rfl : Sl eInt k₆ v₉ ([0, 2] : List Int)) hx₃
    refine WO_c (id := 132) (caps := []) rfl (mp_cons (v := .ag [v₂, v₃, v₄, v₅]) rfl (mp_cons (v := v₈) rfl (mp_cons (v := v₉) rfl mp_nil))) ca₃ ?_
    have hO₇ : Own B h k₇ [eSl e_T_api_Cell v₁ x, eSl eInt v₂ x1.Chains.X, eSl eInt v₃ x1.Chains.Y, eSl eV v₄ vs₁, eAll eInt vs₁ x1.Chains.Vert, eSl eV v₅ vs₂, eAll eInt vs₂ x1.Chains.Horz, eSl e_T_api_Arc v₆ x1.H, eSl e_T_api_Arc v₇ x1.V, eBox r₁ [v₂, v₃, v₄, v₅, v₆, v₇], eSl eInt v₈ ([0, 5] : List Int), eSl eInt v₉ ([0, 2] : List Int), eSl e_T_api_Point v₁₀ x3] := hO₆.call hW₃ rfl
    refine WO_v (a_mv (v := .tu [v₁₀, .i .i64 x4]) rfl) ?_
    refine WO_v (a_ext (vs := [v₁₀, .i .i64 x4]) (v := v₁₀) rfl rfl) ?_
    refine WO_v (a_ext (vs := [v₁₀, .i .i64 x4]) (v := .i .i64 x4) rfl rfl) ?_
    refine WO_v (a_mv (v := v₁₀) rfl) ?_
    refine WO_v (a_mv (v := .i .i64 x4) rfl) ?_
    refine WO_end ?_
    refine then_n ?_
    refine W_sq ?_
    refine W_rg ?_
    obtain ⟨x5, hx₄, hp⟩ := bd_some hp
    obtain ⟨u₄, k₈, ca₄, v₁₁, rfl, hW₄⟩ := p_muntinlaw17_square.ok (h := k₇)   hx₄
    refine WO_c (id := 145) (caps := []) rfl mp_nil ca₄ ?_
    have hO₈ : Own B h k₈ [eSl e_T_api_Cell v₁ x, eSl eInt v₂ x1.Chains.X, eSl eInt v₃ x1.Chains.Y, eSl eV v₄ vs₁, eAll eInt vs₁ x1.Chains.Vert, eSl eV v₅ vs₂, eAll eInt vs₂ x1.Chains.Horz, eSl e_T_api_Arc v₆ x1.H, eSl e_T_api_Arc v₇ x1.V, eBox r₁ [v₂, v₃, v₄, v₅, v₆, v₇], eSl eInt v₈ ([0, 5] : List Int), eSl eInt v₉ ([0, 2] : List Int), eSl e_T_api_Point v₁₀ x3, eSl e_T_api_Cell v₁₁ x5] := hO₇.call hW₄ rfl
    refine WO_v (a_mv (v := v₁₀) rfl) ?_
    obtain ⟨⟨x6, x7⟩, hx₅, hp⟩ := bd_some hp
    obtain ⟨u₅, k₉, ca₅, rfl, hW₅⟩ := p_arcs_Length.ok (h := k₈)  (hO₈.sl 13 rfl : Sl e_T_api_Cell k₈ v₁₁ x5) (hO₈.sl 12 rfl : Sl e_T_api_Point k₈ v₁₀ x3) hx₅
    refine WO_c (id := 133) (caps := []) rfl (mp_cons (v := v₁₁) rfl (mp_cons (v := v₁₀) rfl mp_nil)) ca₅ ?_
    have hO₉ : Own B h k₉ [eSl e_T_api_Cell v₁ x, eSl eInt v₂ x1.Chains.X, eSl eInt v₃ x1.Chains.Y, eSl eV v₄ vs₁, eAll eInt vs₁ x1.Chains.Vert, eSl eV v₅ vs₂, eAll eInt vs₂ x1.Chains.Horz, eSl e_T_api_Arc v₆ x1.H, eSl e_T_api_Arc v₇ x1.V, eBox r₁ [v₂, v₃, v₄, v₅, v₆, v₇], eSl eInt v₈ ([0, 5] : List Int), eSl eInt v₉ ([0, 2] : List Int), eSl e_T_api_Point v₁₀ x3, eSl e_T_api_Cell v₁₁ x5] := hO₈.call hW₅ rfl
    refine WO_v (a_mv (v := .tu [.i .i64 x6, .i .i64 x7]) rfl) ?_
    refine WO_v (a_ext (vs := [.i .i64 x6, .i .i64 x7]) (v := .i .i64 x6) rfl rfl) ?_
    refine WO_v (a_ext (vs := [.i .i64 x6, .i .i64 x7]) (v := .i .i64 x7) rfl rfl) ?_
    refine WO_v (a_mv (v := .i .i64 x6) rfl) ?_
    refine WO_v (a_mv (v := .i .i64 x7) rfl) ?_
    refine WO_end ?_
    refine then_n ?_
    refine W_sq ?_
    refine W_rg ?_
    refine WO_v (a_mv (v := .i .i64 x4) rfl) ?_
    refine WO_v (a_eqI (a := x4) (b := 0) rfl rfl) ?_
    refine WO_v (a_mv (v := .b (decide (x4 = 0))) rfl) ?_
    refine WO_cut 4 (fun fr' k' => k₉ = k' ∧ fr' 56 = .b ((decide (x4 = 0)) && (decide ((x3.length : Int) = 4))) ∧ fr' 3 = v₁₀ ∧ fr' 5 = .i .i64 x6 ∧ fr' 6 = .i .i64 x7) ?_ ?_
    · rcases bc (decide (x4 = 0)) with b₅ | b₅
      · skip
        refine WO_on rfl b₅ ?_
        refine WO_v (a_mv (v := v₁₀) rfl) ?_
        refine WO_on rfl b₅ ?_
        refine WO_v (a_len (hO₉.sl 12 rfl : Sl e_T_api_Point k₉ v₁₀ x3) rfl) ?_
        refine WO_on rfl b₅ ?_
        refine WO_v (a_eqI (a := (x3.length : Int)) (b := 4) rfl rfl) ?_
        refine WO_v (a_pickT (t := (decide (x4 = 0))) (v := .b ((decide (x4 = 0)) && (decide ((x3.length : Int) = 4)))) rfl b₅ (Eq.trans (b := V.b (decide ((x3.length : Int) = 4))) rfl (and_on b₅))) ?_
        refine WO_end ?_
        exact ⟨rfl, rfl, rfl, rfl, rfl⟩
      · skip
        refine WO_off rfl b₅ ?_
        refine WO_off rfl b₅ ?_
        refine WO_off rfl b₅ ?_
        refine WO_v (a_pickF (t := (decide (x4 = 0))) (v := .b ((decide (x4 = 0)) && (decide ((x3.length : Int) = 4)))) rfl b₅ (Eq.trans (b := V.b false) rfl (and_off b₅))) ?_
        refine WO_end ?_
        exact ⟨rfl, rfl, rfl, rfl, rfl⟩
    rintro frg₄ _ ⟨rfl, g₄_56, g₄_3, g₄_5, g₄_6⟩
    refine WO_v (a_mv (v := .b ((decide (x4 = 0)) && (decide ((x3.length : Int) = 4)))) g₄_56) ?_
    obtain ⟨t2, hv₃, hp⟩ := bd_some hp
    refine WO_cut 6 (fun fr' k' => k₉ = k' ∧ fr' 63 = .b t2 ∧ fr' 5 = .i .i64 x6 ∧ fr' 6 = .i .i64 x7) ?_ ?_
    · clear hp; rcases if_some hv₃ with ⟨b₆, hp⟩ | ⟨b₆, hp⟩
      · skip
        refine WO_on rfl b₆ ?_
        refine WO_v (a_mv (v := v₁₀) g₄_3) ?_
        refine WO_on rfl b₆ ?_
        obtain ⟨c₃, hp⟩ := ck_some hp
        refine WO_v (a_ixa (E := e_T_api_Point) (z := 2) (hO₉.sl 12 rfl : Sl e_T_api_Point k₉ v₁₀ x3) rfl rfl c₃) ?_
        refine WO_on rfl b₆ ?_
        refine WO_v (a_ldA (E := e_T_api_Point) (hO₉.sl 12 rfl : Sl e_T_api_Point k₉ v₁₀ x3) rfl (toNat_lt c₃)) ?_
        refine WO_on rfl b₆ ?_
        refine WO_v (a_build (cs := e_T_api_Point.c (⟨5, 2⟩ : T_api_Point)) (by rw [(ev_cons (v := .i .i64 5) rfl (ev_cons (v := .i .i64 2) rfl ev_nil))]; rfl)) ?_
        refine WO_on rfl b₆ ?_
        refine WO_v (a_eqA (as := e_T_api_Point.c (gi x3 (2 : Int).toNat)) (bs := e_T_api_Point.c (⟨5, 2⟩ : T_api_Point)) rfl rfl (Mu.e_T_api_Point.same _ _)) ?_
        refine WO_v (a_pickT (t := ((decide (x4 = 0)) && (decide ((x3.length : Int) = 4)))) (v := .b t2) rfl b₆ (Eq.trans (b := V.b (decide (gi x3 (2 : Int).toNat = (⟨5, 2⟩ : T_api_Point)))) rfl (congrArg V.b (Option.some.inj hp)))) ?_
        refine WO_end ?_
        exact ⟨rfl, rfl, g₄_5, g₄_6⟩
      · skip
        refine WO_off rfl b₆ ?_
        refine WO_off rfl b₆ ?_
        refine WO_off rfl b₆ ?_
        refine WO_off rfl b₆ ?_
        refine WO_off rfl b₆ ?_
        refine WO_v (a_pickF (t := ((decide (x4 = 0)) && (decide ((x3.length : Int) = 4)))) (v := .b t2) rfl b₆ (Eq.trans (b := V.b false) rfl (congrArg V.b (Option.some.inj hp)))) ?_
        refine WO_end ?_
        exact ⟨rfl, rfl, g₄_5, g₄_6⟩
    rintro frg₅ _ ⟨rfl, g₅_63, g₅_5, g₅_6⟩
    refine WO_v (a_mv (v := .b t2) g₅_63) ?_
    refine WO_cut 3 (fun fr' k' => k₉ = k' ∧ fr' 67 = .b (t2 && (decide (x6 = 12))) ∧ fr' 6 = .i .i64 x7) ?_ ?_
    · rcases bc t2 with b₇ | b₇
      · skip
        refine WO_on rfl b₇ ?_
        refine WO_v (a_mv (v := .i .i64 x6) g₅_5) ?_
        refine WO_on rfl b₇ ?_
        refine WO_v (a_eqI (a := x6) (b := 12) rfl rfl) ?_
        refine WO_v (a_pickT (t := t2) (v := .b (t2 && (decide (x6 = 12)))) rfl b₇ (Eq.trans (b := V.b (decide (x6 = 12))) rfl (and_on b₇))) ?_
        refine WO_end ?_
        exact ⟨rfl, rfl, g₅_6⟩
      · skip
        refine WO_off rfl b₇ ?_
        refine WO_off rfl b₇ ?_
        refine WO_v (a_pickF (t := t2) (v := .b (t2 && (decide (x6 = 12)))) rfl b₇ (Eq.trans (b := V.b false) rfl (and_off b₇))) ?_
        refine WO_end ?_
        exact ⟨rfl, rfl, g₅_6⟩
    rintro frg₆ _ ⟨rfl, g₆_67, g₆_6⟩
    refine WO_v (a_mv (v := .b (t2 && (decide (x6 = 12)))) g₆_67) ?_
    refine WO_cut 3 (fun fr' k' => k₉ = k' ∧ fr' 71 = .b ((t2 && (decide (x6 = 12))) && (decide (x7 = 0)))) ?_ ?_
    · rcases bc (t2 && (decide (x6 = 12))) with b₈ | b₈
      · skip
        refine WO_on rfl b₈ ?_
        refine WO_v (a_mv (v := .i .i64 x7) g₆_6) ?_
        refine WO_on rfl b₈ ?_
        refine WO_v (a_eqI (a := x7) (b := 0) rfl rfl) ?_
        refine WO_v (a_pickT (t := (t2 && (decide (x6 = 12)))) (v := .b ((t2 && (decide (x6 = 12))) && (decide (x7 = 0)))) rfl b₈ (Eq.trans (b := V.b (decide (x7 = 0))) rfl (and_on b₈))) ?_
        refine WO_end ?_
        exact ⟨rfl, rfl⟩
      · skip
        refine WO_off rfl b₈ ?_
        refine WO_off rfl b₈ ?_
        refine WO_v (a_pickF (t := (t2 && (decide (x6 = 12)))) (v := .b ((t2 && (decide (x6 = 12))) && (decide (x7 = 0)))) rfl b₈ (Eq.trans (b := V.b false) rfl (and_off b₈))) ?_
        refine WO_end ?_
        exact ⟨rfl, rfl⟩
    rintro frg₇ _ ⟨rfl, g₇_71⟩
    refine WO_v (a_mv (v := .b ((t2 && (decide (x6 = 12))) && (decide (x7 = 0)))) g₇_71) ?_
    refine WO_end ?_
    refine then_n ?_
    refine W_rt ?_
    refine Ret_r (rs_t (n := 0) (v := .b ((t2 && (decide (x6 = 12))) && (decide (x7 = 0)))) rfl rs_nil) ?_
    have hp := Option.some.inj hp; subst hp
    exact (And.intro rfl (hO₉.pick [] rfl (by decide)))

theorem p_muntinlaw17_ArcsTurn.ok {h : Hp} {z : T_muntinref10_Places} {by_ : A3 Int} {v_z_At : V} {v_z_Bits : V} {v_z_Own : V} (s_z_At : Sl e_u8 h v_z_At z.At) (s_z_Bits : Sl e_u8 h v_z_Bits z.Bits) (s_z_Own : Sl e_i8 h v_z_Own z.Own) {r : Bool} (hp : p_muntinlaw17_ArcsTurn z by_ = some r) :
    ∃ u k', Is G 152 [.ag [v_z_At, v_z_Bits, v_z_Own], .ag (e_A3_i8.c by_)] h u k' ∧ V.b r = u ∧ Own (fun r => r < h.n) h k' [] := by
  refine WC.is (WC_of G_F_muntinlaw17_ArcsTurn ?_)
  unfold p_muntinlaw17_ArcsTurn at hp
  let B : Nat → Prop := (fun r => r < h.n)
  have hO : Own B h h [] := Own.start0 h
  refine W_sq ?_
  refine W_rg ?_
  refine WO_x (hO.boxd (v := .ag [v_z_At, v_z_Bits, v_z_Own]) (cs := [v_z_At, v_z_Bits, v_z_Own]) hO.fr rfl rfl) ?_
  rintro _ k₁ ⟨r₁, rfl, n₁, f₁, hW⟩
  have hO₁ : Own B h k₁ [eBox r₁ [v_z_At, v_z_Bits, v_z_Own]] := hW
  refine WO_x (hO₁.boxd (v := .ag (e_A3_i8.c by_)) (cs := e_A3_i8.c by_) hO₁.fr rfl rfl) ?_
  rintro _ k₂ ⟨r₂, rfl, n₂, f₂, hW⟩
  have hO₂ : Own B h k₂ [eBox r₁ [v_z_At, v_z_Bits, v_z_Own], eBox r₂ (e_A3_i8.c by_)] := hW
  refine WO_v (a_mv (v := .b false) rfl) ?_
  refine WO_end ?_
  refine then_n ?_
  refine W_sq ?_
  refine W_rg ?_
  refine WO_v (a_ldbA (cs := [v_z_At, v_z_Bits, v_z_Own]) (ws := [v_z_At, v_z_Bits, v_z_Own]) (hO₂.box 0 rfl) rfl rfl) ?_
  obtain ⟨⟨x, x1⟩, hx₁, hp⟩ := bd_some hp
  obtain ⟨u₁, k₃, ca₁, v₁, v₂, rfl, hW₁⟩ := p_muntinref10_Make.ok (h := k₂)  (hO₂.rd0 s_z_At.rd : Sl e_u8 k₂ v_z_At z.At) (hO₂.rd0 s_z_Bits.rd : Sl e_u8 k₂ v_z_Bits z.Bits) (hO₂.rd0 s_z_Own.rd : Sl e_i8 k₂ v_z_Own z.Own) hx₁
  refine WO_c (id := 28) (caps := []) rfl (mp_cons (v := .ag [v_z_At, v_z_Bits, v_z_Own]) rfl (mp_cons (v := .i .i64 16) rfl mp_nil)) ca₁ ?_
  have hO₃ : Own B h k₃ [eBox r₁ [v_z_At, v_z_Bits, v_z_Own], eBox r₂ (e_A3_i8.c by_), eSl e_T_api_Cell v₁ x, eSl e_T_api_Point v₂ x1] := hO₂.call hW₁ rfl
  refine WO_v (a_mv (v := .tu [v₁, v₂]) rfl) ?_
  refine WO_v (a_ext (vs := [v₁, v₂]) (v := v₁) rfl rfl) ?_
  refine WO_v (a_ext (vs := [v₁, v₂]) (v := v₂) rfl rfl) ?_
  refine WO_v (a_mv (v := v₁) rfl) ?_
  refine WO_v (a_mv (v := v₂) rfl) ?_
  refine WO_end ?_
  refine then_n ?_
  refine W_sq ?_
  refine W_rg ?_
  refine WO_v (a_mv (v := v₁) rfl) ?_
  refine WO_v (a_mv (v := v₂) rfl) ?_
  obtain ⟨⟨x2, x3⟩, hx₂, hp⟩ := bd_some hp
  obtain ⟨u₂, k₄, ca₂, rfl, hW₂⟩ := p_arcs_Length.ok (h := k₃)  (hO₃.sl 2 rfl : Sl e_T_api_Cell k₃ v₁ x) (hO₃.sl 3 rfl : Sl e_T_api_Point k₃ v₂ x1) hx₂
  refine WO_c (id := 133) (caps := []) rfl (mp_cons (v := v₁) rfl (mp_cons (v := v₂) rfl mp_nil)) ca₂ ?_
  have hO₄ : Own B h k₄ [eBox r₁ [v_z_At, v_z_Bits, v_z_Own], eBox r₂ (e_A3_i8.c by_), eSl e_T_api_Cell v₁ x, eSl e_T_api_Point v₂ x1] := hO₃.call hW₂ rfl
  refine WO_v (a_mv (v := .tu [.i .i64 x2, .i .i64 x3]) rfl) ?_
  refine WO_v (a_ext (vs := [.i .i64 x2, .i .i64 x3]) (v := .i .i64 x2) rfl rfl) ?_
  refine WO_v (a_ext (vs := [.i .i64 x2, .i .i64 x3]) (v := .i .i64 x3) rfl rfl) ?_
  refine WO_v (a_mv (v := .i .i64 x2) rfl) ?_
  refine WO_v (a_mv (v := .i .i64 x3) rfl) ?_
  refine WO_end ?_
  refine then_n ?_
  refine W_sq ?_
  refine W_rg ?_
  refine WO_v (a_mv (v := v₁) rfl) ?_
  obtain ⟨x4, hx₃, hp⟩ := bd_some hp
  obtain ⟨u₃, k₅, ca₃, v₃, rfl, hW₃⟩ := p_muntinref10_Turned.ok (h := k₄)  (hO₄.sl 2 rfl : Sl e_T_api_Cell k₄ v₁ x) hx₃
  refine WO_c (id := 116) (caps := []) rfl (mp_cons (v := v₁) rfl mp_nil) ca₃ ?_
  have hO₅ : Own B h k₅ [eBox r₁ [v_z_At, v_z_Bits, v_z_Own], eBox r₂ (e_A3_i8.c by_), eSl e_T_api_Cell v₁ x, eSl e_T_api_Point v₂ x1, eSl e_T_api_Cell v₃ x4] := hO₄.call hW₃ rfl
  refine WO_v (a_mv (v := v₂) rfl) ?_
  obtain ⟨x5, hx₄, hp⟩ := bd_some hp
  obtain ⟨u₄, k₆, ca₄, v₄, rfl, hW₄⟩ := p_muntinref10_TurnedAt.ok (h := k₅)  (hO₅.sl 3 rfl : Sl e_T_api_Point k₅ v₂ x1) hx₄
  refine WO_c (id := 164) (caps := []) rfl (mp_cons (v := v₂) rfl mp_nil) ca₄ ?_
  have hO₆ : Own B h k₆ [eBox r₁ [v_z_At, v_z_Bits, v_z_Own], eBox r₂ (e_A3_i8.c by_), eSl e_T_api_Cell v₁ x, eSl e_T_api_Point v₂ x1, eSl e_T_api_Cell v₃ x4, eSl e_T_api_Point v₄ x5] := hO₅.call hW₄ rfl
  obtain ⟨⟨x6, x7⟩, hx₅, hp⟩ := bd_some hp
  obtain ⟨u₅, k₇, ca₅, rfl, hW₅⟩ := p_arcs_Length.ok (h := k₆)  (hO₆.sl 4 rfl : Sl e_T_api_Cell k₆ v₃ x4) (hO₆.sl 5 rfl : Sl e_T_api_Point k₆ v₄ x5) hx₅
  refine WO_c (id := 133) (caps := []) rfl (mp_cons (v := v₃) rfl (mp_cons (v := v₄) rfl mp_nil)) ca₅ ?_
  have hO₇ : Own B h k₇ [eBox r₁ [v_z_At, v_z_Bits, v_z_Own], eBox r₂ (e_A3_i8.c by_), eSl e_T_api_Cell v₁ x, eSl e_T_api_Point v₂ x1, eSl e_T_api_Cell v₃ x4, eSl e_T_api_Point v₄ x5] := hO₆.call hW₅ rfl
  refine WO_v (a_mv (v := .tu [.i .i64 x6, .i .i64 x7]) rfl) ?_
  refine WO_v (a_ext (vs := [.i .i64 x6, .i .i64 x7]) (v := .i .i64 x6) rfl rfl) ?_
  refine WO_v (a_ext (vs := [.i .i64 x6, .i .i64 x7]) (v := .i .i64 x7) rfl rfl) ?_
  refine WO_v (a_mv (v := .i .i64 x6) rfl) ?_
  refine WO_v (a_mv (v := .i .i64 x7) rfl) ?_
  refine WO_end ?_
  refine then_n ?_
  refine W_sq ?_
  refine W_rg ?_
  refine WO_v (a_ixaa (o := 0) (o' := 2) (z := 2) rfl rfl (by decide) rfl) ?_
  refine WO_v (a_ldb (cs := (e_A3_i8.c by_)) (v := .i .i8 (by_.get 2)) (hO₇.box 1 rfl) rfl rfl) ?_
  refine WO_v (a_ari (a := (by_.get 2)) (b := 7) (v := .i .i8 (ari_and .i8 (by_.get 2) 7)) rfl rfl (by decide) rfl) ?_
  obtain ⟨c₁, hp⟩ := ck_some hp
  refine WO_v (a_conv (a := (ari_and .i8 (by_.get 2) 7)) rfl c₁) ?_
  obtain ⟨c₂, hp⟩ := ck_some hp
  refine WO_v (a_add (a := 1) (b := (ari_and .i8 (by_.get 2) 7)) rfl rfl c₂) ?_
  refine WO_v (a_mv (v := .i .i64 (1 + (ari_and .i8 (by_.get 2) 7))) rfl) ?_
  refine WO_end ?_
  refine then_n ?_
  refine W_sq ?_
  refine W_rg ?_
  refine WO_v (a_mv (v := v₂) rfl) ?_
  obtain ⟨x8, hx₆, hp⟩ := bd_some hp
  obtain ⟨u₆, k₈, ca₆, v₅, rfl, hW₆⟩ := p_slices_Clone_api_Point.ok (h := k₇)  (hO₇.sl 3 rfl : Sl e_T_api_Point k₇ v₂ x1) hx₆
  refine WO_c (id := 165) (caps := []) rfl (mp_cons (v := v₂) rfl mp_nil) ca₆ ?_
  have hO₈ : Own B h k₈ [eBox r₁ [v_z_At, v_z_Bits, v_z_Own], eBox r₂ (e_A3_i8.c by_), eSl e_T_api_Cell v₁ x, eSl e_T_api_Point v₂ x1, eSl e_T_api_Cell v₃ x4, eSl e_T_api_Point v₄ x5, eSl e_T_api_Point v₅ x8] := hO₇.call hW₆ rfl
  refine WO_v (a_mv (v := v₅) rfl) ?_
  refine WO_end ?_
  refine then_n ?_
  refine W_sq ?_
  refine W_sq ?_
  refine W_rg ?_
  refine WO_v (a_mv (v := v₅) rfl) ?_
  refine WO_v (a_len (hO₈.sl 6 rfl : Sl e_T_api_Point k₈ v₅ x8) rfl) ?_
  refine WO_v (a_mv (v := .i .i64 0) rfl) ?_
  refine WO_end ?_
  refine then_n ?_
  refine W_bl ?_
  obtain ⟨o₁, ho₁, hp⟩ := bd_some hp
  refine W.mono (Q := fun e fr k => match (generalizing := false) o₁ with
      | wide1 => e = (.exit 0) ∧ fr 5 = v₁ ∧ fr 7 = .i .i64 x2 ∧ fr 8 = .i .i64 x3 ∧ fr 9 = .i .i64 x6 ∧ fr 10 = .i .i64 x7 ∧ fr 11 = .i .i64 (1 + (ari_and .i8 (by_.get 2) 7)) ∧ fr 12 = v₅ ∧ Own B h k [eSl e_T_api_Cell v₁ x, eSl e_T_api_Point v₅ wide1]) ?_ ?_
  · clear hp
    refine W_loopF (fun st fr k => match st with | (wide, x9) => fr 3 = .p r₂ 0 ∧ fr 5 = v₁ ∧ fr 7 = .i .i64 x2 ∧ fr 8 = .i .i64 x3 ∧ fr 9 = .i .i64 x6 ∧ fr 10 = .i .i64 x7 ∧ fr 11 = .i .i64 (1 + (ari_and .i8 (by_.get 2) 7)) ∧ fr 12 = v₅ ∧ fr 43 = .i .i64 (x8.length : Int) ∧ fr 44 = .i .i64 x9 ∧ Own B h k [eBox r₂ (e_A3_i8.c by_), eSl e_T_api_Cell v₁ x, eSl e_T_api_Point v₅ wide]) ho₁ (s := (x8, 0)) (And.intro (rfl) (And.intro (rfl) (And.intro (rfl) (And.intro (rfl) (And.intro (rfl) (And.intro (rfl) (And.intro (rfl) (And.intro (rfl) (And.intro (rfl) (And.intro (rfl) (hO₈.pick [1, 2, 6] rfl (by decide)))))))))))) ?_
    rintro ⟨wide, x9⟩ q₂ k₁₀ ⟨q₂_3, q₂_5, q₂_7, q₂_8, q₂_9, q₂_10, q₂_11, q₂_12, q₂_43, q₂_44, hO₁₀⟩ o₂ hp
    dsimp only [p_muntinlaw17_ArcsTurn.s0] at hp
    refine W_sq ?_
    refine W_rg ?_
    refine WO_v (a_lss (a := x9) (b := (x8.length : Int)) q₂_44 q₂_43) ?_
    refine WO_end ?_
    refine then_n ?_
    refine W_sq ?_
    rcases if_some hp with ⟨b₁, hp⟩ | ⟨b₁, hp⟩
    · refine W_cT (t := (decide (x9 < (x8.length : Int)))) rfl b₁ ?_
      refine W_sk ?_
      refine then_n ?_
      refine W_sq ?_
      refine W_bl ?_
      refine W_sq ?_
      refine W_rg ?_
      refine WO_v (a_mv (v := .i .i64 x9) q₂_44) ?_
      refine WO_v (a_mv (v := .i .i64 x9) rfl) ?_
      refine WO_end ?_
      refine then_n ?_
      refine W_dr ?_
      have hW := hO₁₀.bump 27
      have fr₁ := Fresh.start k₁₀ 27
      have nb₁ : ∀ {i : Nat}, h.n ≤ k₁₀.n + i := Nat.le_trans hO₁₀.n (Nat.le_add_right _ _)
      have hO₁₁ : Own B h (k₁₀.bump 27) [eBox r₂ (e_A3_i8.c by_), eSl e_T_api_Cell v₁ x, eSl e_T_api_Point v₅ wide] := hW
      refine WD_v (a_mv (v := v₅) q₂_12) ?_
      refine WD_v (a_mv (v := .i .i64 x9) rfl) ?_
      refine WD_v (a_mv (v := .i .i64 (1 + (ari_and .i8 (by_.get 2) 7))) q₂_11) ?_
      refine WD_v (a_mv (v := v₅) q₂_12) ?_
      refine WD_v (a_mv (v := .i .i64 x9) rfl) ?_
      obtain ⟨c₃, hp⟩ := ck_some hp
      refine WD_v (a_ixa (E := e_T_api_Point) (z := x9) (hO₁₁.sl 2 rfl : Sl e_T_api_Point (k₁₀.bump 27) v₅ wide) rfl rfl c₃) ?_
      refine WD_v (a_faE (off' := 0) (off2 := 0) (hO₁₁.sl 2 rfl : Sl e_T_api_Point (k₁₀.bump 27) v₅ wide) (toNat_lt c₃) rfl rfl) ?_
      refine WD_v (a_ldE (w := .i .i64 ((gi wide (x9 : Int).toNat).X)) (hO₁₁.sl 2 rfl : Sl e_T_api_Point (k₁₀.bump 27) v₅ wide) rfl (toNat_lt c₃) rfl) ?_
      obtain ⟨c₄, hp⟩ := ck_some hp
      refine WD_v (a_mul (a := (1 + (ari_and .i8 (by_.get 2) 7))) (b := ((gi wide (x9 : Int).toNat).X)) rfl rfl c₄) ?_
      refine WD_v (a_ixaa (o := 0) (o' := 0) (z := 0) q₂_3 rfl (by decide) rfl) ?_
      refine WD_v (a_ldb (cs := (e_A3_i8.c by_)) (v := .i .i8 (by_.get 0)) (hO₁₁.box 0 rfl) rfl rfl) ?_
      obtain ⟨c₅, hp⟩ := ck_some hp
      refine WD_v (a_conv (a := (by_.get 0)) rfl c₅) ?_
      obtain ⟨c₆, hp⟩ := ck_some hp
      refine WD_v (a_add (a := ((1 + (ari_and .i8 (by_.get 2) 7)) * ((gi wide (x9 : Int).toNat).X))) (b := (by_.get 0)) rfl rfl c₆) ?_
      refine WD_v (a_mv (v := .i .i64 (1 + (ari_and .i8 (by_.get 2) 7))) q₂_11) ?_
      refine WD_v (a_mv (v := v₅) q₂_12) ?_
      refine WD_v (a_mv (v := .i .i64 x9) rfl) ?_
      refine WD_v (a_ixa (E := e_T_api_Point) (z := x9) (hO₁₁.sl 2 rfl : Sl e_T_api_Point (k₁₀.bump 27) v₅ wide) rfl rfl c₃) ?_
      refine WD_v (a_faE (off' := 0) (off2 := 1) (hO₁₁.sl 2 rfl : Sl e_T_api_Point (k₁₀.bump 27) v₅ wide) (toNat_lt c₃) rfl rfl) ?_
      refine WD_v (a_ldE (w := .i .i64 ((gi wide (x9 : Int).toNat).Y)) (hO₁₁.sl 2 rfl : Sl e_T_api_Point (k₁₀.bump 27) v₅ wide) rfl (toNat_lt c₃) rfl) ?_
      obtain ⟨c₇, hp⟩ := ck_some hp
      refine WD_v (a_mul (a := (1 + (ari_and .i8 (by_.get 2) 7))) (b := ((gi wide (x9 : Int).toNat).Y)) rfl rfl c₇) ?_
      refine WD_v (a_ixaa (o := 0) (o' := 1) (z := 1) q₂_3 rfl (by decide) rfl) ?_
      refine WD_v (a_ldb (cs := (e_A3_i8.c by_)) (v := .i .i8 (by_.get 1)) (hO₁₁.box 0 rfl) rfl rfl) ?_
      obtain ⟨c₈, hp⟩ := ck_some hp
      refine WD_v (a_conv (a := (by_.get 1)) rfl c₈) ?_
      obtain ⟨c₉, hp⟩ := ck_some hp
      refine WD_v (a_add (a := ((1 + (ari_and .i8 (by_.get 2) 7)) * ((gi wide (x9 : Int).toNat).Y))) (b := (by_.get 1)) rfl rfl c₉) ?_
      refine WD_v (a_build (cs := e_T_api_Point.c (⟨((1 + (ari_and .i8 (by_.get 2) 7)) * ((gi wide (x9 : Int).toNat).X)) + (by_.get 0), ((1 + (ari_and .i8 (by_.get 2) 7)) * ((gi wide (x9 : Int).toNat).Y)) + (by_.get 1)⟩ : T_api_Point)) (by rw [(ev_cons (v := .i .i64 (((1 + (ari_and .i8 (by_.get 2) 7)) * ((gi wide (x9 : Int).toNat).X)) + (by_.get 0))) rfl (ev_cons (v := .i .i64 (((1 + (ari_and .i8 (by_.get 2) 7)) * ((gi wide (x9 : Int).toNat).Y)) + (by_.get 1))) rfl ev_nil))]; rfl)) ?_
      refine WD_v (a_ixa (E := e_T_api_Point) (z := x9) (hO₁₁.sl 2 rfl : Sl e_T_api_Point (k₁₀.bump 27) v₅ wide) rfl rfl c₃) ?_
      refine WD_x (hO₁₁.ste (E := e_T_api_Point) (y := (⟨((1 + (ari_and .i8 (by_.get 2) 7)) * ((gi wide (x9 : Int).toNat).X)) + (by_.get 0), ((1 + (ari_and .i8 (by_.get 2) 7)) * ((gi wide (x9 : Int).toNat).Y)) + (by_.get 1)⟩ : T_api_Point)) (ws := e_T_api_Point.c (⟨((1 + (ari_and .i8 (by_.get 2) 7)) * ((gi wide (x9 : Int).toNat).X)) + (by_.get 0), ((1 + (ari_and .i8 (by_.get 2) 7)) * ((gi wide (x9 : Int).toNat).Y)) + (by_.get 1)⟩ : T_api_Point)) 2 rfl rfl (toNat_lt c₃) rfl rfl ⟨rfl, Nat.le_of_ble_eq_true rfl, rfl⟩ rfl) ?_
      rintro _ k₁₂ z₁ ⟨rfl, f₃, m₁, hW⟩
      have fr₂ := fr₁.kept f₃ (by decide)
      have hO₁₂ : Own B h k₁₂ [eBox r₂ (e_A3_i8.c by_), eSl e_T_api_Cell v₁ x, eSl e_T_api_Point v₅ (wide.set (x9 : Int).toNat (⟨((1 + (ari_and .i8 (by_.get 2) 7)) * ((gi wide (x9 : Int).toNat).X)) + (by_.get 0), ((1 + (ari_and .i8 (by_.get 2) 7)) * ((gi wide (x9 : Int).toNat).Y)) + (by_.get 1)⟩ : T_api_Point))] := hW
      refine WD_end ?_
      refine And.intro ?_ ?_
      · intro q hq
        simp only [List.mem_cons, List.not_mem_nil, or_false] at hq
        rcases hq with rfl | rfl | rfl | rfl | rfl | rfl
        · refine ap_ll ?_ ?_
          · exact (fun h => nomatch h)
          · exact (fun h => nomatch h)
        · refine ap_ll ?_ ?_
          · exact (fun h => nomatch h)
          · exact (fun h => nomatch h)
        · refine ap_ll ?_ ?_
          · exact (fun h => nomatch h)
          · exact (fun h => nomatch h)
        · refine ap_ll ?_ ?_
          · exact (fun h => nomatch h)
          · exact (fun h => nomatch h)
        · refine ap_ll ?_ ?_
          · exact (fun h => nomatch h)
          · exact (fun h => nomatch h)
        · refine ap_ll ?_ ?_
          · exact (fun h => nomatch h)
          · exact (fun h => nomatch h)
      refine blk_n ?_
      refine then_n ?_
      refine W_rg ?_
      obtain ⟨c₁₀, hp⟩ := ck_some hp
      refine WO_v (a_add (a := x9) (b := 1) q₂_44 rfl c₁₀) ?_
      refine WO_v (a_mv (v := .i .i64 (x9 + 1)) rfl) ?_
      refine WO_end ?_
      have hp := Option.some.inj hp; subst hp
      exact (Or.inl (Exists.intro (wide.set (x9 : Int).toNat (⟨((1 + (ari_and .i8 (by_.get 2) 7)) * ((gi wide (x9 : Int).toNat).X)) + (by_.get 0), ((1 + (ari_and .i8 (by_.get 2) 7)) * ((gi wide (x9 : Int).toNat).Y)) + (by_.get 1)⟩ : T_api_Point), x9 + 1) (And.intro rfl (And.intro rfl (And.intro (q₂_3) (And.intro (q₂_5) (And.intro (q₂_7) (And.intro (q₂_8) (And.intro (q₂_9) (And.intro (q₂_10) (And.intro (q₂_11) (And.intro (q₂_12) (And.intro (q₂_43) (And.intro (rfl) (hO₁₂.pick [0, 1, 2] rfl (by decide))))))))))))))))
    · refine W_cF (t := (decide (x9 < (x8.length : Int)))) rfl b₁ ?_
      refine W_ex ?_
      refine then_e ?_
      have hp := Option.some.inj hp; subst hp
      refine (Or.inr (Exists.intro wide (And.intro rfl (And.intro (fun h => nomatch h) (fun he => ?_)))))
      subst he; exact (And.intro rfl (And.intro (q₂_5) (And.intro (q₂_7) (And.intro (q₂_8) (And.intro (q₂_9) (And.intro (q₂_10) (And.intro (q₂_11) (And.intro (q₂_12) (hO₁₀.pick [1, 2] rfl (by decide))))))))))
  intro e₁ q₁ k₉ hJ₁
  obtain ⟨wide1, rfl⟩ : ∃ x, x = o₁ := ⟨_, rfl⟩
  obtain ⟨rfl, q₁_5, q₁_7, q₁_8, q₁_9, q₁_10, q₁_11, q₁_12, hO₉⟩ := hJ₁
  refine blk_i ?_
  refine then_n ?_
  refine W_sq ?_
  refine W_rg ?_
  refine WO_v (a_mv (v := v₁) q₁_5) ?_
  refine WO_v (a_mv (v := v₅) q₁_12) ?_
  obtain ⟨⟨x10, x11⟩, hx₇, hp⟩ := bd_some hp
  obtain ⟨u₇, k₁₃, ca₇, rfl, hW₇⟩ := p_arcs_Length.ok (h := k₉)  (hO₉.sl 0 rfl : Sl e_T_api_Cell k₉ v₁ x) (hO₉.sl 1 rfl : Sl e_T_api_Point k₉ v₅ wide1) hx₇
  refine WO_c (id := 133) (caps := []) rfl (mp_cons (v := v₁) rfl (mp_cons (v := v₅) rfl mp_nil)) ca₇ ?_
  have hO₁₃ : Own B h k₁₃ [eSl e_T_api_Cell v₁ x, eSl e_T_api_Point v₅ wide1] := hO₉.call hW₇ rfl
  refine WO_v (a_mv (v := .tu [.i .i64 x10, .i .i64 x11]) rfl) ?_
  refine WO_v (a_ext (vs := [.i .i64 x10, .i .i64 x11]) (v := .i .i64 x10) rfl rfl) ?_
  refine WO_v (a_ext (vs := [.i .i64 x10, .i .i64 x11]) (v := .i .i64 x11) rfl rfl) ?_
  refine WO_v (a_mv (v := .i .i64 x10) rfl) ?_
  refine WO_v (a_mv (v := .i .i64 x11) rfl) ?_
  refine WO_end ?_
  refine then_n ?_
  refine W_sq ?_
  refine W_rg ?_
  obtain ⟨x12, hx₈, hp⟩ := bd_some hp
  obtain ⟨u₈, k₁₄, ca₈, rfl, hW₈⟩ := p_muntinlaw17_wakes.ok (h := k₁₃)   hx₈
  refine WO_c (id := 130) (caps := []) rfl mp_nil ca₈ ?_
  have hO₁₄ : Own B h k₁₄ [eSl e_T_api_Cell v₁ x, eSl e_T_api_Point v₅ wide1] := hO₁₃.call hW₈ rfl
  refine WO_v (a_mv (v := .b x12) rfl) ?_
  refine WO_cut 3 (fun fr' k' => k₁₄ = k' ∧ fr' 84 = .b (x12 && (decide (x3 = 0))) ∧ fr' 10 = .i .i64 x7 ∧ fr' 11 = .i .i64 (1 + (ari_and .i8 (by_.get 2) 7)) ∧ fr' 14 = .i .i64 x10 ∧ fr' 15 = .i .i64 x11 ∧ fr' 7 = .i .i64 x2 ∧ fr' 9 = .i .i64 x6) ?_ ?_
  · rcases bc x12 with b₂ | b₂
    · skip
      refine WO_on rfl b₂ ?_
      refine WO_v (a_mv (v := .i .i64 x3) q₁_8) ?_
      refine WO_on rfl b₂ ?_
      refine WO_v (a_eqI (a := x3) (b := 0) rfl rfl) ?_
      refine WO_v (a_pickT (t := x12) (v := .b (x12 && (decide (x3 = 0)))) rfl b₂ (Eq.trans (b := V.b (decide (x3 = 0))) rfl (and_on b₂))) ?_
      refine WO_end ?_
      exact ⟨rfl, rfl, q₁_10, q₁_11, rfl, rfl, q₁_7, q₁_9⟩
    · skip
      refine WO_off rfl b₂ ?_
      refine WO_off rfl b₂ ?_
      refine WO_v (a_pickF (t := x12) (v := .b (x12 && (decide (x3 = 0)))) rfl b₂ (Eq.trans (b := V.b false) rfl (and_off b₂))) ?_
      refine WO_end ?_
      exact ⟨rfl, rfl, q₁_10, q₁_11, rfl, rfl, q₁_7, q₁_9⟩
  rintro frg₁ _ ⟨rfl, g₁_84, g₁_10, g₁_11, g₁_14, g₁_15, g₁_7, g₁_9⟩
  refine WO_v (a_mv (v := .b (x12 && (decide (x3 = 0)))) g₁_84) ?_
  refine WO_cut 3 (fun fr' k' => k₁₄ = k' ∧ fr' 88 = .b ((x12 && (decide (x3 = 0))) && (decide (x7 = 0))) ∧ fr' 11 = .i .i64 (1 + (ari_and .i8 (by_.get 2) 7)) ∧ fr' 14 = .i .i64 x10 ∧ fr' 15 = .i .i64 x11 ∧ fr' 7 = .i .i64 x2 ∧ fr' 9 = .i .i64 x6) ?_ ?_
  · rcases bc (x12 && (decide (x3 = 0))) with b₃ | b₃
    · skip
      refine WO_on rfl b₃ ?_
      refine WO_v (a_mv (v := .i .i64 x7) g₁_10) ?_
      refine WO_on rfl b₃ ?_
      refine WO_v (a_eqI (a := x7) (b := 0) rfl rfl) ?_
      refine WO_v (a_pickT (t := (x12 && (decide (x3 = 0)))) (v := .b ((x12 && (decide (x3 = 0))) && (decide (x7 = 0)))) rfl b₃ (Eq.trans (b := V.b (decide (x7 = 0))) rfl (and_on b₃))) ?_
      refine WO_end ?_
      exact ⟨rfl, rfl, g₁_11, g₁_14, g₁_15, g₁_7, g₁_9⟩
    · skip
      refine WO_off rfl b₃ ?_
      refine WO_off rfl b₃ ?_
      refine WO_v (a_pickF (t := (x12 && (decide (x3 = 0)))) (v := .b ((x12 && (decide (x3 = 0))) && (decide (x7 = 0)))) rfl b₃ (Eq.trans (b := V.b false) rfl (and_off b₃))) ?_
      refine WO_end ?_
      exact ⟨rfl, rfl, g₁_11, g₁_14, g₁_15, g₁_7, g₁_9⟩
  rintro frg₂ _ ⟨rfl, g₂_88, g₂_11, g₂_14, g₂_15, g₂_7, g₂_9⟩
  refine WO_v (a_mv (v := .b ((x12 && (decide (x3 = 0))) && (decide (x7 = 0)))) g₂_88) ?_
  refine WO_cut 3 (fun fr' k' => k₁₄ = k' ∧ fr' 92 = .b (((x12 && (decide (x3 = 0))) && (decide (x7 = 0))) && (decide (x11 = 0))) ∧ fr' 11 = .i .i64 (1 + (ari_and .i8 (by_.get 2) 7)) ∧ fr' 14 = .i .i64 x10 ∧ fr' 7 = .i .i64 x2 ∧ fr' 9 = .i .i64 x6) ?_ ?_
  · rcases bc ((x12 && (decide (x3 = 0))) && (decide (x7 = 0))) with b₄ | b₄
    · skip
      refine WO_on rfl b₄ ?_
      refine WO_v (a_mv (v := .i .i64 x11) g₂_15) ?_
      refine WO_on rfl b₄ ?_
      refine WO_v (a_eqI (a := x11) (b := 0) rfl rfl) ?_
      refine WO_v (a_pickT (t := ((x12 && (decide (x3 = 0))) && (decide (x7 = 0)))) (v := .b (((x12 && (decide (x3 = 0))) && (decide (x7 = 0))) && (decide (x11 = 0)))) rfl b₄ (Eq.trans (b := V.b (decide (x11 = 0))) rfl (and_on b₄))) ?_
      refine WO_end ?_
      exact ⟨rfl, rfl, g₂_11, g₂_14, g₂_7, g₂_9⟩
    · skip
      refine WO_off rfl b₄ ?_
      refine WO_off rfl b₄ ?_
      refine WO_v (a_pickF (t := ((x12 && (decide (x3 = 0))) && (decide (x7 = 0)))) (v := .b (((x12 && (decide (x3 = 0))) && (decide (x7 = 0))) && (decide (x11 = 0)))) rfl b₄ (Eq.trans (b := V.b false) rfl (and_off b₄))) ?_
      refine WO_end ?_
      exact ⟨rfl, rfl, g₂_11, g₂_14, g₂_7, g₂_9⟩
  rintro frg₃ _ ⟨rfl, g₃_92, g₃_11, g₃_14, g₃_7, g₃_9⟩
  refine WO_v (a_mv (v := .b (((x12 && (decide (x3 = 0))) && (decide (x7 = 0))) && (decide (x11 = 0)))) g₃_92) ?_
  refine WO_cut 4 (fun fr' k' => k₁₄ = k' ∧ fr' 97 = .b ((((x12 && (decide (x3 = 0))) && (decide (x7 = 0))) && (decide (x11 = 0))) && (decide (x6 = x2))) ∧ fr' 11 = .i .i64 (1 + (ari_and .i8 (by_.get 2) 7)) ∧ fr' 14 = .i .i64 x10 ∧ fr' 7 = .i .i64 x2) ?_ ?_
  · rcases bc (((x12 && (decide (x3 = 0))) && (decide (x7 = 0))) && (decide (x11 = 0))) with b₅ | b₅
    · skip
      refine WO_on rfl b₅ ?_
      refine WO_v (a_mv (v := .i .i64 x6) g₃_9) ?_
      refine WO_on rfl b₅ ?_
      refine WO_v (a_mv (v := .i .i64 x2) g₃_7) ?_
      refine WO_on rfl b₅ ?_
      refine WO_v (a_eqI (a := x6) (b := x2) rfl rfl) ?_
      refine WO_v (a_pickT (t := (((x12 && (decide (x3 = 0))) && (decide (x7 = 0))) && (decide (x11 = 0)))) (v := .b ((((x12 && (decide (x3 = 0))) && (decide (x7 = 0))) && (decide (x11 = 0))) && (decide (x6 = x2)))) rfl b₅ (Eq.trans (b := V.b (decide (x6 = x2))) rfl (and_on b₅))) ?_
      refine WO_end ?_
      exact ⟨rfl, rfl, g₃_11, g₃_14, g₃_7⟩
    · skip
      refine WO_off rfl b₅ ?_
      refine WO_off rfl b₅ ?_
      refine WO_off rfl b₅ ?_
      refine WO_v (a_pickF (t := (((x12 && (decide (x3 = 0))) && (decide (x7 = 0))) && (decide (x11 = 0)))) (v := .b ((((x12 && (decide (x3 = 0))) && (decide (x7 = 0))) && (decide (x11 = 0))) && (decide (x6 = x2)))) rfl b₅ (Eq.trans (b := V.b false) rfl (and_off b₅))) ?_
      refine WO_end ?_
      exact ⟨rfl, rfl, g₃_11, g₃_14, g₃_7⟩
  rintro frg₄ _ ⟨rfl, g₄_97, g₄_11, g₄_14, g₄_7⟩
  refine WO_v (a_mv (v := .b ((((x12 && (decide (x3 = 0))) && (decide (x7 = 0))) && (decide (x11 = 0))) && (decide (x6 = x2)))) g₄_97) ?_
  obtain ⟨t, hv₁, hp⟩ := bd_some hp
  refine WO_cut 6 (fun fr' k' => k₁₄ = k' ∧ fr' 104 = .b t) ?_ ?_
  · clear hp; rcases if_some hv₁ with ⟨b₆, hp⟩ | ⟨b₆, hp⟩
    · skip
      refine WO_on rfl b₆ ?_
      refine WO_v (a_mv (v := .i .i64 x10) g₄_14) ?_
      refine WO_on rfl b₆ ?_
      refine WO_v (a_mv (v := .i .i64 (1 + (ari_and .i8 (by_.get 2) 7))) g₄_11) ?_
      refine WO_on rfl b₆ ?_
      refine WO_v (a_mv (v := .i .i64 x2) g₄_7) ?_
      refine WO_on rfl b₆ ?_
      obtain ⟨c₁₁, hp⟩ := ck_some hp
      refine WO_v (a_mul (a := (1 + (ari_and .i8 (by_.get 2) 7))) (b := x2) rfl rfl c₁₁) ?_
      refine WO_on rfl b₆ ?_
      refine WO_v (a_eqI (a := x10) (b := ((1 + (ari_and .i8 (by_.get 2) 7)) * x2)) rfl rfl) ?_
      refine WO_v (a_pickT (t := ((((x12 && (decide (x3 = 0))) && (decide (x7 = 0))) && (decide (x11 = 0))) && (decide (x6 = x2)))) (v := .b t) rfl b₆ (Eq.trans (b := V.b (decide (x10 = (1 + (ari_and .i8 (by_.get 2) 7)) * x2))) rfl (congrArg V.b (Option.some.inj hp)))) ?_
      refine WO_end ?_
      exact ⟨rfl, rfl⟩
    · skip
      refine WO_off rfl b₆ ?_
      refine WO_off rfl b₆ ?_
      refine WO_off rfl b₆ ?_
      refine WO_off rfl b₆ ?_
      refine WO_off rfl b₆ ?_
      refine WO_v (a_pickF (t := ((((x12 && (decide (x3 = 0))) && (decide (x7 = 0))) && (decide (x11 = 0))) && (decide (x6 = x2)))) (v := .b t) rfl b₆ (Eq.trans (b := V.b false) rfl (congrArg V.b (Option.some.inj hp)))) ?_
      refine WO_end ?_
      exact ⟨rfl, rfl⟩
  rintro frg₅ _ ⟨rfl, g₅_104⟩
  refine WO_v (a_mv (v := .b t) g₅_104) ?_
  refine WO_end ?_
  refine then_n ?_
  refine W_rt ?_
  refine Ret_r (rs_t (n := 4) (v := .b t) rfl rs_nil) ?_
  have hp := Option.some.inj hp; subst hp
  exact (And.intro rfl (hO₁₄.pick [] rfl (by decide)))

end Mu
