/- The code comes to what was worked out. -/
import Derived.Test.YtofdeafffbkgbaaMuDf
import Derived.Test.YtofdeafffbkgbaaMuPa
import Derived.Test.YtofdeafffbkgbaaMuC0
set_option linter.unusedVariables false
set_option linter.unnecessarySimpa false
set_option linter.unusedSimpArgs false
set_option maxHeartbeats 2000000
set_option maxRecDepth 10000
namespace Mu
open Go (IntKind BinOp UnOp)
theorem p_muntinlaw04_wakes.ok {h : Hp}    {r : Bool} (hp : p_muntinlaw04_wakes  = some r) :
    ∃ u k', Is G 39 [] h u k' ∧ V.b r = u ∧ Own (fun r => r < h.n) h k' [] := by
  refine WC.is (WC_of G_F_muntinlaw04_wakes ?_)
  unfold p_muntinlaw04_wakes at hp
  let B : Nat → Prop := (fun r => r < h.n)
  have hO : Own B h h [] := Own.start0 h
  refine W_sq ?_
  refine W_rg ?_
  refine WO_v (a_mv (v := .b false) rfl) ?_
  refine WO_end ?_
  refine then_n ?_
  refine W_sq ?_
  refine W_rg ?_
  refine WO_v (a_build (cs := e_T_api_Arc.c (⟨0, 1, (0 : Int)⟩ : T_api_Arc)) (by rw [(ev_cons (v := .i .i64 0) rfl (ev_cons (v := .i .i64 1) rfl ev_nil))]; rfl)) ?_
  refine WO_v (a_build (cs := e_T_api_Arc.c (⟨1, 2, (0 : Int)⟩ : T_api_Arc)) (by rw [(ev_cons (v := .i .i64 1) rfl (ev_cons (v := .i .i64 2) rfl ev_nil))]; rfl)) ?_
  refine WO_v (a_build (cs := e_T_api_Arc.c (⟨0, 2, (0 : Int)⟩ : T_api_Arc)) (by rw [(ev_cons (v := .i .i64 0) rfl (ev_cons (v := .i .i64 2) rfl ev_nil))]; rfl)) ?_
  refine WO_x (hO.bsl (E := e_T_api_Arc) (l := [(⟨0, 1, (0 : Int)⟩ : T_api_Arc), (⟨1, 2, (0 : Int)⟩ : T_api_Arc), (⟨0, 2, (0 : Int)⟩ : T_api_Arc)]) hO.fr (by rw [(ev_cons (v := .ag (e_T_api_Arc.c (⟨0, 1, (0 : Int)⟩ : T_api_Arc))) rfl (ev_cons (v := .ag (e_T_api_Arc.c (⟨1, 2, (0 : Int)⟩ : T_api_Arc))) rfl (ev_cons (v := .ag (e_T_api_Arc.c (⟨0, 2, (0 : Int)⟩ : T_api_Arc))) rfl ev_nil)))]; rfl) rfl) ?_
  rintro v₁ k₁ ⟨r₁, f₁, hW⟩
  have hO₁ : Own B h k₁ [eSl e_T_api_Arc v₁ [(⟨0, 1, (0 : Int)⟩ : T_api_Arc), (⟨1, 2, (0 : Int)⟩ : T_api_Arc), (⟨0, 2, (0 : Int)⟩ : T_api_Arc)]] := hW
  obtain ⟨⟨x, x1⟩, hx₁, hp⟩ := bd_some hp
  obtain ⟨u₁, k₂, ca₁, v₂, rfl, hW₁⟩ := p_layer_Layers.ok (h := k₁)  (hO₁.sl 0 rfl : Sl e_T_api_Arc k₁ v₁ [(⟨0, 1, (0 : Int)⟩ : T_api_Arc), (⟨1, 2, (0 : Int)⟩ : T_api_Arc), (⟨0, 2, (0 : Int)⟩ : T_api_Arc)]) hx₁
  refine WO_c (id := 38) (caps := []) rfl (mp_cons (v := .i .i64 3) rfl (mp_cons (v := v₁) rfl mp_nil)) ca₁ ?_
  have hO₂ : Own B h k₂ [eSl e_T_api_Arc v₁ [(⟨0, 1, (0 : Int)⟩ : T_api_Arc), (⟨1, 2, (0 : Int)⟩ : T_api_Arc), (⟨0, 2, (0 : Int)⟩ : T_api_Arc)], eSl eInt v₂ x] := hO₁.call hW₁ rfl
  refine WO_v (a_mv (v := .tu [v₂, .i .i64 x1]) rfl) ?_
  refine WO_v (a_ext (vs := [v₂, .i .i64 x1]) (v := v₂) rfl rfl) ?_
  refine WO_v (a_ext (vs := [v₂, .i .i64 x1]) (v := .i .i64 x1) rfl rfl) ?_
  refine WO_v (a_mv (v := v₂) rfl) ?_
  refine WO_v (a_mv (v := .i .i64 x1) rfl) ?_
  refine WO_end ?_
  refine then_n ?_
  refine W_sq ?_
  refine W_rg ?_
  refine WO_v (a_build (cs := e_T_api_Arc.c (⟨(0 : Int), (0 : Int), (0 : Int)⟩ : T_api_Arc)) (by rw [ev_nil]; rfl)) ?_
  refine WO_x (hO₂.bsl (E := e_T_api_Arc) (l := [(⟨(0 : Int), (0 : Int), (0 : Int)⟩ : T_api_Arc)]) hO₂.fr (by rw [(ev_cons (v := .ag (e_T_api_Arc.c (⟨(0 : Int), (0 : Int), (0 : Int)⟩ : T_api_Arc))) rfl ev_nil)]; rfl) rfl) ?_
  rintro v₃ k₃ ⟨r₂, f₂, hW⟩
  have hO₃ : Own B h k₃ [eSl e_T_api_Arc v₁ [(⟨0, 1, (0 : Int)⟩ : T_api_Arc), (⟨1, 2, (0 : Int)⟩ : T_api_Arc), (⟨0, 2, (0 : Int)⟩ : T_api_Arc)], eSl eInt v₂ x, eSl e_T_api_Arc v₃ [(⟨(0 : Int), (0 : Int), (0 : Int)⟩ : T_api_Arc)]] := hW
  obtain ⟨⟨x2, x3⟩, hx₂, hp⟩ := bd_some hp
  obtain ⟨u₂, k₄, ca₂, v₄, rfl, hW₂⟩ := p_layer_Layers.ok (h := k₃)  (hO₃.sl 2 rfl : Sl e_T_api_Arc k₃ v₃ [(⟨(0 : Int), (0 : Int), (0 : Int)⟩ : T_api_Arc)]) hx₂
  refine WO_c (id := 38) (caps := []) rfl (mp_cons (v := .i .i64 1) rfl (mp_cons (v := v₃) rfl mp_nil)) ca₂ ?_
  have hO₄ : Own B h k₄ [eSl e_T_api_Arc v₁ [(⟨0, 1, (0 : Int)⟩ : T_api_Arc), (⟨1, 2, (0 : Int)⟩ : T_api_Arc), (⟨0, 2, (0 : Int)⟩ : T_api_Arc)], eSl eInt v₂ x, eSl e_T_api_Arc v₃ [(⟨(0 : Int), (0 : Int), (0 : Int)⟩ : T_api_Arc)], eSl eInt v₄ x2] := hO₃.call hW₂ rfl
  refine WO_v (a_mv (v := .tu [v₄, .i .i64 x3]) rfl) ?_
  refine WO_v (a_ext (vs := [v₄, .i .i64 x3]) (v := v₄) rfl rfl) ?_
  refine WO_v (a_ext (vs := [v₄, .i .i64 x3]) (v := .i .i64 x3) rfl rfl) ?_
  refine WO_v (a_mv (v := v₄) rfl) ?_
  refine WO_v (a_mv (v := .i .i64 x3) rfl) ?_
  refine WO_end ?_
  refine then_n ?_
  refine W_sq ?_
  refine W_rg ?_
  refine WO_v (a_mv (v := .i .i64 x1) rfl) ?_
  refine WO_v (a_eqI (a := x1) (b := 0) rfl rfl) ?_
  refine WO_v (a_mv (v := .b (decide (x1 = 0))) rfl) ?_
  obtain ⟨t, hv₁, hp⟩ := bd_some hp
  refine WO_cut 4 (fun fr' k' => Own B h k' [eSl e_T_api_Arc v₁ [(⟨0, 1, (0 : Int)⟩ : T_api_Arc), (⟨1, 2, (0 : Int)⟩ : T_api_Arc), (⟨0, 2, (0 : Int)⟩ : T_api_Arc)], eSl eInt v₂ x, eSl e_T_api_Arc v₃ [(⟨(0 : Int), (0 : Int), (0 : Int)⟩ : T_api_Arc)], eSl eInt v₄ x2] ∧ fr' 25 = .b t ∧ fr' 1 = v₂ ∧ fr' 4 = .i .i64 x3) ?_ ?_
  · clear hp; rcases if_some hv₁ with ⟨b₁, hp⟩ | ⟨b₁, hp⟩
    · skip
      refine WO_on rfl b₁ ?_
      refine WO_v (a_mv (v := v₂) rfl) ?_
      refine WO_on rfl b₁ ?_
      refine WO_x (hO₄.bsl (E := eInt) (l := ([0, 1, 2] : List Int)) hO₄.fr (by rw [(ev_cons (v := .i .i64 0) rfl (ev_cons (v := .i .i64 1) rfl (ev_cons (v := .i .i64 2) rfl ev_nil)))]; rfl) rfl) ?_
      rintro v₅ k₅ ⟨r₃, f₃, hW⟩
      have hO₅ : Own B h k₅ [eSl e_T_api_Arc v₁ [(⟨0, 1, (0 : Int)⟩ : T_api_Arc), (⟨1, 2, (0 : Int)⟩ : T_api_Arc), (⟨0, 2, (0 : Int)⟩ : T_api_Arc)], eSl eInt v₂ x, eSl e_T_api_Arc v₃ [(⟨(0 : Int), (0 : Int), (0 : Int)⟩ : T_api_Arc)], eSl eInt v₄ x2, eSl eInt v₅ ([0, 1, 2] : List Int)] := hW
      refine WO_on rfl b₁ ?_
      obtain ⟨x4, hx₃, hp⟩ := bd_some hp
      obtain ⟨u₃, k₆, ca₃, rfl, hW₃⟩ := p_slices_Equal_int.ok (h := k₅)  (hO₅.sl 1 rfl : Sl eInt k₅ v₂ x) (hO₅.sl 4 rfl : Sl eInt k₅ v₅ ([0, 1, 2] : List Int)) hx₃
      refine WO_c (id := 33) (caps := []) rfl (mp_cons (v := v₂) rfl (mp_cons (v := v₅) rfl mp_nil)) ca₃ ?_
      have hO₆ : Own B h k₆ [eSl e_T_api_Arc v₁ [(⟨0, 1, (0 : Int)⟩ : T_api_Arc), (⟨1, 2, (0 : Int)⟩ : T_api_Arc), (⟨0, 2, (0 : Int)⟩ : T_api_Arc)], eSl eInt v₂ x, eSl e_T_api_Arc v₃ [(⟨(0 : Int), (0 : Int), (0 : Int)⟩ : T_api_Arc)], eSl eInt v₄ x2, eSl eInt v₅ ([0, 1, 2] : List Int)] := hO₅.call hW₃ rfl
      refine WO_v (a_pickT (t := (decide (x1 = 0))) (v := .b t) rfl b₁ (Eq.trans (b := V.b x4) rfl (congrArg V.b (Option.some.inj hp)))) ?_
      refine WO_end ?_
      exact ⟨hO₆.pick [0, 1, 2, 3] rfl (by decide), rfl, rfl, rfl⟩
    · skip
      refine WO_off rfl b₁ ?_
      refine WO_off rfl b₁ ?_
      refine WO_off rfl b₁ ?_
      refine WO_v (a_pickF (t := (decide (x1 = 0))) (v := .b t) rfl b₁ (Eq.trans (b := V.b false) rfl (congrArg V.b (Option.some.inj hp)))) ?_
      refine WO_end ?_
      exact ⟨hO₄.pick [0, 1, 2, 3] rfl (by decide), rfl, rfl, rfl⟩
  rintro frg₁ k₇ ⟨hO₇, g₁_25, g₁_1, g₁_4⟩
  refine WO_v (a_mv (v := .b t) g₁_25) ?_
  refine WO_cut 3 (fun fr' k' => k₇ = k' ∧ fr' 29 = .b (t && (decide (x3 = 11))) ∧ fr' 1 = v₂) ?_ ?_
  · rcases bc t with b₂ | b₂
    · skip
      refine WO_on rfl b₂ ?_
      refine WO_v (a_mv (v := .i .i64 x3) g₁_4) ?_
      refine WO_on rfl b₂ ?_
      refine WO_v (a_eqI (a := x3) (b := 11) rfl rfl) ?_
      refine WO_v (a_pickT (t := t) (v := .b (t && (decide (x3 = 11)))) rfl b₂ (Eq.trans (b := V.b (decide (x3 = 11))) rfl (and_on b₂))) ?_
      refine WO_end ?_
      exact ⟨rfl, rfl, g₁_1⟩
    · skip
      refine WO_off rfl b₂ ?_
      refine WO_off rfl b₂ ?_
      refine WO_v (a_pickF (t := t) (v := .b (t && (decide (x3 = 11)))) rfl b₂ (Eq.trans (b := V.b false) rfl (and_off b₂))) ?_
      refine WO_end ?_
      exact ⟨rfl, rfl, g₁_1⟩
  rintro frg₂ _ ⟨rfl, g₂_29, g₂_1⟩
  refine WO_v (a_mv (v := .b (t && (decide (x3 = 11)))) g₂_29) ?_
  obtain ⟨t1, hv₂, hp⟩ := bd_some hp
  refine WO_cut 4 (fun fr' k' => Own B h k' [eSl e_T_api_Arc v₁ [(⟨0, 1, (0 : Int)⟩ : T_api_Arc), (⟨1, 2, (0 : Int)⟩ : T_api_Arc), (⟨0, 2, (0 : Int)⟩ : T_api_Arc)], eSl eInt v₂ x, eSl e_T_api_Arc v₃ [(⟨(0 : Int), (0 : Int), (0 : Int)⟩ : T_api_Arc)], eSl eInt v₄ x2] ∧ fr' 34 = .b t1) ?_ ?_
  · clear hp; rcases if_some hv₂ with ⟨b₃, hp⟩ | ⟨b₃, hp⟩
    · skip
      refine WO_on rfl b₃ ?_
      refine WO_v (a_mv (v := v₂) g₂_1) ?_
      refine WO_on rfl b₃ ?_
      obtain ⟨x5, hx₄, hp⟩ := bd_some hp
      obtain ⟨u₄, k₈, ca₄, rfl, hW₄⟩ := p_layer_Span.ok (h := k₇)  (hO₇.sl 1 rfl : Sl eInt k₇ v₂ x) hx₄
      refine WO_c (id := 41) (caps := []) rfl (mp_cons (v := v₂) rfl mp_nil) ca₄ ?_
      have hO₈ : Own B h k₈ [eSl e_T_api_Arc v₁ [(⟨0, 1, (0 : Int)⟩ : T_api_Arc), (⟨1, 2, (0 : Int)⟩ : T_api_Arc), (⟨0, 2, (0 : Int)⟩ : T_api_Arc)], eSl eInt v₂ x, eSl e_T_api_Arc v₃ [(⟨(0 : Int), (0 : Int), (0 : Int)⟩ : T_api_Arc)], eSl eInt v₄ x2] := hO₇.call hW₄ rfl
      refine WO_on rfl b₃ ?_
      refine WO_v (a_eqI (a := x5) (b := 2) rfl rfl) ?_
      refine WO_v (a_pickT (t := (t && (decide (x3 = 11)))) (v := .b t1) rfl b₃ (Eq.trans (b := V.b (decide (x5 = 2))) rfl (congrArg V.b (Option.some.inj hp)))) ?_
      refine WO_end ?_
      exact ⟨hO₈.pick [0, 1, 2, 3] rfl (by decide), rfl⟩
    · skip
      refine WO_off rfl b₃ ?_
      refine WO_off rfl b₃ ?_
      refine WO_off rfl b₃ ?_
      refine WO_v (a_pickF (t := (t && (decide (x3 = 11)))) (v := .b t1) rfl b₃ (Eq.trans (b := V.b false) rfl (congrArg V.b (Option.some.inj hp)))) ?_
      refine WO_end ?_
      exact ⟨hO₇.pick [0, 1, 2, 3] rfl (by decide), rfl⟩
  rintro frg₃ k₉ ⟨hO₉, g₃_34⟩
  refine WO_v (a_mv (v := .b t1) g₃_34) ?_
  refine WO_end ?_
  refine then_n ?_
  refine W_rt ?_
  refine Ret_r (rs_t (n := 0) (v := .b t1) rfl rs_nil) ?_
  have hp := Option.some.inj hp; subst hp
  exact (And.intro rfl (hO₉.pick [] rfl (by decide)))

theorem p_muntinlaw04_LayerMore.ok {h : Hp} {z : T_muntinref03_Raw} {more : A2 Int} {v_z_Arcs : V} (s_z_Arcs : Sl e_A3_u8 h v_z_Arcs z.Arcs) {r : Bool} (hp : p_muntinlaw04_LayerMore z more = some r) :
    ∃ u k', Is G 102 [.ag [.i .u8 z.N, v_z_Arcs], .ag (e_A2_u8.c more)] h u k' ∧ V.b r = u ∧ Own (fun r => r < h.n) h k' [] := by
  refine WC.is (WC_of G_F_muntinlaw04_LayerMore ?_)
  unfold p_muntinlaw04_LayerMore at hp
  let B : Nat → Prop := (fun r => r < h.n)
  have hO : Own B h h [] := Own.start0 h
  refine W_sq ?_
  refine W_rg ?_
  refine WO_x (hO.boxd (v := .ag [.i .u8 z.N, v_z_Arcs]) (cs := [.i .u8 z.N, v_z_Arcs]) hO.fr rfl rfl) ?_
  rintro _ k₁ ⟨r₁, rfl, n₁, f₁, hW⟩
  have hO₁ : Own B h k₁ [eBox r₁ [.i .u8 z.N, v_z_Arcs]] := hW
  refine WO_x (hO₁.boxd (v := .ag (e_A2_u8.c more)) (cs := e_A2_u8.c more) hO₁.fr rfl rfl) ?_
  rintro _ k₂ ⟨r₂, rfl, n₂, f₂, hW⟩
  have hO₂ : Own B h k₂ [eBox r₁ [.i .u8 z.N, v_z_Arcs], eBox r₂ (e_A2_u8.c more)] := hW
  refine WO_v (a_mv (v := .b false) rfl) ?_
  refine WO_end ?_
  refine then_n ?_
  refine W_sq ?_
  refine W_rg ?_
  refine WO_v (a_ldbA (cs := [.i .u8 z.N, v_z_Arcs]) (ws := [.i .u8 z.N, v_z_Arcs]) (hO₂.box 0 rfl) rfl rfl) ?_
  obtain ⟨⟨x, x1⟩, hx₁, hp⟩ := bd_some hp
  obtain ⟨u₁, k₃, ca₁, v₁, rfl, hW₁⟩ := p_muntinref03_Make.ok (h := k₂)  (hO₂.rd0 s_z_Arcs.rd : Sl e_A3_u8 k₂ v_z_Arcs z.Arcs) hx₁
  refine WO_c (id := 37) (caps := []) rfl (mp_cons (v := .ag [.i .u8 z.N, v_z_Arcs]) rfl (mp_cons (v := .i .i64 20) rfl mp_nil)) ca₁ ?_
  have hO₃ : Own B h k₃ [eBox r₁ [.i .u8 z.N, v_z_Arcs], eBox r₂ (e_A2_u8.c more), eSl e_T_api_Arc v₁ x1] := hO₂.call hW₁ rfl
  refine WO_v (a_mv (v := .tu [.i .i64 x, v₁]) rfl) ?_
  refine WO_v (a_ext (vs := [.i .i64 x, v₁]) (v := .i .i64 x) rfl rfl) ?_
  refine WO_v (a_ext (vs := [.i .i64 x, v₁]) (v := v₁) rfl rfl) ?_
  refine WO_v (a_mv (v := .i .i64 x) rfl) ?_
  refine WO_v (a_mv (v := v₁) rfl) ?_
  refine WO_end ?_
  refine then_n ?_
  refine W_sq ?_
  refine W_rg ?_
  refine WO_v (a_mv (v := .i .i64 x) rfl) ?_
  refine WO_v (a_mv (v := v₁) rfl) ?_
  obtain ⟨⟨x2, x3⟩, hx₂, hp⟩ := bd_some hp
  obtain ⟨u₂, k₄, ca₂, v₂, rfl, hW₂⟩ := p_layer_Layers.ok (h := k₃)  (hO₃.sl 2 rfl : Sl e_T_api_Arc k₃ v₁ x1) hx₂
  refine WO_c (id := 38) (caps := []) rfl (mp_cons (v := .i .i64 x) rfl (mp_cons (v := v₁) rfl mp_nil)) ca₂ ?_
  have hO₄ : Own B h k₄ [eBox r₁ [.i .u8 z.N, v_z_Arcs], eBox r₂ (e_A2_u8.c more), eSl e_T_api_Arc v₁ x1, eSl eInt v₂ x2] := hO₃.call hW₂ rfl
  refine WO_v (a_mv (v := .tu [v₂, .i .i64 x3]) rfl) ?_
  refine WO_v (a_ext (vs := [v₂, .i .i64 x3]) (v := v₂) rfl rfl) ?_
  refine WO_v (a_ext (vs := [v₂, .i .i64 x3]) (v := .i .i64 x3) rfl rfl) ?_
  refine WO_v (a_mv (v := v₂) rfl) ?_
  refine WO_v (a_mv (v := .i .i64 x3) rfl) ?_
  refine WO_end ?_
  refine then_n ?_
  refine W_sq ?_
  refine W_qd ?_
  have hW := hO₄.bump 12
  have hO₅ : Own B h (k₄.bump 12) [eBox r₁ [.i .u8 z.N, v_z_Arcs], eBox r₂ (e_A2_u8.c more), eSl e_T_api_Arc v₁ x1, eSl eInt v₂ x2] := hW
  refine WQ_v rfl (a_ixaa (o := 0) (o' := 0) (z := 0) rfl rfl (by decide) rfl) ?_
  refine WQ_v rfl (a_ldb (cs := (e_A2_u8.c more)) (v := .i .u8 (more.get 0)) (hO₅.box 1 rfl) rfl rfl) ?_
  obtain ⟨c₁, hp⟩ := ck_some hp
  refine WQ_v rfl (a_conv (a := (more.get 0)) rfl c₁) ?_
  refine WQ_v rfl (a_mv (v := .i .i64 x) rfl) ?_
  obtain ⟨c₂, hp⟩ := ck_some hp
  refine WQ_v rfl (a_rem (a := (more.get 0)) (b := x) rfl rfl c₂) ?_
  refine WQ_v rfl (a_ixaa (o := 0) (o' := 1) (z := 1) rfl rfl (by decide) rfl) ?_
  refine WQ_v rfl (a_ldb (cs := (e_A2_u8.c more)) (v := .i .u8 (more.get 1)) (hO₅.box 1 rfl) rfl rfl) ?_
  obtain ⟨c₃, hp⟩ := ck_some hp
  refine WQ_v rfl (a_conv (a := (more.get 1)) rfl c₃) ?_
  refine WQ_v rfl (a_mv (v := .i .i64 x) rfl) ?_
  refine WQ_v rfl (a_rem (a := (more.get 1)) (b := x) rfl rfl c₂) ?_
  refine WQ_v rfl (a_mv (v := .i .i64 ((more.get 0).tmod x)) rfl) ?_
  refine WQ_v rfl (a_mv (v := .i .i64 ((more.get 1).tmod x)) rfl) ?_
  refine WQ_end ?_
  refine then_n ?_
  refine W_sq ?_
  refine W_rg ?_
  refine WO_v (a_mv (v := v₁) rfl) ?_
  obtain ⟨x4, hx₃, hp⟩ := bd_some hp
  obtain ⟨u₃, k₆, ca₃, v₃, rfl, hW₃⟩ := p_slices_Clone_api_Arc.ok (h := (k₄.bump 12))  (hO₅.sl 2 rfl : Sl e_T_api_Arc (k₄.bump 12) v₁ x1) hx₃
  refine WO_c (id := 114) (caps := []) rfl (mp_cons (v := v₁) rfl mp_nil) ca₃ ?_
  have hO₆ : Own B h k₆ [eBox r₁ [.i .u8 z.N, v_z_Arcs], eBox r₂ (e_A2_u8.c more), eSl e_T_api_Arc v₁ x1, eSl eInt v₂ x2, eSl e_T_api_Arc v₃ x4] := hO₅.call hW₃ rfl
  refine WO_v (a_mv (v := v₁) rfl) ?_
  obtain ⟨c₄, hp⟩ := ck_some hp
  refine WO_x (hO₆.app (E := e_T_api_Arc) (bytes := 24) 4 hO₆.fr rfl (hO₆.sl 2 rfl : Sl e_T_api_Arc k₆ v₁ x1) rfl rfl (fun _ => rfl) c₄ (by decide)) ?_
  rintro v₄ k₇ ⟨f₃, hW⟩
  have hO₇ : Own B h k₇ [eBox r₁ [.i .u8 z.N, v_z_Arcs], eBox r₂ (e_A2_u8.c more), eSl e_T_api_Arc v₁ x1, eSl eInt v₂ x2, eSl e_T_api_Arc v₄ (x4 ++ x1)] := hW
  refine WO_v (a_mv (v := v₄) rfl) ?_
  refine WO_end ?_
  refine then_n ?_
  refine W_sq ?_
  refine W_rg ?_
  refine WO_v (a_mv (v := .i .i64 x) rfl) ?_
  refine WO_v (a_mv (v := v₄) rfl) ?_
  obtain ⟨⟨x5, x6⟩, hx₄, hp⟩ := bd_some hp
  obtain ⟨u₄, k₈, ca₄, v₅, rfl, hW₄⟩ := p_layer_Layers.ok (h := k₇)  (hO₇.sl 4 rfl : Sl e_T_api_Arc k₇ v₄ (x4 ++ x1)) hx₄
  refine WO_c (id := 38) (caps := []) rfl (mp_cons (v := .i .i64 x) rfl (mp_cons (v := v₄) rfl mp_nil)) ca₄ ?_
  have hO₈ : Own B h k₈ [eBox r₁ [.i .u8 z.N, v_z_Arcs], eBox r₂ (e_A2_u8.c more), eSl e_T_api_Arc v₁ x1, eSl eInt v₂ x2, eSl e_T_api_Arc v₄ (x4 ++ x1), eSl eInt v₅ x5] := hO₇.call hW₄ rfl
  refine WO_v (a_mv (v := .tu [v₅, .i .i64 x6]) rfl) ?_
  refine WO_v (a_ext (vs := [v₅, .i .i64 x6]) (v := v₅) rfl rfl) ?_
  refine WO_v (a_ext (vs := [v₅, .i .i64 x6]) (v := .i .i64 x6) rfl rfl) ?_
  refine WO_v (a_mv (v := v₅) rfl) ?_
  refine WO_v (a_mv (v := .i .i64 x6) rfl) ?_
  refine WO_end ?_
  refine then_n ?_
  refine W_sq ?_
  refine W_sq ?_
  refine W_rg ?_
  obtain ⟨x7, hx₅, hp⟩ := bd_some hp
  obtain ⟨u₅, k₉, ca₅, rfl, hW₅⟩ := p_muntinlaw04_wakes.ok (h := k₈)   hx₅
  refine WO_c (id := 39) (caps := []) rfl mp_nil ca₅ ?_
  have hO₉ : Own B h k₉ [eBox r₁ [.i .u8 z.N, v_z_Arcs], eBox r₂ (e_A2_u8.c more), eSl e_T_api_Arc v₁ x1, eSl eInt v₂ x2, eSl e_T_api_Arc v₄ (x4 ++ x1), eSl eInt v₅ x5] := hO₈.call hW₅ rfl
  refine WO_v (a_not (t := x7) rfl) ?_
  refine WO_v (a_mv (v := .b (!x7)) rfl) ?_
  refine WO_cut 3 (fun fr' k' => k₉ = k' ∧ fr' 53 = .b ((!x7) || (!(decide (x3 = 0)))) ∧ fr' 10 = .i .i64 ((more.get 1).tmod x) ∧ fr' 11 = v₄ ∧ fr' 12 = v₅ ∧ fr' 13 = .i .i64 x6 ∧ fr' 5 = .i .i64 x ∧ fr' 7 = v₂ ∧ fr' 9 = .i .i64 ((more.get 0).tmod x)) ?_ ?_
  · rcases bc (!x7) with b₁ | b₁
    · skip
      refine WO_off rfl b₁ ?_
      refine WO_off rfl b₁ ?_
      refine WO_v (a_pickT (t := (!x7)) (v := .b ((!x7) || (!(decide (x3 = 0))))) rfl b₁ (Eq.trans (b := V.b true) rfl (or_off b₁))) ?_
      refine WO_end ?_
      exact ⟨rfl, rfl, rfl, rfl, rfl, rfl, rfl, rfl, rfl⟩
    · skip
      refine WO_on rfl b₁ ?_
      refine WO_v (a_mv (v := .i .i64 x3) rfl) ?_
      refine WO_on rfl b₁ ?_
      refine WO_v (a_neI (a := x3) (b := 0) rfl rfl) ?_
      refine WO_v (a_pickF (t := (!x7)) (v := .b ((!x7) || (!(decide (x3 = 0))))) rfl b₁ (Eq.trans (b := V.b (!(decide (x3 = 0)))) rfl (or_on b₁))) ?_
      refine WO_end ?_
      exact ⟨rfl, rfl, rfl, rfl, rfl, rfl, rfl, rfl, rfl⟩
  rintro frg₁ _ ⟨rfl, g₁_53, g₁_10, g₁_11, g₁_12, g₁_13, g₁_5, g₁_7, g₁_9⟩
  refine WO_v (a_mv (v := .b ((!x7) || (!(decide (x3 = 0))))) g₁_53) ?_
  refine WO_cut 3 (fun fr' k' => k₉ = k' ∧ fr' 57 = .b (((!x7) || (!(decide (x3 = 0)))) || (!(decide (x6 = 0)))) ∧ fr' 10 = .i .i64 ((more.get 1).tmod x) ∧ fr' 11 = v₄ ∧ fr' 12 = v₅ ∧ fr' 5 = .i .i64 x ∧ fr' 7 = v₂ ∧ fr' 9 = .i .i64 ((more.get 0).tmod x)) ?_ ?_
  · rcases bc ((!x7) || (!(decide (x3 = 0)))) with b₂ | b₂
    · skip
      refine WO_off rfl b₂ ?_
      refine WO_off rfl b₂ ?_
      refine WO_v (a_pickT (t := ((!x7) || (!(decide (x3 = 0))))) (v := .b (((!x7) || (!(decide (x3 = 0)))) || (!(decide (x6 = 0))))) rfl b₂ (Eq.trans (b := V.b true) rfl (or_off b₂))) ?_
      refine WO_end ?_
      exact ⟨rfl, rfl, g₁_10, g₁_11, g₁_12, g₁_5, g₁_7, g₁_9⟩
    · skip
      refine WO_on rfl b₂ ?_
      refine WO_v (a_mv (v := .i .i64 x6) g₁_13) ?_
      refine WO_on rfl b₂ ?_
      refine WO_v (a_neI (a := x6) (b := 0) rfl rfl) ?_
      refine WO_v (a_pickF (t := ((!x7) || (!(decide (x3 = 0))))) (v := .b (((!x7) || (!(decide (x3 = 0)))) || (!(decide (x6 = 0))))) rfl b₂ (Eq.trans (b := V.b (!(decide (x6 = 0)))) rfl (or_on b₂))) ?_
      refine WO_end ?_
      exact ⟨rfl, rfl, g₁_10, g₁_11, g₁_12, g₁_5, g₁_7, g₁_9⟩
  rintro frg₂ _ ⟨rfl, g₂_57, g₂_10, g₂_11, g₂_12, g₂_5, g₂_7, g₂_9⟩
  refine WO_v (a_mv (v := .b (((!x7) || (!(decide (x3 = 0)))) || (!(decide (x6 = 0))))) g₂_57) ?_
  obtain ⟨t, hv₁, hp⟩ := bd_some hp
  refine WO_cut 5 (fun fr' k' => Own B h k' [eBox r₁ [.i .u8 z.N, v_z_Arcs], eBox r₂ (e_A2_u8.c more), eSl e_T_api_Arc v₁ x1, eSl eInt v₂ x2, eSl e_T_api_Arc v₄ (x4 ++ x1), eSl eInt v₅ x5] ∧ fr' 63 = .b t ∧ fr' 10 = .i .i64 ((more.get 1).tmod x) ∧ fr' 11 = v₄ ∧ fr' 5 = .i .i64 x ∧ fr' 7 = v₂ ∧ fr' 9 = .i .i64 ((more.get 0).tmod x)) ?_ ?_
  · clear hp; rcases if_some hv₁ with ⟨b₃, hp⟩ | ⟨b₃, hp⟩
    · skip
      refine WO_off rfl b₃ ?_
      refine WO_off rfl b₃ ?_
      refine WO_off rfl b₃ ?_
      refine WO_off rfl b₃ ?_
      refine WO_v (a_pickT (t := (((!x7) || (!(decide (x3 = 0)))) || (!(decide (x6 = 0))))) (v := .b t) rfl b₃ (Eq.trans (b := V.b true) rfl (congrArg V.b (Option.some.inj hp)))) ?_
      refine WO_end ?_
      exact ⟨hO₉.pick [0, 1, 2, 3, 4, 5] rfl (by decide), rfl, g₂_10, g₂_11, g₂_5, g₂_7, g₂_9⟩
    · skip
      refine WO_on rfl b₃ ?_
      refine WO_v (a_mv (v := v₅) g₂_12) ?_
      refine WO_on rfl b₃ ?_
      refine WO_v (a_mv (v := v₂) g₂_7) ?_
      refine WO_on rfl b₃ ?_
      obtain ⟨x8, hx₆, hp⟩ := bd_some hp
      obtain ⟨u₆, k₁₀, ca₆, rfl, hW₆⟩ := p_slices_Equal_int.ok (h := k₉)  (hO₉.sl 5 rfl : Sl eInt k₉ v₅ x5) (hO₉.sl 3 rfl : Sl eInt k₉ v₂ x2) hx₆
      refine WO_c (id := 33) (caps := []) rfl (mp_cons (v := v₅) rfl (mp_cons (v := v₂) rfl mp_nil)) ca₆ ?_
      have hO₁₀ : Own B h k₁₀ [eBox r₁ [.i .u8 z.N, v_z_Arcs], eBox r₂ (e_A2_u8.c more), eSl e_T_api_Arc v₁ x1, eSl eInt v₂ x2, eSl e_T_api_Arc v₄ (x4 ++ x1), eSl eInt v₅ x5] := hO₉.call hW₆ rfl
      refine WO_on rfl b₃ ?_
      refine WO_v (a_not (t := x8) rfl) ?_
      refine WO_v (a_pickF (t := (((!x7) || (!(decide (x3 = 0)))) || (!(decide (x6 = 0))))) (v := .b t) rfl b₃ (Eq.trans (b := V.b (!x8)) rfl (congrArg V.b (Option.some.inj hp)))) ?_
      refine WO_end ?_
      exact ⟨hO₁₀.pick [0, 1, 2, 3, 4, 5] rfl (by decide), rfl, g₂_10, g₂_11, g₂_5, g₂_7, g₂_9⟩
  rintro frg₃ k₁₁ ⟨hO₁₁, g₃_63, g₃_10, g₃_11, g₃_5, g₃_7, g₃_9⟩
  refine WO_end ?_
  refine then_n ?_
  rcases if_some hp with ⟨b₄, hp⟩ | ⟨b₄, hp⟩
  · refine W_cT (t := t) g₃_63 b₄ ?_
    refine W_sq ?_
    refine W_rg ?_
    refine WO_v (a_mv (v := .b false) rfl) ?_
    refine WO_end ?_
    refine then_n ?_
    refine W_rt ?_
    refine then_r ?_
    refine Ret_r (rs_t (n := 4) (v := .b false) rfl rs_nil) ?_
    have hp := Option.some.inj hp; subst hp
    exact (And.intro rfl (hO₁₁.pick [] rfl (by decide)))
  · refine W_cF (t := t) g₃_63 b₄ ?_
    refine W_sk ?_
    refine then_n ?_
    refine W_sq ?_
    refine W_sq ?_
    refine W_rg ?_
    refine WO_v (a_mv (v := .i .i64 ((more.get 0).tmod x)) g₃_9) ?_
    refine WO_v (a_mv (v := .i .i64 ((more.get 1).tmod x)) g₃_10) ?_
    refine WO_v (a_geq (a := ((more.get 0).tmod x)) (b := ((more.get 1).tmod x)) rfl rfl) ?_
    refine WO_end ?_
    refine then_n ?_
    rcases if_some hp with ⟨b₅, hp⟩ | ⟨b₅, hp⟩
    · refine W_cT (t := (decide (((more.get 1).tmod x) ≤ ((more.get 0).tmod x)))) rfl b₅ ?_
      refine W_sq ?_
      refine W_rg ?_
      refine WO_v (a_mv (v := .b true) rfl) ?_
      refine WO_end ?_
      refine then_n ?_
      refine W_rt ?_
      refine then_r ?_
      refine Ret_r (rs_t (n := 4) (v := .b true) rfl rs_nil) ?_
      have hp := Option.some.inj hp; subst hp
      exact (And.intro rfl (hO₁₁.pick [] rfl (by decide)))
    · refine W_cF (t := (decide (((more.get 1).tmod x) ≤ ((more.get 0).tmod x)))) rfl b₅ ?_
      refine W_sk ?_
      refine then_n ?_
      refine W_sq ?_
      refine W_rg ?_
      refine WO_v (a_mv (v := .i .i64 x) g₃_5) ?_
      refine WO_v (a_mv (v := v₄) g₃_11) ?_
      refine WO_v (a_mv (v := .i .i64 ((more.get 0).tmod x)) g₃_9) ?_
      refine WO_v (a_mv (v := .i .i64 ((more.get 1).tmod x)) g₃_10) ?_
      refine WO_v (a_build (cs := e_T_api_Arc.c (⟨(more.get 0).tmod x, (more.get 1).tmod x, (0 : Int)⟩ : T_api_Arc)) (by rw [(ev_cons (v := .i .i64 ((more.get 0).tmod x)) rfl (ev_cons (v := .i .i64 ((more.get 1).tmod x)) rfl ev_nil))]; rfl)) ?_
      refine WO_x (hO₁₁.bsl (E := e_T_api_Arc) (l := [(⟨(more.get 0).tmod x, (more.get 1).tmod x, (0 : Int)⟩ : T_api_Arc)]) hO₁₁.fr (by rw [(ev_cons (v := .ag (e_T_api_Arc.c (⟨(more.get 0).tmod x, (more.get 1).tmod x, (0 : Int)⟩ : T_api_Arc))) rfl ev_nil)]; rfl) rfl) ?_
      rintro v₆ k₁₂ ⟨r₃, f₄, hW⟩
      have hO₁₂ : Own B h k₁₂ [eBox r₁ [.i .u8 z.N, v_z_Arcs], eBox r₂ (e_A2_u8.c more), eSl e_T_api_Arc v₁ x1, eSl eInt v₂ x2, eSl e_T_api_Arc v₄ (x4 ++ x1), eSl eInt v₅ x5, eSl e_T_api_Arc v₆ [(⟨(more.get 0).tmod x, (more.get 1).tmod x, (0 : Int)⟩ : T_api_Arc)]] := hW
      obtain ⟨c₅, hp⟩ := ck_some hp
      refine WO_x (hO₁₂.app (E := e_T_api_Arc) (bytes := 24) 4 hO₁₂.fr rfl (hO₁₂.sl 6 rfl : Sl e_T_api_Arc k₁₂ v₆ [(⟨(more.get 0).tmod x, (more.get 1).tmod x, (0 : Int)⟩ : T_api_Arc)]) rfl rfl (fun _ => rfl) c₅ (by decide)) ?_
      rintro v₇ k₁₃ ⟨f₅, hW⟩
      have hO₁₃ : Own B h k₁₃ [eBox r₁ [.i .u8 z.N, v_z_Arcs], eBox r₂ (e_A2_u8.c more), eSl e_T_api_Arc v₁ x1, eSl eInt v₂ x2, eSl e_T_api_Arc v₇ ((x4 ++ x1) ++ [(⟨(more.get 0).tmod x, (more.get 1).tmod x, (0 : Int)⟩ : T_api_Arc)]), eSl eInt v₅ x5, eSl e_T_api_Arc v₆ [(⟨(more.get 0).tmod x, (more.get 1).tmod x, (0 : Int)⟩ : T_api_Arc)]] := hW
      obtain ⟨⟨x9, x10⟩, hx₇, hp⟩ := bd_some hp
      obtain ⟨u₇, k₁₄, ca₇, v₈, rfl, hW₇⟩ := p_layer_Layers.ok (h := k₁₃)  (hO₁₃.sl 4 rfl : Sl e_T_api_Arc k₁₃ v₇ ((x4 ++ x1) ++ [(⟨(more.get 0).tmod x, (more.get 1).tmod x, (0 : Int)⟩ : T_api_Arc)])) hx₇
      refine WO_c (id := 38) (caps := []) rfl (mp_cons (v := .i .i64 x) rfl (mp_cons (v := v₇) rfl mp_nil)) ca₇ ?_
      have hO₁₄ : Own B h k₁₄ [eBox r₁ [.i .u8 z.N, v_z_Arcs], eBox r₂ (e_A2_u8.c more), eSl e_T_api_Arc v₁ x1, eSl eInt v₂ x2, eSl e_T_api_Arc v₇ ((x4 ++ x1) ++ [(⟨(more.get 0).tmod x, (more.get 1).tmod x, (0 : Int)⟩ : T_api_Arc)]), eSl eInt v₅ x5, eSl e_T_api_Arc v₆ [(⟨(more.get 0).tmod x, (more.get 1).tmod x, (0 : Int)⟩ : T_api_Arc)], eSl eInt v₈ x9] := hO₁₃.call hW₇ rfl
      refine WO_v (a_mv (v := .tu [v₈, .i .i64 x10]) rfl) ?_
      refine WO_v (a_ext (vs := [v₈, .i .i64 x10]) (v := v₈) rfl rfl) ?_
      refine WO_v (a_ext (vs := [v₈, .i .i64 x10]) (v := .i .i64 x10) rfl rfl) ?_
      refine WO_v (a_mv (v := v₈) rfl) ?_
      refine WO_v (a_mv (v := .i .i64 x10) rfl) ?_
      refine WO_end ?_
      refine then_n ?_
      refine W_sq ?_
      refine W_sq ?_
      refine W_rg ?_
      refine WO_v (a_mv (v := .i .i64 x10) rfl) ?_
      refine WO_v (a_neI (a := x10) (b := 0) rfl rfl) ?_
      refine WO_v (a_mv (v := .b (!(decide (x10 = 0)))) rfl) ?_
      refine WO_cut 5 (fun fr' k' => k₁₄ = k' ∧ fr' 85 = .b ((!(decide (x10 = 0))) || (!(decide ((x9.length : Int) = x)))) ∧ fr' 10 = .i .i64 ((more.get 1).tmod x) ∧ fr' 14 = v₈ ∧ fr' 7 = v₂ ∧ fr' 9 = .i .i64 ((more.get 0).tmod x)) ?_ ?_
      · rcases bc (!(decide (x10 = 0))) with b₆ | b₆
        · skip
          refine WO_off rfl b₆ ?_
          refine WO_off rfl b₆ ?_
          refine WO_off rfl b₆ ?_
          refine WO_off rfl b₆ ?_
          refine WO_v (a_pickT (t := (!(decide (x10 = 0)))) (v := .b ((!(decide (x10 = 0))) || (!(decide ((x9.length : Int) = x))))) rfl b₆ (Eq.trans (b := V.b true) rfl (or_off b₆))) ?_
          refine WO_end ?_
          exact ⟨rfl, rfl, g₃_10, rfl, g₃_7, g₃_9⟩
        · skip
          refine WO_on rfl b₆ ?_
          refine WO_v (a_mv (v := v₈) rfl) ?_
          refine WO_on rfl b₆ ?_
          refine WO_v (a_len (hO₁₄.sl 7 rfl : Sl eInt k₁₄ v₈ x9) rfl) ?_
          refine WO_on rfl b₆ ?_
          refine WO_v (a_mv (v := .i .i64 x) g₃_5) ?_
          refine WO_on rfl b₆ ?_
          refine WO_v (a_neI (a := (x9.length : Int)) (b := x) rfl rfl) ?_
          refine WO_v (a_pickF (t := (!(decide (x10 = 0)))) (v := .b ((!(decide (x10 = 0))) || (!(decide ((x9.length : Int) = x))))) rfl b₆ (Eq.trans (b := V.b (!(decide ((x9.length : Int) = x)))) rfl (or_on b₆))) ?_
          refine WO_end ?_
          exact ⟨rfl, rfl, g₃_10, rfl, g₃_7, g₃_9⟩
      rintro frg₄ _ ⟨rfl, g₄_85, g₄_10, g₄_14, g₄_7, g₄_9⟩
      refine WO_end ?_
      refine then_n ?_
      rcases if_some hp with ⟨b₇, hp⟩ | ⟨b₇, hp⟩
      · refine W_cT (t := ((!(decide (x10 = 0))) || (!(decide ((x9.length : Int) = x))))) g₄_85 b₇ ?_
        refine W_sq ?_
        refine W_rg ?_
        refine WO_v (a_mv (v := .b false) rfl) ?_
        refine WO_end ?_
        refine then_n ?_
        refine W_rt ?_
        refine then_r ?_
        refine Ret_r (rs_t (n := 4) (v := .b false) rfl rs_nil) ?_
        have hp := Option.some.inj hp; subst hp
        exact (And.intro rfl (hO₁₄.pick [] rfl (by decide)))
      · refine W_cF (t := ((!(decide (x10 = 0))) || (!(decide ((x9.length : Int) = x))))) g₄_85 b₇ ?_
        refine W_sk ?_
        refine then_n ?_
        refine W_sq ?_
        refine W_sq ?_
        refine W_rg ?_
        refine WO_v (a_mv (v := v₈) g₄_14) ?_
        refine WO_v (a_len (hO₁₄.sl 7 rfl : Sl eInt k₁₄ v₈ x9) rfl) ?_
        refine WO_v (a_mv (v := .i .i64 0) rfl) ?_
        refine WO_end ?_
        refine then_n ?_
        refine W_bl ?_
        obtain ⟨o₁, ho₁, hp⟩ := bd_some hp
        refine W.mono (Q := fun e fr k => match (generalizing := false) o₁ with
            | .inl _ => e = (.exit 0) ∧ fr 7 = v₂ ∧ fr 9 = .i .i64 ((more.get 0).tmod x) ∧ fr 10 = .i .i64 ((more.get 1).tmod x) ∧ fr 14 = v₈ ∧ Own B h k [eSl eInt v₂ x2, eSl eInt v₈ x9]
            | .inr _ => e = .ret ∧ fr 4 = .b false ∧ Own B h k []) ?_ ?_
        · clear hp
          refine W_loopF (fun st fr k => match st with | x11 => fr 7 = v₂ ∧ fr 9 = .i .i64 ((more.get 0).tmod x) ∧ fr 10 = .i .i64 ((more.get 1).tmod x) ∧ fr 14 = v₈ ∧ fr 87 = .i .i64 (x9.length : Int) ∧ fr 88 = .i .i64 x11 ∧ Own B h k [eSl eInt v₂ x2, eSl eInt v₈ x9]) ho₁ (s := 0) (And.intro (g₄_7) (And.intro (g₄_9) (And.intro (g₄_10) (And.intro (g₄_14) (And.intro (rfl) (And.intro (rfl) (hO₁₄.pick [3, 7] rfl (by decide)))))))) ?_
          rintro x11 q₂ k₁₆ ⟨q₂_7, q₂_9, q₂_10, q₂_14, q₂_87, q₂_88, hO₁₆⟩ o₂ hp
          dsimp only [p_muntinlaw04_LayerMore.s0] at hp
          refine W_sq ?_
          refine W_rg ?_
          refine WO_v (a_lss (a := x11) (b := (x9.length : Int)) q₂_88 q₂_87) ?_
          refine WO_end ?_
          refine then_n ?_
          refine W_sq ?_
          rcases if_some hp with ⟨b₈, hp⟩ | ⟨b₈, hp⟩
          · refine W_cT (t := (decide (x11 < (x9.length : Int)))) rfl b₈ ?_
            refine W_sk ?_
            refine then_n ?_
            refine W_sq ?_
            refine W_bl ?_
            refine W_sq ?_
            refine W_rg ?_
            refine WO_v (a_mv (v := .i .i64 x11) q₂_88) ?_
            refine WO_v (a_mv (v := .i .i64 x11) rfl) ?_
            refine WO_end ?_
            refine then_n ?_
            refine W_sq ?_
            refine W_qd ?_
            have hW := hO₁₆.bump 25
            have hO₁₇ : Own B h (k₁₆.bump 25) [eSl eInt v₂ x2, eSl eInt v₈ x9] := hW
            refine WQ_v rfl (a_mv (v := v₈) q₂_14) ?_
            refine WQ_v rfl (a_mv (v := .i .i64 x11) rfl) ?_
            obtain ⟨c₆, hp⟩ := ck_some hp
            refine WQ_v rfl (a_ixa (E := eInt) (z := x11) (hO₁₇.sl 1 rfl : Sl eInt (k₁₆.bump 25) v₈ x9) rfl rfl c₆) ?_
            refine WQ_v rfl (a_ldE (w := .i .i64 (gi x9 (x11 : Int).toNat)) (hO₁₇.sl 1 rfl : Sl eInt (k₁₆.bump 25) v₈ x9) rfl (toNat_lt c₆) rfl) ?_
            refine WQ_v rfl (a_mv (v := v₂) q₂_7) ?_
            refine WQ_v rfl (a_mv (v := .i .i64 x11) rfl) ?_
            obtain ⟨c₇, hp⟩ := ck_some hp
            refine WQ_v rfl (a_ixa (E := eInt) (z := x11) (hO₁₇.sl 0 rfl : Sl eInt (k₁₆.bump 25) v₂ x2) rfl rfl c₇) ?_
            refine WQ_v rfl (a_ldE (w := .i .i64 (gi x2 (x11 : Int).toNat)) (hO₁₇.sl 0 rfl : Sl eInt (k₁₆.bump 25) v₂ x2) rfl (toNat_lt c₇) rfl) ?_
            refine WQ_v rfl (a_lss (a := (gi x9 (x11 : Int).toNat)) (b := (gi x2 (x11 : Int).toNat)) rfl rfl) ?_
            refine WQ_v rfl (a_mv (v := .b (decide ((gi x9 (x11 : Int).toNat) < (gi x2 (x11 : Int).toNat)))) rfl) ?_
            refine WQ_cut 15 (fun fr' k' => (k₁₆.bump 25) = k' ∧ fr' 115 = .b ((decide ((gi x9 (x11 : Int).toNat) < (gi x2 (x11 : Int).toNat))) || ((decide (x11 < ((more.get 1).tmod x))) && (!(decide (gi x9 (x11 : Int).toNat = gi x2 (x11 : Int).toNat))))) ∧ fr' 10 = .i .i64 ((more.get 1).tmod x) ∧ fr' 14 = v₈ ∧ fr' 7 = v₂ ∧ fr' 87 = .i .i64 (x9.length : Int) ∧ fr' 88 = .i .i64 x11 ∧ fr' 9 = .i .i64 ((more.get 0).tmod x)) ?_ ?_
            · rcases bc (decide ((gi x9 (x11 : Int).toNat) < (gi x2 (x11 : Int).toNat))) with b₉ | b₉
              · skip
                refine WQ_off rfl b₉ ?_
                refine WQ_off rfl b₉ ?_
                refine WQ_off rfl b₉ ?_
                refine WQ_off rfl b₉ ?_
                refine WQ_un rfl ?_
                refine WQ_un rfl ?_
                refine WQ_un rfl ?_
                refine WQ_un rfl ?_
                refine WQ_un rfl ?_
                refine WQ_un rfl ?_
                refine WQ_un rfl ?_
                refine WQ_un rfl ?_
                refine WQ_un rfl ?_
                refine WQ_off rfl b₉ ?_
                refine WQ_v rfl (a_pickT (t := (decide ((gi x9 (x11 : Int).toNat) < (gi x2 (x11 : Int).toNat)))) (v := .b ((decide ((gi x9 (x11 : Int).toNat) < (gi x2 (x11 : Int).toNat))) || ((decide (x11 < ((more.get 1).tmod x))) && (!(decide (gi x9 (x11 : Int).toNat = gi x2 (x11 : Int).toNat)))))) rfl b₉ (Eq.trans (b := V.b true) rfl (or_off b₉))) ?_
                refine WQ_end ?_
                exact ⟨rfl, rfl, q₂_10, q₂_14, q₂_7, q₂_87, q₂_88, q₂_9⟩
              · skip
                refine WQ_on rfl b₉ ?_
                refine WQ_v rfl (a_mv (v := .i .i64 x11) rfl) ?_
                refine WQ_on rfl b₉ ?_
                refine WQ_v rfl (a_mv (v := .i .i64 ((more.get 1).tmod x)) q₂_10) ?_
                refine WQ_on rfl b₉ ?_
                refine WQ_v rfl (a_lss (a := x11) (b := ((more.get 1).tmod x)) rfl rfl) ?_
                refine WQ_on rfl b₉ ?_
                refine WQ_v rfl (a_mv (v := .b (decide (x11 < ((more.get 1).tmod x)))) rfl) ?_
                refine WQ_cut 10 (fun fr' k' => (k₁₆.bump 25) = k' ∧ fr' 114 = .b ((decide (x11 < ((more.get 1).tmod x))) && (!(decide (gi x9 (x11 : Int).toNat = gi x2 (x11 : Int).toNat)))) ∧ fr' 10 = .i .i64 ((more.get 1).tmod x) ∧ fr' 100 = .b (decide ((gi x9 (x11 : Int).toNat) < (gi x2 (x11 : Int).toNat))) ∧ fr' 14 = v₈ ∧ fr' 7 = v₂ ∧ fr' 87 = .i .i64 (x9.length : Int) ∧ fr' 88 = .i .i64 x11 ∧ fr' 9 = .i .i64 ((more.get 0).tmod x)) ?_ ?_
                · rcases bc (decide (x11 < ((more.get 1).tmod x))) with b₁₀ | b₁₀
                  · skip
                    refine WQ_on rfl b₁₀ ?_
                    refine WQ_v rfl (a_mv (v := v₈) q₂_14) ?_
                    refine WQ_on rfl b₁₀ ?_
                    refine WQ_v rfl (a_mv (v := .i .i64 x11) rfl) ?_
                    refine WQ_on rfl b₁₀ ?_
                    refine WQ_v rfl (a_ixa (E := eInt) (z := x11) (hO₁₇.sl 1 rfl : Sl eInt (k₁₆.bump 25) v₈ x9) rfl rfl c₆) ?_
                    refine WQ_on rfl b₁₀ ?_
                    refine WQ_v rfl (a_ldE (w := .i .i64 (gi x9 (x11 : Int).toNat)) (hO₁₇.sl 1 rfl : Sl eInt (k₁₆.bump 25) v₈ x9) rfl (toNat_lt c₆) rfl) ?_
                    refine WQ_on rfl b₁₀ ?_
                    refine WQ_v rfl (a_mv (v := v₂) q₂_7) ?_
                    refine WQ_on rfl b₁₀ ?_
                    refine WQ_v rfl (a_mv (v := .i .i64 x11) rfl) ?_
                    refine WQ_on rfl b₁₀ ?_
                    refine WQ_v rfl (a_ixa (E := eInt) (z := x11) (hO₁₇.sl 0 rfl : Sl eInt (k₁₆.bump 25) v₂ x2) rfl rfl c₇) ?_
                    refine WQ_on rfl b₁₀ ?_
                    refine WQ_v rfl (a_ldE (w := .i .i64 (gi x2 (x11 : Int).toNat)) (hO₁₇.sl 0 rfl : Sl eInt (k₁₆.bump 25) v₂ x2) rfl (toNat_lt c₇) rfl) ?_
                    refine WQ_on rfl b₁₀ ?_
                    refine WQ_v rfl (a_neI (a := (gi x9 (x11 : Int).toNat)) (b := (gi x2 (x11 : Int).toNat)) rfl rfl) ?_
                    refine WQ_on rfl b₉ ?_
                    refine WQ_v rfl (a_pickT (t := (decide (x11 < ((more.get 1).tmod x)))) (v := .b ((decide (x11 < ((more.get 1).tmod x))) && (!(decide (gi x9 (x11 : Int).toNat = gi x2 (x11 : Int).toNat))))) rfl b₁₀ (Eq.trans (b := V.b (!(decide (gi x9 (x11 : Int).toNat = gi x2 (x11 : Int).toNat)))) rfl (and_on b₁₀))) ?_
                    refine WQ_end ?_
                    exact ⟨rfl, rfl, q₂_10, rfl, q₂_14, q₂_7, q₂_87, q₂_88, q₂_9⟩
                  · skip
                    refine WQ_off rfl b₁₀ ?_
                    refine WQ_off rfl b₁₀ ?_
                    refine WQ_off rfl b₁₀ ?_
                    refine WQ_off rfl b₁₀ ?_
                    refine WQ_off rfl b₁₀ ?_
                    refine WQ_off rfl b₁₀ ?_
                    refine WQ_off rfl b₁₀ ?_
                    refine WQ_off rfl b₁₀ ?_
                    refine WQ_off rfl b₁₀ ?_
                    refine WQ_on rfl b₉ ?_
                    refine WQ_v rfl (a_pickF (t := (decide (x11 < ((more.get 1).tmod x)))) (v := .b ((decide (x11 < ((more.get 1).tmod x))) && (!(decide (gi x9 (x11 : Int).toNat = gi x2 (x11 : Int).toNat))))) rfl b₁₀ (Eq.trans (b := V.b false) rfl (and_off b₁₀))) ?_
                    refine WQ_end ?_
                    exact ⟨rfl, rfl, q₂_10, rfl, q₂_14, q₂_7, q₂_87, q₂_88, q₂_9⟩
                rintro frg₅ _ ⟨rfl, g₅_114, g₅_10, g₅_100, g₅_14, g₅_7, g₅_87, g₅_88, g₅_9⟩
                refine WQ_v rfl (a_pickF (t := (decide ((gi x9 (x11 : Int).toNat) < (gi x2 (x11 : Int).toNat)))) (v := .b ((decide ((gi x9 (x11 : Int).toNat) < (gi x2 (x11 : Int).toNat))) || ((decide (x11 < ((more.get 1).tmod x))) && (!(decide (gi x9 (x11 : Int).toNat = gi x2 (x11 : Int).toNat)))))) g₅_100 b₉ (Eq.trans (b := V.b ((decide (x11 < ((more.get 1).tmod x))) && (!(decide (gi x9 (x11 : Int).toNat = gi x2 (x11 : Int).toNat))))) g₅_114 (or_on b₉))) ?_
                refine WQ_end ?_
                exact ⟨rfl, rfl, g₅_10, g₅_14, g₅_7, g₅_87, g₅_88, g₅_9⟩
            rintro frg₆ _ ⟨rfl, g₆_115, g₆_10, g₆_14, g₆_7, g₆_87, g₆_88, g₆_9⟩
            refine WQ_end ?_
            refine then_n ?_
            rcases if_some hp with ⟨b₁₁, hp⟩ | ⟨b₁₁, hp⟩
            · refine W_cT (t := ((decide ((gi x9 (x11 : Int).toNat) < (gi x2 (x11 : Int).toNat))) || ((decide (x11 < ((more.get 1).tmod x))) && (!(decide (gi x9 (x11 : Int).toNat = gi x2 (x11 : Int).toNat)))))) g₆_115 b₁₁ ?_
              refine W_sq ?_
              refine W_rg ?_
              refine WO_v (a_mv (v := .b false) rfl) ?_
              refine WO_end ?_
              refine then_n ?_
              refine W_rt ?_
              refine blk_r ?_
              refine then_r ?_
              have hp := Option.some.inj hp; subst hp
              refine (Or.inr (Exists.intro (.inr ()) (And.intro rfl (And.intro (fun h => nomatch h) (fun he => ?_)))))
              subst he; exact (And.intro rfl (And.intro (rfl) (hO₁₇.pick [] rfl (by decide))))
            · refine W_cF (t := ((decide ((gi x9 (x11 : Int).toNat) < (gi x2 (x11 : Int).toNat))) || ((decide (x11 < ((more.get 1).tmod x))) && (!(decide (gi x9 (x11 : Int).toNat = gi x2 (x11 : Int).toNat)))))) g₆_115 b₁₁ ?_
              refine W_sk ?_
              refine blk_n ?_
              refine then_n ?_
              refine W_rg ?_
              obtain ⟨c₈, hp⟩ := ck_some hp
              refine WO_v (a_add (a := x11) (b := 1) g₆_88 rfl c₈) ?_
              refine WO_v (a_mv (v := .i .i64 (x11 + 1)) rfl) ?_
              refine WO_end ?_
              have hp := Option.some.inj hp; subst hp
              exact (Or.inl (Exists.intro (x11 + 1) (And.intro rfl (And.intro rfl (And.intro (g₆_7) (And.intro (g₆_9) (And.intro (g₆_10) (And.intro (g₆_14) (And.intro (g₆_87) (And.intro (rfl) (hO₁₇.pick [0, 1] rfl (by decide))))))))))))
          · refine W_cF (t := (decide (x11 < (x9.length : Int)))) rfl b₈ ?_
            refine W_ex ?_
            refine then_e ?_
            have hp := Option.some.inj hp; subst hp
            refine (Or.inr (Exists.intro (.inl ()) (And.intro rfl (And.intro (fun h => nomatch h) (fun he => ?_)))))
            subst he; exact (And.intro rfl (And.intro (q₂_7) (And.intro (q₂_9) (And.intro (q₂_10) (And.intro (q₂_14) (hO₁₆.pick [0, 1] rfl (by decide)))))))
        intro e₁ q₁ k₁₅ hJ₁
        rcases o₁ with _ | _
        · obtain ⟨rfl, q₁_7, q₁_9, q₁_10, q₁_14, hO₁₅⟩ := hJ₁
          refine blk_i ?_
          refine then_n ?_
          refine W_sq ?_
          refine W_qd ?_
          have hW := hO₁₅.bump 16
          have hO₁₈ : Own B h (k₁₅.bump 16) [eSl eInt v₂ x2, eSl eInt v₈ x9] := hW
          refine WQ_v rfl (a_mv (v := v₈) q₁_14) ?_
          refine WQ_v rfl (a_mv (v := .i .i64 ((more.get 1).tmod x)) q₁_10) ?_
          obtain ⟨c₉, hp⟩ := ck_some hp
          refine WQ_v rfl (a_ixa (E := eInt) (z := ((more.get 1).tmod x)) (hO₁₈.sl 1 rfl : Sl eInt (k₁₅.bump 16) v₈ x9) rfl rfl c₉) ?_
          refine WQ_v rfl (a_ldE (w := .i .i64 (gi x9 ((more.get 1).tmod x : Int).toNat)) (hO₁₈.sl 1 rfl : Sl eInt (k₁₅.bump 16) v₈ x9) rfl (toNat_lt c₉) rfl) ?_
          refine WQ_v rfl (a_mv (v := v₂) q₁_7) ?_
          refine WQ_v rfl (a_mv (v := .i .i64 ((more.get 1).tmod x)) q₁_10) ?_
          obtain ⟨c₁₀, hp⟩ := ck_some hp
          refine WQ_v rfl (a_ixa (E := eInt) (z := ((more.get 1).tmod x)) (hO₁₈.sl 0 rfl : Sl eInt (k₁₅.bump 16) v₂ x2) rfl rfl c₁₀) ?_
          refine WQ_v rfl (a_ldE (w := .i .i64 (gi x2 ((more.get 1).tmod x : Int).toNat)) (hO₁₈.sl 0 rfl : Sl eInt (k₁₅.bump 16) v₂ x2) rfl (toNat_lt c₁₀) rfl) ?_
          refine WQ_v rfl (a_mv (v := v₂) q₁_7) ?_
          refine WQ_v rfl (a_mv (v := .i .i64 ((more.get 0).tmod x)) q₁_9) ?_
          obtain ⟨c₁₁, hp⟩ := ck_some hp
          refine WQ_v rfl (a_ixa (E := eInt) (z := ((more.get 0).tmod x)) (hO₁₈.sl 0 rfl : Sl eInt (k₁₅.bump 16) v₂ x2) rfl rfl c₁₁) ?_
          refine WQ_v rfl (a_ldE (w := .i .i64 (gi x2 ((more.get 0).tmod x : Int).toNat)) (hO₁₈.sl 0 rfl : Sl eInt (k₁₅.bump 16) v₂ x2) rfl (toNat_lt c₁₁) rfl) ?_
          obtain ⟨c₁₂, hp⟩ := ck_some hp
          refine WQ_v rfl (a_add (a := (gi x2 ((more.get 0).tmod x : Int).toNat)) (b := 1) rfl rfl c₁₂) ?_
          refine WQ_v rfl (a_mx (a := (gi x2 ((more.get 1).tmod x : Int).toNat)) (b := ((gi x2 ((more.get 0).tmod x : Int).toNat) + 1)) rfl rfl) ?_
          refine WQ_v rfl (a_eqI (a := (gi x9 ((more.get 1).tmod x : Int).toNat)) (b := (max (gi x2 ((more.get 1).tmod x : Int).toNat) ((gi x2 ((more.get 0).tmod x : Int).toNat) + 1))) rfl rfl) ?_
          refine WQ_v rfl (a_mv (v := .b (decide (gi x9 ((more.get 1).tmod x : Int).toNat = max (gi x2 ((more.get 1).tmod x : Int).toNat) ((gi x2 ((more.get 0).tmod x : Int).toNat) + 1)))) rfl) ?_
          refine WQ_end ?_
          refine then_n ?_
          refine W_rt ?_
          refine Ret_r (rs_t (n := 4) (v := .b (decide (gi x9 ((more.get 1).tmod x : Int).toNat = max (gi x2 ((more.get 1).tmod x : Int).toNat) ((gi x2 ((more.get 0).tmod x : Int).toNat) + 1)))) rfl rs_nil) ?_
          have hp := Option.some.inj hp; subst hp
          exact (And.intro rfl (hO₁₈.pick [] rfl (by decide)))
        · obtain ⟨rfl, q₁_4, hO₁₅⟩ := hJ₁
          refine blk_r ?_
          refine then_r ?_
          refine Ret_r (rs_t (n := 4) (v := .b false) q₁_4 rs_nil) ?_
          have hp := Option.some.inj hp; subst hp
          exact (And.intro rfl (hO₁₅.pick [] rfl (by decide)))

end Mu
