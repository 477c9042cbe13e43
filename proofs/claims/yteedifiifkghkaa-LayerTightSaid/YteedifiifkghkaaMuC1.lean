/- The code comes to what was worked out. -/
import Derived.Test.YteedifiifkghkaaMuDf
import Derived.Test.YteedifiifkghkaaMuPa
import Derived.Test.YteedifiifkghkaaMuC0
set_option linter.unusedVariables false
set_option linter.unnecessarySimpa false
set_option linter.unusedSimpArgs false
set_option maxHeartbeats 2000000
set_option maxRecDepth 10000
namespace Mu
open Go (IntKind BinOp UnOp)
theorem p_muntinlaw04_wakes.ok {h : Hp}    {r : Bool} (hp : p_muntinlaw04_wakes  = some r) :
    ∃ u k', Is G 39 [] h u k' ∧ V.b r = u ∧ Own (fun r => r < h.n) h k' [] := by
  refine WC.is (WC_of G_F_muntinlaw04_wakes ?_)
  unfold p_muntinlaw04_wakes at hp
  let B : Nat → Prop := (fun r => r < h.n)
  have hO : Own B h h [] := Own.start0 h
  refine W_sq ?_
  refine W_rg ?_
  refine WO_v (a_mv (v := .b false) rfl) ?_
  refine WO_end ?_
  refine then_n ?_
  refine W_sq ?_
  refine W_rg ?_
  refine WO_v (a_build (cs := e_T_api_Arc.c (⟨0, 1, (0 : Int)⟩ : T_api_Arc)) (by rw [(ev_cons (v := .i .i64 0) rfl (ev_cons (v := .i .i64 1) rfl ev_nil))]; rfl)) ?_
  refine WO_v (a_build (cs := e_T_api_Arc.c (⟨1, 2, (0 : Int)⟩ : T_api_Arc)) (by rw [(ev_cons (v := .i .i64 1) rfl (ev_cons (v := .i .i64 2) rfl ev_nil))]; rfl)) ?_
  refine WO_v (a_build (cs := e_T_api_Arc.c (⟨0, 2, (0 : Int)⟩ : T_api_Arc)) (by rw [(ev_cons (v := .i .i64 0) rfl (ev_cons (v := .i .i64 2) rfl ev_nil))]; rfl)) ?_
  refine WO_x (hO.bsl (E := e_T_api_Arc) (l := [(⟨0, 1, (0 : Int)⟩ : T_api_Arc), (⟨1, 2, (0 : Int)⟩ : T_api_Arc), (⟨0, 2, (0 : Int)⟩ : T_api_Arc)]) hO.fr (by rw [(ev_cons (v := .ag (e_T_api_Arc.c (⟨0, 1, (0 : Int)⟩ : T_api_Arc))) rfl (ev_cons (v := .ag (e_T_api_Arc.c (⟨1, 2, (0 : Int)⟩ : T_api_Arc))) rfl (ev_cons (v := .ag (e_T_api_Arc.c (⟨0, 2, (0 : Int)⟩ : T_api_Arc))) rfl ev_nil)))]; rfl) rfl) ?_
  rintro v₁ k₁ ⟨r₁, f₁, hW⟩
  have hO₁ : Own B h k₁ [eSl e_T_api_Arc v₁ [(⟨0, 1, (0 : Int)⟩ : T_api_Arc), (⟨1, 2, (0 : Int)⟩ : T_api_Arc), (⟨0, 2, (0 : Int)⟩ : T_api_Arc)]] := hW
  obtain ⟨⟨x, x1⟩, hx₁, hp⟩ := bd_some hp
  obtain ⟨u₁, k₂, ca₁, v₂, rfl, hW₁⟩ := p_layer_Layers.ok (h := k₁)  (hO₁.sl 0 rfl : Sl e_T_api_Arc k₁ v₁ [(⟨0, 1, (0 : Int)⟩ : T_api_Arc), (⟨1, 2, (0 : Int)⟩ : T_api_Arc), (⟨0, 2, (0 : Int)⟩ : T_api_Arc)]) hx₁
  refine WO_c (id := 38) (caps := []) rfl (mp_cons (v := .i .i64 3) rfl (mp_cons (v := v₁) rfl mp_nil)) ca₁ ?_
  have hO₂ : Own B h k₂ [eSl e_T_api_Arc v₁ [(⟨0, 1, (0 : Int)⟩ : T_api_Arc), (⟨1, 2, (0 : Int)⟩ : T_api_Arc), (⟨0, 2, (0 : Int)⟩ : T_api_Arc)], eSl eInt v₂ x] := hO₁.call hW₁ rfl
  refine WO_v (a_mv (v := .tu [v₂, .i .i64 x1]) rfl) ?_
  refine WO_v (a_ext (vs := [v₂, .i .i64 x1]) (v := v₂) rfl rfl) ?_
  refine WO_v (a_ext (vs := [v₂, .i .i64 x1]) (v := .i .i64 x1) rfl rfl) ?_
  refine WO_v (a_mv (v := v₂) rfl) ?_
  refine WO_v (a_mv (v := .i .i64 x1) rfl) ?_
  refine WO_end ?_
  refine then_n ?_
  refine W_sq ?_
  refine W_rg ?_
  refine WO_v (a_build (cs := e_T_api_Arc.c (⟨(0 : Int), (0 : Int), (0 : Int)⟩ : T_api_Arc)) (by rw [ev_nil]; rfl)) ?_
  refine WO_x (hO₂.bsl (E := e_T_api_Arc) (l := [(⟨(0 : Int), (0 : Int), (0 : Int)⟩ : T_api_Arc)]) hO₂.fr (by rw [(ev_cons (v := .ag (e_T_api_Arc.c (⟨(0 : Int), (0 : Int), (0 : Int)⟩ : T_api_Arc))) rfl ev_nil)]; rfl) rfl) ?_
  rintro v₃ k₃ ⟨r₂, f₂, hW⟩
  have hO₃ : Own B h k₃ [eSl e_T_api_Arc v₁ [(⟨0, 1, (0 : Int)⟩ : T_api_Arc), (⟨1, 2, (0 : Int)⟩ : T_api_Arc), (⟨0, 2, (0 : Int)⟩ : T_api_Arc)], eSl eInt v₂ x, eSl e_T_api_Arc v₃ [(⟨(0 : Int), (0 : Int), (0 : Int)⟩ : T_api_Arc)]] := hW
  obtain ⟨⟨x2, x3⟩, hx₂, hp⟩ := bd_some hp
  obtain ⟨u₂, k₄, ca₂, v₄, rfl, hW₂⟩ := p_layer_Layers.ok (h := k₃)  (hO₃.sl 2 rfl : Sl e_T_api_Arc k₃ v₃ [(⟨(0 : Int), (0 : Int), (0 : Int)⟩ : T_api_Arc)]) hx₂
  refine WO_c (id := 38) (caps := []) rfl (mp_cons (v := .i .i64 1) rfl (mp_cons (v := v₃) rfl mp_nil)) ca₂ ?_
  have hO₄ : Own B h k₄ [eSl e_T_api_Arc v₁ [(⟨0, 1, (0 : Int)⟩ : T_api_Arc), (⟨1, 2, (0 : Int)⟩ : T_api_Arc), (⟨0, 2, (0 : Int)⟩ : T_api_Arc)], eSl eInt v₂ x, eSl e_T_api_Arc v₃ [(⟨(0 : Int), (0 : Int), (0 : Int)⟩ : T_api_Arc)], eSl eInt v₄ x2] := hO₃.call hW₂ rfl
  refine WO_v (a_mv (v := .tu [v₄, .i .i64 x3]) rfl) ?_
  refine WO_v (a_ext (vs := [v₄, .i .i64 x3]) (v := v₄) rfl rfl) ?_
  refine WO_v (a_ext (vs := [v₄, .i .i64 x3]) (v := .i .i64 x3) rfl rfl) ?_
  refine WO_v (a_mv (v := v₄) rfl) ?_
  refine WO_v (a_mv (v := .i .i64 x3) rfl) ?_
  refine WO_end ?_
  refine then_n ?_
  refine W_sq ?_
  refine W_rg ?_
  refine WO_v (a_mv (v := .i .i64 x1) rfl) ?_
  refine WO_v (a_eqI (a := x1) (b := 0) rfl rfl) ?_
  refine WO_v (a_mv (v := .b (decide (x1 = 0))) rfl) ?_
  obtain ⟨t, hv₁, hp⟩ := bd_some hp
  refine WO_cut 4 (fun fr' k' => Own B h k' [eSl e_T_api_Arc v₁ [(⟨0, 1, (0 : Int)⟩ : T_api_Arc), (⟨1, 2, (0 : Int)⟩ : T_api_Arc), (⟨0, 2, (0 : Int)⟩ : T_api_Arc)], eSl eInt v₂ x, eSl e_T_api_Arc v₃ [(⟨(0 : Int), (0 : Int), (0 : Int)⟩ : T_api_Arc)], eSl eInt v₄ x2] ∧ fr' 25 = .b t ∧ fr' 1 = v₂ ∧ fr' 4 = .i .i64 x3) ?_ ?_
  · clear hp; rcases if_some hv₁ with ⟨b₁, hp⟩ | ⟨b₁, hp⟩
    · skip
      refine WO_on rfl b₁ ?_
      refine WO_v (a_mv (v := v₂) rfl) ?_
      refine WO_on rfl b₁ ?_
      refine WO_x (hO₄.bsl (E := eInt) (l := [0, 1, 2]) hO₄.fr (by rw [(ev_cons (v := .i .i64 0) rfl (ev_cons (v := .i .i64 1) rfl (ev_cons (v := .i .i64 2) rfl ev_nil)))]; rfl) rfl) ?_
      rintro v₅ k₅ ⟨r₃, f₃, hW⟩
      have hO₅ : Own B h k₅ [eSl e_T_api_Arc v₁ [(⟨0, 1, (0 : Int)⟩ : T_api_Arc), (⟨1, 2, (0 : Int)⟩ : T_api_Arc), (⟨0, 2, (0 : Int)⟩ : T_api_Arc)], eSl eInt v₂ x, eSl e_T_api_Arc v₃ [(⟨(0 : Int), (0 : Int), (0 : Int)⟩ : T_api_Arc)], eSl eInt v₄ x2, eSl eInt v₅ [0, 1, 2]] := hW
      refine WO_on rfl b₁ ?_
      obtain ⟨x4, hx₃, hp⟩ := bd_some hp
      obtain ⟨u₃, k₆, ca₃, rfl, hW₃⟩ := p_slices_Equal_int.ok (h := k₅)  (hO₅.sl 1 rfl : Sl eInt k₅ v₂ x) (hO₅.sl 4 rfl : Sl eInt k₅ v₅ [0, 1, 2]) hx₃
      refine WO_c (id := 33) (caps := []) rfl (mp_cons (v := v₂) rfl (mp_cons (v := v₅) rfl mp_nil)) ca₃ ?_
      have hO₆ : Own B h k₆ [eSl e_T_api_Arc v₁ [(⟨0, 1, (0 : Int)⟩ : T_api_Arc), (⟨1, 2, (0 : Int)⟩ : T_api_Arc), (⟨0, 2, (0 : Int)⟩ : T_api_Arc)], eSl eInt v₂ x, eSl e_T_api_Arc v₃ [(⟨(0 : Int), (0 : Int), (0 : Int)⟩ : T_api_Arc)], eSl eInt v₄ x2, eSl eInt v₅ [0, 1, 2]] := hO₅.call hW₃ rfl
      refine WO_v (a_pickT (t := (decide (x1 = 0))) (v := .b t) rfl b₁ (Eq.trans (b := V.b x4) rfl (congrArg V.b (Option.some.inj hp)))) ?_
      refine WO_end ?_
      exact ⟨hO₆.pick [0, 1, 2, 3] rfl (by decide), rfl, rfl, rfl⟩
    · skip
      refine WO_off rfl b₁ ?_
      refine WO_off rfl b₁ ?_
      refine WO_off rfl b₁ ?_
      refine WO_v (a_pickF (t := (decide (x1 = 0))) (v := .b t) rfl b₁ (Eq.trans (b := V.b false) rfl (congrArg V.b (Option.some.inj hp)))) ?_
      refine WO_end ?_
      exact ⟨hO₄.pick [0, 1, 2, 3] rfl (by decide), rfl, rfl, rfl⟩
  rintro frg₁ k₇ ⟨hO₇, g₁_25, g₁_1, g₁_4⟩
  refine WO_v (a_mv (v := .b t) g₁_25) ?_
  refine WO_cut 3 (fun fr' k' => k₇ = k' ∧ fr' 29 = .b (t && (decide (x3 = 11))) ∧ fr' 1 = v₂) ?_ ?_
  · rcases bc t with b₂ | b₂
    · skip
      refine WO_on rfl b₂ ?_
      refine WO_v (a_mv (v := .i .i64 x3) g₁_4) ?_
      refine WO_on rfl b₂ ?_
      refine WO_v (a_eqI (a := x3) (b := 11) rfl rfl) ?_
      refine WO_v (a_pickT (t := t) (v := .b (t && (decide (x3 = 11)))) rfl b₂ (Eq.trans (b := V.b (decide (x3 = 11))) rfl (and_on b₂))) ?_
      refine WO_end ?_
      exact ⟨rfl, rfl, g₁_1⟩
    · skip
      refine WO_off rfl b₂ ?_
      refine WO_off rfl b₂ ?_
      refine WO_v (a_pickF (t := t) (v := .b (t && (decide (x3 = 11)))) rfl b₂ (Eq.trans (b := V.b false) rfl (and_off b₂))) ?_
      refine WO_end ?_
      exact ⟨rfl, rfl, g₁_1⟩
  rintro frg₂ _ ⟨rfl, g₂_29, g₂_1⟩
  refine WO_v (a_mv (v := .b (t && (decide (x3 = 11)))) g₂_29) ?_
  obtain ⟨t1, hv₂, hp⟩ := bd_some hp
  refine WO_cut 4 (fun fr' k' => Own B h k' [eSl e_T_api_Arc v₁ [(⟨0, 1, (0 : Int)⟩ : T_api_Arc), (⟨1, 2, (0 : Int)⟩ : T_api_Arc), (⟨0, 2, (0 : Int)⟩ : T_api_Arc)], eSl eInt v₂ x, eSl e_T_api_Arc v₃ [(⟨(0 : Int), (0 : Int), (0 : Int)⟩ : T_api_Arc)], eSl eInt v₄ x2] ∧ fr' 34 = .b t1) ?_ ?_
  · clear hp; rcases if_some hv₂ with ⟨b₃, hp⟩ | ⟨b₃, hp⟩
    · skip
      refine WO_on rfl b₃ ?_
      refine WO_v (a_mv (v := v₂) g₂_1) ?_
      refine WO_on rfl b₃ ?_
      obtain ⟨x5, hx₄, hp⟩ := bd_some hp
      obtain ⟨u₄, k₈, ca₄, rfl, hW₄⟩ := p_layer_Span.ok (h := k₇)  (hO₇.sl 1 rfl : Sl eInt k₇ v₂ x) hx₄
      refine WO_c (id := 41) (caps := []) rfl (mp_cons (v := v₂) rfl mp_nil) ca₄ ?_
      have hO₈ : Own B h k₈ [eSl e_T_api_Arc v₁ [(⟨0, 1, (0 : Int)⟩ : T_api_Arc), (⟨1, 2, (0 : Int)⟩ : T_api_Arc), (⟨0, 2, (0 : Int)⟩ : T_api_Arc)], eSl eInt v₂ x, eSl e_T_api_Arc v₃ [(⟨(0 : Int), (0 : Int), (0 : Int)⟩ : T_api_Arc)], eSl eInt v₄ x2] := hO₇.call hW₄ rfl
      refine WO_on rfl b₃ ?_
      refine WO_v (a_eqI (a := x5) (b := 2) rfl rfl) ?_
      refine WO_v (a_pickT (t := (t && (decide (x3 = 11)))) (v := .b t1) rfl b₃ (Eq.trans (b := V.b (decide (x5 = 2))) rfl (congrArg V.b (Option.some.inj hp)))) ?_
      refine WO_end ?_
      exact ⟨hO₈.pick [0, 1, 2, 3] rfl (by decide), rfl⟩
    · skip
      refine WO_off rfl b₃ ?_
      refine WO_off rfl b₃ ?_
      refine WO_off rfl b₃ ?_
      refine WO_v (a_pickF (t := (t && (decide (x3 = 11)))) (v := .b t1) rfl b₃ (Eq.trans (b := V.b false) rfl (congrArg V.b (Option.some.inj hp)))) ?_
      refine WO_end ?_
      exact ⟨hO₇.pick [0, 1, 2, 3] rfl (by decide), rfl⟩
  rintro frg₃ k₉ ⟨hO₉, g₃_34⟩
  refine WO_v (a_mv (v := .b t1) g₃_34) ?_
  refine WO_end ?_
  refine then_n ?_
  refine W_rt ?_
  refine Ret_r (rs_t (n := 0) (v := .b t1) rfl rs_nil) ?_
  have hp := Option.some.inj hp; subst hp
  exact (And.intro rfl (hO₉.pick [] rfl (by decide)))

theorem p_muntinlaw04_LayerTight_1.ok {h : Hp} {a : T_api_Arc} {c0 : Int} {c1 : List Int} {r_c0 : Nat} {w_c0 : Bool} {r_c1 : Nat} {v_c1 : V} {w_c1 : Bool} (b_c0 : h.m r_c0 = some (.cells w_c0 [.i .i64 c0])) (b_c1 : h.m r_c1 = some (.cells w_c1 [v_c1])) (s_c1 : Sl eInt h v_c1 c1) {r : Bool} (hp : p_muntinlaw04_LayerTight_1 a c0 c1 = some r) :
    ∃ u k', Is G 43 [.ag (e_T_api_Arc.c a), .p r_c0 0, .p r_c1 0] h u k' ∧ V.b r = u ∧ Own (fun r => r < h.n) h k' [] := by
  refine WC.is (WC_of G_F_muntinlaw04_LayerTight_1 ?_)
  unfold p_muntinlaw04_LayerTight_1 at hp
  let B : Nat → Prop := (fun r => r < h.n)
  have hO : Own B h h [] := Own.start0 h
  refine W_sq ?_
  refine W_rg ?_
  refine WO_x (hO.boxd (v := .ag (e_T_api_Arc.c a)) (cs := e_T_api_Arc.c a) hO.fr rfl rfl) ?_
  rintro _ k₁ ⟨r₁, rfl, n₁, f₁, hW⟩
  have hO₁ : Own B h k₁ [eBox r₁ (e_T_api_Arc.c a)] := hW
  refine WO_v (a_mv (v := .b false) rfl) ?_
  refine WO_end ?_
  refine then_n ?_
  refine W_sq ?_
  refine W_qd ?_
  have hW := hO₁.bump 18
  have hO₂ : Own B h (k₁.bump 18) [eBox r₁ (e_T_api_Arc.c a)] := hW
  refine WQ_v rfl (a_fa (r := r₁) (o := 0) (o' := 1) rfl rfl) ?_
  refine WQ_v rfl (a_ldb (cs := (e_T_api_Arc.c a)) (v := .i .i64 a.To) (hO₂.box 0 rfl) rfl rfl) ?_
  refine WQ_v rfl (a_ldb (cs := [.i .i64 c0]) (v := .i .i64 c0) (hO₂.rdB0 (RdB.of b_c0)).choose_spec rfl rfl) ?_
  refine WQ_v rfl (a_eqI (a := a.To) (b := c0) rfl rfl) ?_
  refine WQ_v rfl (a_mv (v := .b (decide (a.To = c0))) rfl) ?_
  obtain ⟨t, hv₁, hp⟩ := bd_some hp
  refine WQ_cut 12 (fun fr' k' => (k₁.bump 18) = k' ∧ fr' 21 = .b t) ?_ ?_
  · clear hp; rcases if_some hv₁ with ⟨b₁, hp⟩ | ⟨b₁, hp⟩
    · skip
      refine WQ_on rfl b₁ ?_
      refine WQ_v rfl (a_ldb (cs := [v_c1]) (v := v_c1) (hO₂.rdB0 (RdB.of b_c1)).choose_spec rfl rfl) ?_
      refine WQ_on rfl b₁ ?_
      refine WQ_v rfl (a_fa (r := r₁) (o := 0) (o' := 0) rfl rfl) ?_
      refine WQ_on rfl b₁ ?_
      refine WQ_v rfl (a_ldb (cs := (e_T_api_Arc.c a)) (v := .i .i64 a.From) (hO₂.box 0 rfl) rfl rfl) ?_
      refine WQ_on rfl b₁ ?_
      obtain ⟨c₁, hp⟩ := ck_some hp
      refine WQ_v rfl (a_ixa (E := eInt) (z := a.From) (hO₂.rd0 s_c1.rd : Sl eInt (k₁.bump 18) v_c1 c1) rfl rfl c₁) ?_
      refine WQ_on rfl b₁ ?_
      refine WQ_v rfl (a_ldE (w := .i .i64 (gi c1 (a.From : Int).toNat)) (hO₂.rd0 s_c1.rd : Sl eInt (k₁.bump 18) v_c1 c1) rfl (toNat_lt c₁) rfl) ?_
      refine WQ_on rfl b₁ ?_
      refine WQ_v rfl (a_ldb (cs := [v_c1]) (v := v_c1) (hO₂.rdB0 (RdB.of b_c1)).choose_spec rfl rfl) ?_
      refine WQ_on rfl b₁ ?_
      refine WQ_v rfl (a_ldb (cs := [.i .i64 c0]) (v := .i .i64 c0) (hO₂.rdB0 (RdB.of b_c0)).choose_spec rfl rfl) ?_
      refine WQ_on rfl b₁ ?_
      obtain ⟨c₂, hp⟩ := ck_some hp
      refine WQ_v rfl (a_ixa (E := eInt) (z := c0) (hO₂.rd0 s_c1.rd : Sl eInt (k₁.bump 18) v_c1 c1) rfl rfl c₂) ?_
      refine WQ_on rfl b₁ ?_
      refine WQ_v rfl (a_ldE (w := .i .i64 (gi c1 (c0 : Int).toNat)) (hO₂.rd0 s_c1.rd : Sl eInt (k₁.bump 18) v_c1 c1) rfl (toNat_lt c₂) rfl) ?_
      refine WQ_on rfl b₁ ?_
      obtain ⟨c₃, hp⟩ := ck_some hp
      refine WQ_v rfl (a_sub (a := (gi c1 (c0 : Int).toNat)) (b := 1) rfl rfl c₃) ?_
      refine WQ_on rfl b₁ ?_
      refine WQ_v rfl (a_eqI (a := (gi c1 (a.From : Int).toNat)) (b := ((gi c1 (c0 : Int).toNat) - 1)) rfl rfl) ?_
      refine WQ_v rfl (a_pickT (t := (decide (a.To = c0))) (v := .b t) rfl b₁ (Eq.trans (b := V.b (decide (gi c1 (a.From : Int).toNat = (gi c1 (c0 : Int).toNat) - 1))) rfl (congrArg V.b (Option.some.inj hp)))) ?_
      refine WQ_end ?_
      exact ⟨rfl, rfl⟩
    · skip
      refine WQ_off rfl b₁ ?_
      refine WQ_off rfl b₁ ?_
      refine WQ_off rfl b₁ ?_
      refine WQ_off rfl b₁ ?_
      refine WQ_off rfl b₁ ?_
      refine WQ_off rfl b₁ ?_
      refine WQ_off rfl b₁ ?_
      refine WQ_off rfl b₁ ?_
      refine WQ_off rfl b₁ ?_
      refine WQ_off rfl b₁ ?_
      refine WQ_off rfl b₁ ?_
      refine WQ_v rfl (a_pickF (t := (decide (a.To = c0))) (v := .b t) rfl b₁ (Eq.trans (b := V.b false) rfl (congrArg V.b (Option.some.inj hp)))) ?_
      refine WQ_end ?_
      exact ⟨rfl, rfl⟩
  rintro frg₁ _ ⟨rfl, g₁_21⟩
  refine WQ_v rfl (a_mv (v := .b t) g₁_21) ?_
  refine WQ_end ?_
  refine then_n ?_
  refine W_rt ?_
  refine Ret_r (rs_t (n := 4) (v := .b t) rfl rs_nil) ?_
  have hp := Option.some.inj hp; subst hp
  exact (And.intro rfl (hO₂.pick [] rfl (by decide)))

theorem p_muntinref03_Ranks.ok {h : Hp} {x : List Int} {v_x : V} (s_x : Sl eInt h v_x x) {r : (List Int)} (hp : p_muntinref03_Ranks x = some r) :
    ∃ u k', Is G 44 [v_x] h u k' ∧ ∃ (v₁ : V), v₁ = u ∧ Own (fun r => r < h.n) h k' [eSl eInt v₁ r] := by
  refine WC.is (WC_of G_F_muntinref03_Ranks ?_)
  unfold p_muntinref03_Ranks at hp
  let B : Nat → Prop := (fun r => r < h.n)
  have hO : Own B h h [] := Own.start0 h
  refine W_sq ?_
  refine W_rg ?_
  refine WO_v (a_mv (v := .sn) rfl) ?_
  refine WO_end ?_
  refine then_n ?_
  refine W_sq ?_
  refine W_rg ?_
  refine WO_v (a_mv (v := .sn) rfl) ?_
  refine WO_end ?_
  refine then_n ?_
  refine W_sq ?_
  refine W_sq ?_
  refine W_rg ?_
  refine WO_v (a_mv (v := .i .i64 0) rfl) ?_
  refine WO_end ?_
  refine then_n ?_
  refine W_bl ?_
  obtain ⟨o₁, ho₁, hp⟩ := bd_some hp
  refine W.mono (Q := fun e fr k => match (generalizing := false) o₁ with
      | out1 => e = (.exit 0) ∧ ∃ (v₃ : V), fr 3 = v₃ ∧ Own B h k [eSl eInt v₃ out1]) ?_ ?_
  · clear hp
    have hO₂ : Own B h h [eSl eInt .sn ([] : List Int)] := hO.nil eInt
    refine W_loopF (fun st fr k => match st with | (out, i) => ∃ (v₂ : V), fr 0 = v_x ∧ fr 3 = v₂ ∧ fr 4 = .i .i64 i ∧ Own B h k [eSl eInt v₂ out]) ho₁ (s := (([] : List Int), 0)) (Exists.intro V.sn (And.intro (rfl) (And.intro (rfl) (And.intro (rfl) (hO₂.pick [0] rfl (by decide)))))) ?_
    rintro ⟨out, i⟩ q₂ k₂ ⟨v₂, q₂_0, q₂_3, q₂_4, hO₃⟩ o₂ hp
    dsimp only [p_muntinref03_Ranks.s0] at hp
    refine W_sq ?_
    refine W_sq ?_
    refine W_rg ?_
    refine WO_v (a_mv (v := .i .i64 i) q₂_4) ?_
    refine WO_v (a_mv (v := v_x) q₂_0) ?_
    refine WO_v (a_len (hO₃.rd0 s_x.rd : Sl eInt k₂ v_x x) rfl) ?_
    refine WO_v (a_lss (a := i) (b := (x.length : Int)) rfl rfl) ?_
    refine WO_end ?_
    refine then_n ?_
    rcases if_some hp with ⟨b₁, hp⟩ | ⟨b₁, hp⟩
    · refine W_cT (t := (decide (i < (x.length : Int)))) rfl b₁ ?_
      refine W_sk ?_
      refine then_n ?_
      refine W_sq ?_
      refine W_bl ?_
      refine W_sq ?_
      refine W_rg ?_
      refine WO_v (a_mv (v := .sn) rfl) ?_
      refine WO_end ?_
      refine then_n ?_
      refine W_sq ?_
      refine W_sq ?_
      refine W_rg ?_
      refine WO_v (a_mv (v := .i .i64 0) rfl) ?_
      refine WO_end ?_
      refine then_n ?_
      refine W_bl ?_
      obtain ⟨o₃, ho₂, hp⟩ := bd_some hp
      refine W.mono (Q := fun e fr k => match (generalizing := false) o₃ with
          | less1 => e = (.exit 2) ∧ ∃ (v₅ : V), fr 0 = v_x ∧ fr 3 = v₂ ∧ fr 4 = .i .i64 i ∧ fr 5 = v₅ ∧ Own B h k [eSl eInt v₂ out, eSl eInt v₅ less1]) ?_ ?_
      · clear hp
        have hO₅ : Own B h k₂ [eSl eInt v₂ out, eSl eInt .sn ([] : List Int)] := hO₃.nil eInt
        refine W_loopF (fun st fr k => match st with | (less, k_) => ∃ (v₄ : V), fr 0 = v_x ∧ fr 3 = v₂ ∧ fr 4 = .i .i64 i ∧ fr 5 = v₄ ∧ fr 6 = .i .i64 k_ ∧ Own B h k [eSl eInt v₂ out, eSl eInt v₄ less]) ho₂ (s := (([] : List Int), 0)) (Exists.intro V.sn (And.intro (q₂_0) (And.intro (q₂_3) (And.intro (q₂_4) (And.intro (rfl) (And.intro (rfl) (hO₅.pick [0, 1] rfl (by decide)))))))) ?_
        rintro ⟨less, k_⟩ q₄ k₄ ⟨v₄, q₄_0, q₄_3, q₄_4, q₄_5, q₄_6, hO₆⟩ o₄ hp
        dsimp only [p_muntinref03_Ranks.s1] at hp
        refine W_sq ?_
        refine W_sq ?_
        refine W_rg ?_
        refine WO_v (a_mv (v := .i .i64 k_) q₄_6) ?_
        refine WO_v (a_mv (v := v_x) q₄_0) ?_
        refine WO_v (a_len (hO₆.rd0 s_x.rd : Sl eInt k₄ v_x x) rfl) ?_
        refine WO_v (a_lss (a := k_) (b := (x.length : Int)) rfl rfl) ?_
        refine WO_end ?_
        refine then_n ?_
        rcases if_some hp with ⟨b₂, hp⟩ | ⟨b₂, hp⟩
        · refine W_cT (t := (decide (k_ < (x.length : Int)))) rfl b₂ ?_
          refine W_sk ?_
          refine then_n ?_
          refine W_sq ?_
          refine W_bl ?_
          refine W_sq ?_
          refine W_qd ?_
          have hW := hO₆.bump 10
          have hO₇ : Own B h (k₄.bump 10) [eSl eInt v₂ out, eSl eInt v₄ less] := hW
          refine WQ_v rfl (a_mv (v := v_x) q₄_0) ?_
          refine WQ_v rfl (a_mv (v := .i .i64 k_) q₄_6) ?_
          obtain ⟨c₁, hp⟩ := ck_some hp
          refine WQ_v rfl (a_ixa (E := eInt) (z := k_) (hO₇.rd0 s_x.rd : Sl eInt (k₄.bump 10) v_x x) rfl rfl c₁) ?_
          refine WQ_v rfl (a_ldE (w := .i .i64 (gi x (k_ : Int).toNat)) (hO₇.rd0 s_x.rd : Sl eInt (k₄.bump 10) v_x x) rfl (toNat_lt c₁) rfl) ?_
          refine WQ_v rfl (a_mv (v := v_x) q₄_0) ?_
          refine WQ_v rfl (a_mv (v := .i .i64 i) q₄_4) ?_
          obtain ⟨c₂, hp⟩ := ck_some hp
          refine WQ_v rfl (a_ixa (E := eInt) (z := i) (hO₇.rd0 s_x.rd : Sl eInt (k₄.bump 10) v_x x) rfl rfl c₂) ?_
          refine WQ_v rfl (a_ldE (w := .i .i64 (gi x (i : Int).toNat)) (hO₇.rd0 s_x.rd : Sl eInt (k₄.bump 10) v_x x) rfl (toNat_lt c₂) rfl) ?_
          refine WQ_v rfl (a_geq (a := (gi x (k_ : Int).toNat)) (b := (gi x (i : Int).toNat)) rfl rfl) ?_
          refine WQ_v rfl (a_mv (v := .b (decide ((gi x (i : Int).toNat) ≤ (gi x (k_ : Int).toNat)))) rfl) ?_
          refine WQ_end ?_
          refine then_n ?_
          refine W_sq ?_
          refine W_sq ?_
          refine W_rg ?_
          refine WO_v (a_mv (v := .i .i64 0) rfl) ?_
          refine WO_end ?_
          refine then_n ?_
          refine W_bl ?_
          obtain ⟨o₅, ho₃, hp⟩ := bd_some hp
          refine W.mono (Q := fun e fr k => match (generalizing := false) o₅ with
              | met1 => e = (.exit 4) ∧ fr 0 = v_x ∧ fr 3 = v₂ ∧ fr 4 = .i .i64 i ∧ fr 5 = v₄ ∧ fr 6 = .i .i64 k_ ∧ fr 7 = .b met1 ∧ Own B h k [eSl eInt v₂ out, eSl eInt v₄ less]) ?_ ?_
          · clear hp
            refine W_loopF (fun st fr k => match st with | (met, j) => fr 0 = v_x ∧ fr 3 = v₂ ∧ fr 4 = .i .i64 i ∧ fr 5 = v₄ ∧ fr 6 = .i .i64 k_ ∧ fr 7 = .b met ∧ fr 8 = .i .i64 j ∧ Own B h k [eSl eInt v₂ out, eSl eInt v₄ less]) ho₃ (s := (decide ((gi x (i : Int).toNat) ≤ (gi x (k_ : Int).toNat)), 0)) (And.intro (q₄_0) (And.intro (q₄_3) (And.intro (q₄_4) (And.intro (q₄_5) (And.intro (q₄_6) (And.intro (rfl) (And.intro (rfl) (hO₇.pick [0, 1] rfl (by decide))))))))) ?_
            rintro ⟨met, j⟩ q₆ k₇ ⟨q₆_0, q₆_3, q₆_4, q₆_5, q₆_6, q₆_7, q₆_8, hO₉⟩ o₆ hp
            dsimp only [p_muntinref03_Ranks.s2] at hp
            refine W_sq ?_
            refine W_sq ?_
            refine W_rg ?_
            refine WO_v (a_mv (v := .i .i64 j) q₆_8) ?_
            refine WO_v (a_mv (v := v₄) q₆_5) ?_
            refine WO_v (a_len (hO₉.sl 1 rfl : Sl eInt k₇ v₄ less) rfl) ?_
            refine WO_v (a_lss (a := j) (b := (less.length : Int)) rfl rfl) ?_
            refine WO_v (a_mv (v := .b (decide (j < (less.length : Int)))) rfl) ?_
            refine WO_cut 3 (fun fr' k' => k₇ = k' ∧ fr' 37 = .b ((decide (j < (less.length : Int))) && (!met)) ∧ fr' 0 = v_x ∧ fr' 3 = v₂ ∧ fr' 4 = .i .i64 i ∧ fr' 5 = v₄ ∧ fr' 6 = .i .i64 k_ ∧ fr' 7 = .b met ∧ fr' 8 = .i .i64 j) ?_ ?_
            · rcases bc (decide (j < (less.length : Int))) with b₃ | b₃
              · skip
                refine WO_on rfl b₃ ?_
                refine WO_v (a_mv (v := .b met) q₆_7) ?_
                refine WO_on rfl b₃ ?_
                refine WO_v (a_not (t := met) rfl) ?_
                refine WO_v (a_pickT (t := (decide (j < (less.length : Int)))) (v := .b ((decide (j < (less.length : Int))) && (!met))) rfl b₃ (Eq.trans (b := V.b (!met)) rfl (and_on b₃))) ?_
                refine WO_end ?_
                exact ⟨rfl, rfl, q₆_0, q₆_3, q₆_4, q₆_5, q₆_6, q₆_7, q₆_8⟩
              · skip
                refine WO_off rfl b₃ ?_
                refine WO_off rfl b₃ ?_
                refine WO_v (a_pickF (t := (decide (j < (less.length : Int)))) (v := .b ((decide (j < (less.length : Int))) && (!met))) rfl b₃ (Eq.trans (b := V.b false) rfl (and_off b₃))) ?_
                refine WO_end ?_
                exact ⟨rfl, rfl, q₆_0, q₆_3, q₆_4, q₆_5, q₆_6, q₆_7, q₆_8⟩
            rintro frg₁ _ ⟨rfl, g₁_37, g₁_0, g₁_3, g₁_4, g₁_5, g₁_6, g₁_7, g₁_8⟩
            refine WO_end ?_
            refine then_n ?_
            rcases if_some hp with ⟨b₄, hp⟩ | ⟨b₄, hp⟩
            · refine W_cT (t := ((decide (j < (less.length : Int))) && (!met))) g₁_37 b₄ ?_
              refine W_sk ?_
              refine then_n ?_
              refine W_sq ?_
              refine W_bl ?_
              refine W_qd ?_
              have hW := hO₉.bump 10
              have hO₁₀ : Own B h (k₇.bump 10) [eSl eInt v₂ out, eSl eInt v₄ less] := hW
              refine WQ_v rfl (a_mv (v := v₄) g₁_5) ?_
              refine WQ_v rfl (a_mv (v := .i .i64 j) g₁_8) ?_
              obtain ⟨c₃, hp⟩ := ck_some hp
              refine WQ_v rfl (a_ixa (E := eInt) (z := j) (hO₁₀.sl 1 rfl : Sl eInt (k₇.bump 10) v₄ less) rfl rfl c₃) ?_
              refine WQ_v rfl (a_ldE (w := .i .i64 (gi less (j : Int).toNat)) (hO₁₀.sl 1 rfl : Sl eInt (k₇.bump 10) v₄ less) rfl (toNat_lt c₃) rfl) ?_
              refine WQ_v rfl (a_mv (v := v_x) g₁_0) ?_
              refine WQ_v rfl (a_mv (v := .i .i64 k_) g₁_6) ?_
              refine WQ_v rfl (a_ixa (E := eInt) (z := k_) (hO₁₀.rd0 s_x.rd : Sl eInt (k₇.bump 10) v_x x) rfl rfl c₁) ?_
              refine WQ_v rfl (a_ldE (w := .i .i64 (gi x (k_ : Int).toNat)) (hO₁₀.rd0 s_x.rd : Sl eInt (k₇.bump 10) v_x x) rfl (toNat_lt c₁) rfl) ?_
              refine WQ_v rfl (a_eqI (a := (gi less (j : Int).toNat)) (b := (gi x (k_ : Int).toNat)) rfl rfl) ?_
              refine WQ_v rfl (a_mv (v := .b (decide (gi less (j : Int).toNat = gi x (k_ : Int).toNat))) rfl) ?_
              refine WQ_end ?_
              refine blk_n ?_
              refine then_n ?_
              refine W_rg ?_
              refine WO_v (a_mv (v := .i .i64 j) g₁_8) ?_
              obtain ⟨c₄, hp⟩ := ck_some hp
              refine WO_v (a_add (a := j) (b := 1) rfl rfl c₄) ?_
              refine WO_v (a_mv (v := .i .i64 (j + 1)) rfl) ?_
              refine WO_end ?_
              have hp := Option.some.inj hp; subst hp
              exact (Or.inl (Exists.intro (decide (gi less (j : Int).toNat = gi x (k_ : Int).toNat), j + 1) (And.intro rfl (And.intro rfl (And.intro (g₁_0) (And.intro (g₁_3) (And.intro (g₁_4) (And.intro (g₁_5) (And.intro (g₁_6) (And.intro (rfl) (And.intro (rfl) (hO₁₀.pick [0, 1] rfl (by decide)))))))))))))
            · refine W_cF (t := ((decide (j < (less.length : Int))) && (!met))) g₁_37 b₄ ?_
              refine W_ex ?_
              refine then_e ?_
              have hp := Option.some.inj hp; subst hp
              refine (Or.inr (Exists.intro met (And.intro rfl (And.intro (fun h => nomatch h) (fun he => ?_)))))
              subst he; exact (And.intro rfl (And.intro (g₁_0) (And.intro (g₁_3) (And.intro (g₁_4) (And.intro (g₁_5) (And.intro (g₁_6) (And.intro (g₁_7) (hO₉.pick [0, 1] rfl (by decide)))))))))
          intro e₃ q₅ k₆ hJ₃
          obtain ⟨met1, rfl⟩ : ∃ x, x = o₅ := ⟨_, rfl⟩
          obtain ⟨rfl, q₅_0, q₅_3, q₅_4, q₅_5, q₅_6, q₅_7, hO₈⟩ := hJ₃
          refine blk_i ?_
          refine then_n ?_
          refine W_sq ?_
          refine W_rg ?_
          refine WO_v (a_mv (v := .b met1) q₅_7) ?_
          refine WO_v (a_not (t := met1) rfl) ?_
          refine WO_end ?_
          refine then_n ?_
          rcases if_some hp with ⟨b₅, hp⟩ | ⟨b₅, hp⟩
          · refine W_cT (t := (!met1)) rfl b₅ ?_
            refine W_rg ?_
            refine WO_v (a_mv (v := v₄) q₅_5) ?_
            refine WO_v (a_mv (v := v_x) q₅_0) ?_
            refine WO_v (a_mv (v := .i .i64 k_) q₅_6) ?_
            refine WO_v (a_ixa (E := eInt) (z := k_) (hO₈.rd0 s_x.rd : Sl eInt k₆ v_x x) rfl rfl c₁) ?_
            refine WO_v (a_ldE (w := .i .i64 (gi x (k_ : Int).toNat)) (hO₈.rd0 s_x.rd : Sl eInt k₆ v_x x) rfl (toNat_lt c₁) rfl) ?_
            refine WO_x (hO₈.bsl (E := eInt) (l := [gi x (k_ : Int).toNat]) hO₈.fr (by rw [(ev_cons (v := .i .i64 (gi x (k_ : Int).toNat)) rfl ev_nil)]; rfl) rfl) ?_
            rintro v₆ k₉ ⟨r₁, f₁, hW⟩
            have hO₁₁ : Own B h k₉ [eSl eInt v₂ out, eSl eInt v₄ less, eSl eInt v₆ [gi x (k_ : Int).toNat]] := hW
            obtain ⟨c₅, hp⟩ := ck_some hp
            refine WO_x (hO₁₁.app (E := eInt) (bytes := 8) 1 hO₁₁.fr rfl (hO₁₁.sl 2 rfl : Sl eInt k₉ v₆ [gi x (k_ : Int).toNat]) rfl rfl (fun _ => rfl) c₅ (by decide)) ?_
            rintro v₇ k₁₀ ⟨f₂, hW⟩
            have hO₁₂ : Own B h k₁₀ [eSl eInt v₂ out, eSl eInt v₇ (less ++ [gi x (k_ : Int).toNat]), eSl eInt v₆ [gi x (k_ : Int).toNat]] := hW
            refine WO_v (a_mv (v := v₇) rfl) ?_
            refine WO_end ?_
            refine blk_n ?_
            refine then_n ?_
            refine W_rg ?_
            refine WO_v (a_mv (v := .i .i64 k_) q₅_6) ?_
            obtain ⟨c₆, hp⟩ := ck_some hp
            refine WO_v (a_add (a := k_) (b := 1) rfl rfl c₆) ?_
            refine WO_v (a_mv (v := .i .i64 (k_ + 1)) rfl) ?_
            refine WO_end ?_
            have hp := Option.some.inj hp; subst hp
            exact (Or.inl (Exists.intro (less ++ [gi x (k_ : Int).toNat], k_ + 1) (And.intro rfl (And.intro rfl (Exists.intro v₇ (And.intro (q₅_0) (And.intro (q₅_3) (And.intro (q₅_4) (And.intro (rfl) (And.intro (rfl) (hO₁₂.pick [0, 1] rfl (by decide))))))))))))
          · refine W_cF (t := (!met1)) rfl b₅ ?_
            refine W_sk ?_
            refine blk_n ?_
            refine then_n ?_
            refine W_rg ?_
            refine WO_v (a_mv (v := .i .i64 k_) q₅_6) ?_
            obtain ⟨c₇, hp⟩ := ck_some hp
            refine WO_v (a_add (a := k_) (b := 1) rfl rfl c₇) ?_
            refine WO_v (a_mv (v := .i .i64 (k_ + 1)) rfl) ?_
            refine WO_end ?_
            have hp := Option.some.inj hp; subst hp
            exact (Or.inl (Exists.intro (less, k_ + 1) (And.intro rfl (And.intro rfl (Exists.intro v₄ (And.intro (q₅_0) (And.intro (q₅_3) (And.intro (q₅_4) (And.intro (q₅_5) (And.intro (rfl) (hO₈.pick [0, 1] rfl (by decide))))))))))))
        · refine W_cF (t := (decide (k_ < (x.length : Int)))) rfl b₂ ?_
          refine W_ex ?_
          refine then_e ?_
          have hp := Option.some.inj hp; subst hp
          refine (Or.inr (Exists.intro less (And.intro rfl (And.intro (fun h => nomatch h) (fun he => ?_)))))
          subst he; exact (And.intro rfl (Exists.intro v₄ (And.intro (q₄_0) (And.intro (q₄_3) (And.intro (q₄_4) (And.intro (q₄_5) (hO₆.pick [0, 1] rfl (by decide))))))))
      intro e₂ q₃ k₃ hJ₂
      obtain ⟨less1, rfl⟩ : ∃ x, x = o₃ := ⟨_, rfl⟩
      obtain ⟨rfl, v₅, q₃_0, q₃_3, q₃_4, q₃_5, hO₄⟩ := hJ₂
      refine blk_i ?_
      refine then_n ?_
      refine W_rg ?_
      refine WO_v (a_mv (v := v₂) q₃_3) ?_
      refine WO_v (a_mv (v := v₅) q₃_5) ?_
      refine WO_v (a_len (hO₄.sl 1 rfl : Sl eInt k₃ v₅ less1) rfl) ?_
      refine WO_x (hO₄.bsl (E := eInt) (l := [(less1.length : Int)]) hO₄.fr (by rw [(ev_cons (v := .i .i64 (less1.length : Int)) rfl ev_nil)]; rfl) rfl) ?_
      rintro v₈ k₁₁ ⟨r₂, f₃, hW⟩
      have hO₁₃ : Own B h k₁₁ [eSl eInt v₂ out, eSl eInt v₅ less1, eSl eInt v₈ [(less1.length : Int)]] := hW
      obtain ⟨c₈, hp⟩ := ck_some hp
      refine WO_x (hO₁₃.app (E := eInt) (bytes := 8) 0 hO₁₃.fr rfl (hO₁₃.sl 2 rfl : Sl eInt k₁₁ v₈ [(less1.length : Int)]) rfl rfl (fun _ => rfl) c₈ (by decide)) ?_
      rintro v₉ k₁₂ ⟨f₄, hW⟩
      have hO₁₄ : Own B h k₁₂ [eSl eInt v₉ (out ++ [(less1.length : Int)]), eSl eInt v₅ less1, eSl eInt v₈ [(less1.length : Int)]] := hW
      refine WO_v (a_mv (v := v₉) rfl) ?_
      refine WO_end ?_
      refine blk_n ?_
      refine then_n ?_
      refine W_rg ?_
      refine WO_v (a_mv (v := .i .i64 i) q₃_4) ?_
      obtain ⟨c₉, hp⟩ := ck_some hp
      refine WO_v (a_add (a := i) (b := 1) rfl rfl c₉) ?_
      refine WO_v (a_mv (v := .i .i64 (i + 1)) rfl) ?_
      refine WO_end ?_
      have hp := Option.some.inj hp; subst hp
      exact (Or.inl (Exists.intro (out ++ [(less1.length : Int)], i + 1) (And.intro rfl (And.intro rfl (Exists.intro v₉ (And.intro (q₃_0) (And.intro (rfl) (And.intro (rfl) (hO₁₄.pick [0] rfl (by decide))))))))))
    · refine W_cF (t := (decide (i < (x.length : Int)))) rfl b₁ ?_
      refine W_ex ?_
      refine then_e ?_
      have hp := Option.some.inj hp; subst hp
      refine (Or.inr (Exists.intro out (And.intro rfl (And.intro (fun h => nomatch h) (fun he => ?_)))))
      subst he; exact (And.intro rfl (Exists.intro v₂ (And.intro (q₂_3) (hO₃.pick [0] rfl (by decide)))))
  intro e₁ q₁ k₁ hJ₁
  obtain ⟨out1, rfl⟩ : ∃ x, x = o₁ := ⟨_, rfl⟩
  obtain ⟨rfl, v₃, q₁_3, hO₁⟩ := hJ₁
  refine blk_i ?_
  refine then_n ?_
  refine W_sq ?_
  refine W_rg ?_
  refine WO_v (a_mv (v := v₃) q₁_3) ?_
  refine WO_v (a_mv (v := v₃) rfl) ?_
  refine WO_end ?_
  refine then_n ?_
  refine W_rt ?_
  refine Ret_r (rs_t (n := 2) (v := v₃) rfl rs_nil) ?_
  have hp := Option.some.inj hp; subst hp
  exact (Exists.intro v₃ (And.intro rfl (hO₁.pick [0] rfl (by decide))))

theorem p_muntinlaw04_LayerTight.ok {h : Hp} {z : T_muntinref03_Raw} {v_z_Arcs : V} (s_z_Arcs : Sl e_A3_u8 h v_z_Arcs z.Arcs) {r : Bool} (hp : p_muntinlaw04_LayerTight z = some r) :
    ∃ u k', Is G 10 [.ag [.i .u8 z.N, v_z_Arcs]] h u k' ∧ V.b r = u ∧ Own (fun r => r < h.n) h k' [] := by
  refine WC.is (WC_of G_F_muntinlaw04_LayerTight ?_)
  unfold p_muntinlaw04_LayerTight at hp
  let B : Nat → Prop := (fun r => r < h.n)
  have hO : Own B h h [] := Own.start0 h
  refine W_sq ?_
  refine W_rg ?_
  refine WO_x (hO.boxd (v := .ag [.i .u8 z.N, v_z_Arcs]) (cs := [.i .u8 z.N, v_z_Arcs]) hO.fr rfl rfl) ?_
  rintro _ k₁ ⟨r₁, rfl, n₁, f₁, hW⟩
  have hO₁ : Own B h k₁ [eBox r₁ [.i .u8 z.N, v_z_Arcs]] := hW
  refine WO_v (a_mv (v := .b false) rfl) ?_
  refine WO_end ?_
  refine then_n ?_
  refine W_sq ?_
  refine W_rg ?_
  refine WO_v (a_ldbA (cs := [.i .u8 z.N, v_z_Arcs]) (ws := [.i .u8 z.N, v_z_Arcs]) (hO₁.box 0 rfl) rfl rfl) ?_
  obtain ⟨⟨x, x1⟩, hx₁, hp⟩ := bd_some hp
  obtain ⟨u₁, k₂, ca₁, v₁, rfl, hW₁⟩ := p_muntinref03_Make.ok (h := k₁)  (hO₁.rd0 s_z_Arcs.rd : Sl e_A3_u8 k₁ v_z_Arcs z.Arcs) hx₁
  refine WO_c (id := 37) (caps := []) rfl (mp_cons (v := .ag [.i .u8 z.N, v_z_Arcs]) rfl (mp_cons (v := .i .i64 40) rfl mp_nil)) ca₁ ?_
  have hO₂ : Own B h k₂ [eBox r₁ [.i .u8 z.N, v_z_Arcs], eSl e_T_api_Arc v₁ x1] := hO₁.call hW₁ rfl
  refine WO_v (a_mv (v := .tu [.i .i64 x, v₁]) rfl) ?_
  refine WO_v (a_ext (vs := [.i .i64 x, v₁]) (v := .i .i64 x) rfl rfl) ?_
  refine WO_v (a_ext (vs := [.i .i64 x, v₁]) (v := v₁) rfl rfl) ?_
  refine WO_v (a_mv (v := .i .i64 x) rfl) ?_
  refine WO_v (a_mv (v := v₁) rfl) ?_
  refine WO_end ?_
  refine then_n ?_
  refine W_sq ?_
  refine W_rg ?_
  refine WO_v (a_mv (v := .i .i64 x) rfl) ?_
  refine WO_v (a_mv (v := v₁) rfl) ?_
  obtain ⟨⟨x2, x3⟩, hx₂, hp⟩ := bd_some hp
  obtain ⟨u₂, k₃, ca₂, v₂, rfl, hW₂⟩ := p_layer_Layers.ok (h := k₂)  (hO₂.sl 1 rfl : Sl e_T_api_Arc k₂ v₁ x1) hx₂
  refine WO_c (id := 38) (caps := []) rfl (mp_cons (v := .i .i64 x) rfl (mp_cons (v := v₁) rfl mp_nil)) ca₂ ?_
  have hO₃ : Own B h k₃ [eBox r₁ [.i .u8 z.N, v_z_Arcs], eSl e_T_api_Arc v₁ x1, eSl eInt v₂ x2] := hO₂.call hW₂ rfl
  refine WO_v (a_mv (v := .tu [v₂, .i .i64 x3]) rfl) ?_
  refine WO_v (a_ext (vs := [v₂, .i .i64 x3]) (v := v₂) rfl rfl) ?_
  refine WO_v (a_ext (vs := [v₂, .i .i64 x3]) (v := .i .i64 x3) rfl rfl) ?_
  refine WO_x (hO₃.alloc (cs := [.sn]) hO₃.fr) ?_
  rintro _ k₄ ⟨r₂, rfl, n₂, f₂, hW⟩
  have hO₄ : Own B h k₄ [eBox r₁ [.i .u8 z.N, v_z_Arcs], eSl e_T_api_Arc v₁ x1, eSl eInt v₂ x2, eBox r₂ [.sn]] := hW
  refine WO_x (hO₄.stb (ws := [v₂]) (cs' := [v₂]) (v := v₂) 3 rfl rfl rfl (hO₄.sl 2 rfl : Sl eInt k₄ v₂ x2).cells ⟨rfl, Nat.le_of_ble_eq_true rfl, (all_cons (hO₄.sl 2 rfl : Sl eInt k₄ v₂ x2).oneV rfl)⟩ rfl) ?_
  rintro _ k₅ ⟨rfl, f₃, m₁, hW⟩
  have hO₅ : Own B h k₅ [eBox r₁ [.i .u8 z.N, v_z_Arcs], eSl e_T_api_Arc v₁ x1, eSl eInt v₂ x2, eBox r₂ [v₂]] := hW
  refine WO_v (a_mv (v := .i .i64 x3) rfl) ?_
  refine WO_end ?_
  refine then_n ?_
  refine W_sq ?_
  refine W_sq ?_
  refine W_rg ?_
  obtain ⟨x4, hx₃, hp⟩ := bd_some hp
  obtain ⟨u₃, k₆, ca₃, rfl, hW₃⟩ := p_muntinlaw04_wakes.ok (h := k₅)   hx₃
  refine WO_c (id := 39) (caps := []) rfl mp_nil ca₃ ?_
  have hO₆ : Own B h k₆ [eBox r₁ [.i .u8 z.N, v_z_Arcs], eSl e_T_api_Arc v₁ x1, eSl eInt v₂ x2, eBox r₂ [v₂]] := hO₅.call hW₃ rfl
  refine WO_v (a_not (t := x4) rfl) ?_
  refine WO_v (a_mv (v := .b (!x4)) rfl) ?_
  refine WO_cut 3 (fun fr' k' => k₆ = k' ∧ fr' 25 = .b ((!x4) || (!(decide (x3 = 0)))) ∧ fr' 3 = .i .i64 x ∧ fr' 4 = v₁ ∧ fr' 5 = .p r₂ 0) ?_ ?_
  · rcases bc (!x4) with b₁ | b₁
    · skip
      refine WO_off rfl b₁ ?_
      refine WO_off rfl b₁ ?_
      refine WO_v (a_pickT (t := (!x4)) (v := .b ((!x4) || (!(decide (x3 = 0))))) rfl b₁ (Eq.trans (b := V.b true) rfl (or_off b₁))) ?_
      refine WO_end ?_
      exact ⟨rfl, rfl, rfl, rfl, rfl⟩
    · skip
      refine WO_on rfl b₁ ?_
      refine WO_v (a_mv (v := .i .i64 x3) rfl) ?_
      refine WO_on rfl b₁ ?_
      refine WO_v (a_neI (a := x3) (b := 0) rfl rfl) ?_
      refine WO_v (a_pickF (t := (!x4)) (v := .b ((!x4) || (!(decide (x3 = 0))))) rfl b₁ (Eq.trans (b := V.b (!(decide (x3 = 0)))) rfl (or_on b₁))) ?_
      refine WO_end ?_
      exact ⟨rfl, rfl, rfl, rfl, rfl⟩
  rintro frg₁ _ ⟨rfl, g₁_25, g₁_3, g₁_4, g₁_5⟩
  refine WO_v (a_mv (v := .b ((!x4) || (!(decide (x3 = 0))))) g₁_25) ?_
  refine WO_cut 5 (fun fr' k' => k₆ = k' ∧ fr' 31 = .b (((!x4) || (!(decide (x3 = 0)))) || (!(decide ((x2.length : Int) = x)))) ∧ fr' 3 = .i .i64 x ∧ fr' 4 = v₁ ∧ fr' 5 = .p r₂ 0) ?_ ?_
  · rcases bc ((!x4) || (!(decide (x3 = 0)))) with b₂ | b₂
    · skip
      refine WO_off rfl b₂ ?_
      refine WO_off rfl b₂ ?_
      refine WO_off rfl b₂ ?_
      refine WO_off rfl b₂ ?_
      refine WO_v (a_pickT (t := ((!x4) || (!(decide (x3 = 0))))) (v := .b (((!x4) || (!(decide (x3 = 0)))) || (!(decide ((x2.length : Int) = x))))) rfl b₂ (Eq.trans (b := V.b true) rfl (or_off b₂))) ?_
      refine WO_end ?_
      exact ⟨rfl, rfl, g₁_3, g₁_4, g₁_5⟩
    · skip
      refine WO_on rfl b₂ ?_
      refine WO_v (a_ldb (cs := [v₂]) (v := v₂) (hO₆.box 3 rfl) g₁_5 rfl) ?_
      refine WO_on rfl b₂ ?_
      refine WO_v (a_len (hO₆.sl 2 rfl : Sl eInt k₆ v₂ x2) rfl) ?_
      refine WO_on rfl b₂ ?_
      refine WO_v (a_mv (v := .i .i64 x) g₁_3) ?_
      refine WO_on rfl b₂ ?_
      refine WO_v (a_neI (a := (x2.length : Int)) (b := x) rfl rfl) ?_
      refine WO_v (a_pickF (t := ((!x4) || (!(decide (x3 = 0))))) (v := .b (((!x4) || (!(decide (x3 = 0)))) || (!(decide ((x2.length : Int) = x))))) rfl b₂ (Eq.trans (b := V.b (!(decide ((x2.length : Int) = x)))) rfl (or_on b₂))) ?_
      refine WO_end ?_
      exact ⟨rfl, rfl, g₁_3, g₁_4, g₁_5⟩
  rintro frg₂ _ ⟨rfl, g₂_31, g₂_3, g₂_4, g₂_5⟩
  refine WO_end ?_
  refine then_n ?_
  rcases if_some hp with ⟨b₃, hp⟩ | ⟨b₃, hp⟩
  · refine W_cT (t := (((!x4) || (!(decide (x3 = 0)))) || (!(decide ((x2.length : Int) = x))))) g₂_31 b₃ ?_
    refine W_sq ?_
    refine W_rg ?_
    refine WO_v (a_mv (v := .b false) rfl) ?_
    refine WO_end ?_
    refine then_n ?_
    refine W_rt ?_
    refine then_r ?_
    refine Ret_r (rs_t (n := 2) (v := .b false) rfl rs_nil) ?_
    have hp := Option.some.inj hp; subst hp
    exact (And.intro rfl (hO₆.pick [] rfl (by decide)))
  · refine W_cF (t := (((!x4) || (!(decide (x3 = 0)))) || (!(decide ((x2.length : Int) = x))))) g₂_31 b₃ ?_
    refine W_sk ?_
    refine then_n ?_
    refine W_sq ?_
    refine W_sq ?_
    refine W_rg ?_
    refine WO_v (a_mv (v := .i .i64 x) g₂_3) ?_
    refine WO_v (a_mv (v := .i .i64 0) rfl) ?_
    refine WO_end ?_
    refine then_n ?_
    refine W_bl ?_
    obtain ⟨o₁, ho₁, hp⟩ := bd_some hp
    refine W.mono (Q := fun e fr k => match (generalizing := false) o₁ with
        | .inl _ => e = (.exit 0) ∧ fr 5 = .p r₂ 0 ∧ Own B h k [eBox r₂ [v₂], eSl eInt v₂ x2]
        | .inr _ => e = .ret ∧ fr 2 = .b false ∧ Own B h k []) ?_ ?_
    · clear hp
      refine W_loopF (fun st fr k => match st with | x5 => fr 4 = v₁ ∧ fr 5 = .p r₂ 0 ∧ fr 32 = .i .i64 x ∧ fr 33 = .i .i64 x5 ∧ Own B h k [eSl e_T_api_Arc v₁ x1, eBox r₂ [v₂], eSl eInt v₂ x2]) ho₁ (s := 0) (And.intro (g₂_4) (And.intro (g₂_5) (And.intro (rfl) (And.intro (rfl) (hO₆.pick [1, 3, 2] rfl (by decide)))))) ?_
      rintro x5 q₂ k₈ ⟨q₂_4, q₂_5, q₂_32, q₂_33, hO₈⟩ o₂ hp
      dsimp only [p_muntinlaw04_LayerTight.s0] at hp
      refine W_sq ?_
      refine W_rg ?_
      refine WO_v (a_lss (a := x5) (b := x) q₂_33 q₂_32) ?_
      refine WO_end ?_
      refine then_n ?_
      refine W_sq ?_
      rcases if_some hp with ⟨b₄, hp⟩ | ⟨b₄, hp⟩
      · refine W_cT (t := (decide (x5 < x))) rfl b₄ ?_
        refine W_sk ?_
        refine then_n ?_
        refine W_sq ?_
        refine W_bl ?_
        refine W_sq ?_
        refine W_rg ?_
        refine WO_v (a_mv (v := .i .i64 x5) q₂_33) ?_
        refine WO_x (hO₈.alloc (cs := [.i .i64 (0 : Int)]) hO₈.fr) ?_
        rintro _ k₉ ⟨r₃, rfl, n₃, f₄, hW⟩
        have hO₉ : Own B h k₉ [eSl e_T_api_Arc v₁ x1, eBox r₂ [v₂], eSl eInt v₂ x2, eBox r₃ [.i .i64 (0 : Int)]] := hW
        refine WO_x (hO₉.stb (ws := [.i .i64 x5]) (cs' := [.i .i64 x5]) (v := .i .i64 x5) 3 rfl rfl rfl rfl ⟨rfl, Nat.le_of_ble_eq_true rfl, rfl⟩ rfl) ?_
        rintro _ k₁₀ ⟨rfl, f₅, m₂, hW⟩
        have hO₁₀ : Own B h k₁₀ [eSl e_T_api_Arc v₁ x1, eBox r₂ [v₂], eSl eInt v₂ x2, eBox r₃ [.i .i64 x5]] := hW
        refine WO_end ?_
        refine then_n ?_
        refine W_sq ?_
        refine W_rg ?_
        refine WO_v (a_mv (v := v₁) q₂_4) ?_
        refine WO_v (a_clo (vs := [.p r₃ 0, .p r₂ 0]) (mq_cons (v := .p r₃ 0) rfl (mq_cons (v := .p r₂ 0) q₂_5 mq_nil))) ?_
        obtain ⟨x6, hx₄, hp⟩ := bd_some hp
        obtain ⟨u₄, k₁₁, ca₄, rfl, hW₄⟩ := p_slices_ContainsFunc_api_Arc.ok (h := k₁₀)  (hO₁₀.sl 0 rfl : Sl e_T_api_Arc k₁₀ v₁ x1) (fun k z0 y hk hx => p_muntinlaw04_LayerTight_1.ok (h := k) ((hk.2 _ (Hp.lt (hO₁₀.box 3 rfl))).trans (hO₁₀.box 3 rfl)) ((hk.2 _ (Hp.lt (hO₁₀.box 1 rfl))).trans (hO₁₀.box 1 rfl)) (((hO₁₀.sl 2 rfl : Sl eInt k₁₀ v₂ x2)).ext ⟨hk.1, hk.2⟩) hx) hx₄
        refine WO_c (id := 42) (caps := []) rfl (mp_cons (v := v₁) rfl (mp_cons (v := .f 43 [.p r₃ 0, .p r₂ 0]) rfl mp_nil)) ca₄ ?_
        have hO₁₁ : Own B h k₁₁ [eSl e_T_api_Arc v₁ x1, eBox r₂ [v₂], eSl eInt v₂ x2, eBox r₃ [.i .i64 x5]] := hO₁₀.call hW₄ rfl
        refine WO_v (a_mv (v := .b x6) rfl) ?_
        refine WO_end ?_
        refine then_n ?_
        refine W_sq ?_
        refine W_rg ?_
        refine WO_v (a_mv (v := .b x6) rfl) ?_
        refine WO_v (a_ldb (cs := [v₂]) (v := v₂) (hO₁₁.box 1 rfl) q₂_5 rfl) ?_
        refine WO_v (a_ldb (cs := [.i .i64 x5]) (v := .i .i64 x5) (hO₁₁.box 3 rfl) rfl rfl) ?_
        obtain ⟨c₁, hp⟩ := ck_some hp
        refine WO_v (a_ixa (E := eInt) (z := x5) (hO₁₁.sl 2 rfl : Sl eInt k₁₁ v₂ x2) rfl rfl c₁) ?_
        refine WO_v (a_ldE (w := .i .i64 (gi x2 (x5 : Int).toNat)) (hO₁₁.sl 2 rfl : Sl eInt k₁₁ v₂ x2) rfl (toNat_lt c₁) rfl) ?_
        refine WO_v (a_gtr (a := (gi x2 (x5 : Int).toNat)) (b := 0) rfl rfl) ?_
        refine WO_v (a_neB (a := x6) (b := (decide (0 < (gi x2 (x5 : Int).toNat)))) rfl rfl) ?_
        refine WO_end ?_
        refine then_n ?_
        rcases if_some hp with ⟨b₅, hp⟩ | ⟨b₅, hp⟩
        · refine W_cT (t := (!(decide (x6 = (decide (0 < (gi x2 (x5 : Int).toNat))))))) rfl b₅ ?_
          refine W_sq ?_
          refine W_rg ?_
          refine WO_v (a_mv (v := .b false) rfl) ?_
          refine WO_end ?_
          refine then_n ?_
          refine W_rt ?_
          refine blk_r ?_
          refine then_r ?_
          have hp := Option.some.inj hp; subst hp
          refine (Or.inr (Exists.intro (.inr ()) (And.intro rfl (And.intro (fun h => nomatch h) (fun he => ?_)))))
          subst he; exact (And.intro rfl (And.intro (rfl) (hO₁₁.pick [] rfl (by decide))))
        · refine W_cF (t := (!(decide (x6 = (decide (0 < (gi x2 (x5 : Int).toNat))))))) rfl b₅ ?_
          refine W_sk ?_
          refine blk_n ?_
          refine then_n ?_
          refine W_rg ?_
          obtain ⟨c₂, hp⟩ := ck_some hp
          refine WO_v (a_add (a := x5) (b := 1) q₂_33 rfl c₂) ?_
          refine WO_v (a_mv (v := .i .i64 (x5 + 1)) rfl) ?_
          refine WO_end ?_
          have hp := Option.some.inj hp; subst hp
          exact (Or.inl (Exists.intro (x5 + 1) (And.intro rfl (And.intro rfl (And.intro (q₂_4) (And.intro (q₂_5) (And.intro (q₂_32) (And.intro (rfl) (hO₁₁.pick [0, 1, 2] rfl (by decide))))))))))
      · refine W_cF (t := (decide (x5 < x))) rfl b₄ ?_
        refine W_ex ?_
        refine then_e ?_
        have hp := Option.some.inj hp; subst hp
        refine (Or.inr (Exists.intro (.inl ()) (And.intro rfl (And.intro (fun h => nomatch h) (fun he => ?_)))))
        subst he; exact (And.intro rfl (And.intro (q₂_5) (hO₈.pick [1, 2] rfl (by decide))))
    intro e₁ q₁ k₇ hJ₁
    rcases o₁ with _ | _
    · obtain ⟨rfl, q₁_5, hO₇⟩ := hJ₁
      refine blk_i ?_
      refine then_n ?_
      refine W_sq ?_
      refine W_dr ?_
      have hW := hO₇.bump 5
      have fr₁ := Fresh.start k₇ 5
      have nb₁ : ∀ {i : Nat}, h.n ≤ k₇.n + i := Nat.le_trans hO₇.n (Nat.le_add_right _ _)
      have hO₁₂ : Own B h (k₇.bump 5) [eBox r₂ [v₂], eSl eInt v₂ x2] := hW
      refine WD_v (a_ldb (cs := [v₂]) (v := v₂) (hO₁₂.box 0 rfl) q₁_5 rfl) ?_
      obtain ⟨x7, hx₅, hp⟩ := bd_some hp
      obtain ⟨u₅, k₁₃, ca₅, v₃, rfl, hW₅⟩ := p_muntinref03_Ranks.ok (h := (k₇.bump 5))  (hO₁₂.sl 1 rfl : Sl eInt (k₇.bump 5) v₂ x2) hx₅
      refine WD_c (id := 44) (caps := []) rfl (mp_cons (v := v₂) rfl mp_nil) ca₅ ?_
      have fr₂ := fr₁.call hW₅
      have hO₁₃ : Own B h k₁₃ [eBox r₂ [v₂], eSl eInt v₂ x2, eSl eInt v₃ x7] := hO₁₂.call hW₅ rfl
      refine WD_v (a_ldb (cs := [v₂]) (v := v₂) (hO₁₃.box 0 rfl) q₁_5 rfl) ?_
      obtain ⟨x8, hx₆, hp⟩ := bd_some hp
      obtain ⟨u₆, k₁₄, ca₆, rfl, hW₆⟩ := p_slices_Equal_int.ok (h := k₁₃)  (hO₁₃.sl 2 rfl : Sl eInt k₁₃ v₃ x7) (hO₁₃.sl 1 rfl : Sl eInt k₁₃ v₂ x2) hx₆
      refine WD_c (id := 33) (caps := []) rfl (mp_cons (v := v₃) rfl (mp_cons (v := v₂) rfl mp_nil)) ca₆ ?_
      have fr₃ := fr₂.call hW₆
      have hO₁₄ : Own B h k₁₄ [eBox r₂ [v₂], eSl eInt v₂ x2, eSl eInt v₃ x7] := hO₁₃.call hW₆ rfl
      refine WD_v (a_mv (v := .b x8) rfl) ?_
      refine WD_end ?_
      refine And.intro ?_ ?_
      · intro q hq
        simp only [List.mem_cons, List.not_mem_nil, or_false] at hq
        rcases hq with rfl | rfl
        · refine ap_ll ?_ ?_
          · exact (fun h => nomatch h)
          · exact (fun h => nomatch h)
        · refine ap_cl rfl ?_
          · exact (fun r hm hc => hc (hW₅.base r (Nat.lt_of_lt_of_le (hO₇.ltAt 0 rfl _ (tch (v := V.p r₂ 0) (ld_el hm) q₁_5)) (Nat.le_trans (Nat.le_add_right _ _) fr₁.n))))
      refine then_n ?_
      refine W_rt ?_
      refine Ret_r (rs_t (n := 2) (v := .b x8) rfl rs_nil) ?_
      have hp := Option.some.inj hp; subst hp
      exact (And.intro rfl (hO₁₄.pick [] rfl (by decide)))
    · obtain ⟨rfl, q₁_2, hO₇⟩ := hJ₁
      refine blk_r ?_
      refine then_r ?_
      refine Ret_r (rs_t (n := 2) (v := .b false) q₁_2 rs_nil) ?_
      have hp := Option.some.inj hp; subst hp
      exact (And.intro rfl (hO₇.pick [] rfl (by decide)))

end Mu
