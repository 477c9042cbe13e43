/- The code comes to what was worked out. -/
import Derived.Test.YteedifiifkghkaaMuDf
import Derived.Test.YteedifiifkghkaaMuPa
import Derived.Test.YteedifiifkghkaaMuC0
set_option linter.unusedVariables false
set_option linter.unnecessarySimpa false
set_option linter.unusedSimpArgs false
set_option maxHeartbeats 2000000
set_option maxRecDepth 10000
namespace Mu
open Go (IntKind BinOp UnOp)
theorem p_muntinlaw04_wakes.ok {h : Hp}    {r : Bool} (hp : p_muntinlaw04_wakes  = some r) :
    ∃ u k', Is G 39 [] h u k' ∧ V.b r = u ∧ Own (fun r => r < h.n) h k' [] := by
  refine WC.is (WC_of G_F_muntinlaw04_wakes ?_)
  unfold p_muntinlaw04_wakes at hp
  let B : Nat → Prop := (fun r => r < h.n)
  have hO : Own B h h [] := Own.start0 h
  refine W_sq ?_
  refine W_rg ?_
  refine WO_v (a_mv (v := .b false) rfl) ?_
  refine WO_end ?_
  refine then_n ?_
  refine W_sq ?_
  refine W_rg ?_
  refine WO_v (a_build (cs := e_T_api_Arc.c (⟨0, 1, (0 : Int)⟩ : T_api_Arc)) (by rw [(ev_cons (v := .i .i64 0) rfl (ev_cons (v := .i .i64 1) rfl ev_nil))]; rfl)) ?_
  refine WO_v (a_build (cs := e_T_api_Arc.c (⟨1, 2, (0 : Int)⟩ : T_api_Arc)) (by rw [(ev_cons (v := .i .i64 1) rfl (ev_cons (v := .i .i64 2) rfl ev_nil))]; rfl)) ?_
  refine WO_v (a_build (cs := e_T_api_Arc.c (⟨0, 2, (0 : Int)⟩ : T_api_Arc)) (by rw [(ev_cons (v := .i .i64 0) rfl (ev_cons (v := .i .i64 2) rfl ev_nil))]; rfl)) ?_
  refine WO_x (hO.bsl (E := e_T_api_Arc) (l := [(⟨0, 1, (0 : Int)⟩ : T_api_Arc), (⟨1, 2, (0 : Int)⟩ : T_api_Arc), (⟨0, 2, (0 : Int)⟩ : T_api_Arc)]) hO.fr (by rw [(ev_cons (v := .ag (e_T_api_Arc.c (⟨0, 1, (0 : Int)⟩ : T_api_Arc))) rfl (ev_cons (v := .ag (e_T_api_Arc.c (⟨1, 2, (0 : Int)⟩ : T_api_Arc))) rfl (ev_cons (v := .ag (e_T_api_Arc.c (⟨0, 2, (0 : Int)⟩ : T_api_Arc))) rfl ev_nil)))]; rfl) rfl) ?_
  rintro v₁ k₁ ⟨r₁, f₁, hW⟩
  have hO₁ : Own B h k₁ [eSl e_T_api_Arc v₁ [(⟨0, 1, (0 : Int)⟩ : T_api_Arc), (⟨1, 2, (0 : Int)⟩ : T_api_Arc), (⟨0, 2, (0 : Int)⟩ : T_api_Arc)]] := hW
  obtain ⟨⟨x, x1⟩, hx₁, hp⟩ := bd_some hp
  obtain ⟨u₁, k₂, ca₁, v₂, rfl, hW₁⟩ := p_layer_Layers.ok (h := k₁)  (hO₁.sl 0 rfl : Sl e_T_api_Arc k₁ v₁ [(⟨0, 1, (0 : Int)⟩ : T_api_Arc), (⟨1, 2, (0 : Int)⟩ : T_api_Arc), (⟨0, 2, (0 : Int)⟩ : T_api_Arc)]) hx₁
  refine WO_c (id := 38) (caps := []) rfl (mp_cons (v := .i .i64 3) rfl (mp_cons (v := v₁) rfl mp_nil)) ca₁ ?_
  have hO₂ : Own B h k₂ [eSl e_T_api_Arc v₁ [(⟨0, 1, (0 : Int)⟩ : T_api_Arc), (⟨1, 2, (0 : Int)⟩ : T_api_Arc), (⟨0, 2, (0 : Int)⟩ : T_api_Arc)], eSl eInt v₂ x] := hO₁.call hW₁ rfl
  refine WO_v (a_mv (v := .tu [v₂, .i .i64 x1]) rfl) ?_
  refine WO_v (a_ext (vs := [v₂, .i .i64 x1]) (v := v₂) rfl rfl) ?_
  refine WO_v (a_ext (vs := [v₂, .i .i64 x1]) (v := .i .i64 x1) rfl rfl) ?_
  refine WO_v (a_mv (v := v₂) rfl) ?_
  refine WO_v (a_mv (v := .i .i64 x1) rfl) ?_
  refine WO_end ?_
  refine then_n ?_
  refine W_sq ?_
  refine W_rg ?_
  refine WO_v (a_build (cs := e_T_api_Arc.c (⟨(0 : Int), (0 : Int), (0 : Int)⟩ : T_api_Arc)) (by rw [ev_nil]; rfl)) ?_
  refine WO_x (hO₂.bsl (E := e_T_api_Arc) (l := [(⟨(0 : Int), (0 : Int), (0 : Int)⟩ : T_api_Arc)]) hO₂.fr (by rw [(ev_cons (v := .ag (e_T_api_Arc.c (⟨(0 : Int), (0 : Int), (0 : Int)⟩ : T_api_Arc))) rfl ev_nil)]; rfl) rfl) ?_
  rintro v₃ k₃ ⟨r₂, f₂, hW⟩
  have hO₃ : Own B h k₃ [eSl e_T_api_Arc v₁ [(⟨0, 1, (0 : Int)⟩ : T_api_Arc), (⟨1, 2, (0 : Int)⟩ : T_api_Arc), (⟨0, 2, (0 : Int)⟩ : T_api_Arc)], eSl eInt v₂ x, eSl e_T_api_Arc v₃ [(⟨(0 : Int), (0 : Int), (0 : Int)⟩ : T_api_Arc)]] := hW
  obtain ⟨⟨x2, x3⟩, hx₂, hp⟩ := bd_some hp
  obtain ⟨u₂, k₄, ca₂, v₄, rfl, hW₂⟩ := p_layer_Layers.ok (h := k₃)  (hO₃.sl 2 rfl : Sl e_T_api_Arc k₃ v₃ [(⟨(0 : Int), (0 : Int), (0 : Int)⟩ : T_api_Arc)]) hx₂
  refine WO_c (id := 38) (caps := []) rfl (mp_cons (v := .i .i64 1) rfl (mp_cons (v := v₃) rfl mp_nil)) ca₂ ?_
  have hO₄ : Own B h k₄ [eSl e_T_api_Arc v₁ [(⟨0, 1, (0 : Int)⟩ : T_api_Arc), (⟨1, 2, (0 : Int)⟩ : T_api_Arc), (⟨0, 2, (0 : Int)⟩ : T_api_Arc)], eSl eInt v₂ x, eSl e_T_api_Arc v₃ [(⟨(0 : Int), (0 : Int), (0 : Int)⟩ : T_api_Arc)], eSl eInt v₄ x2] := hO₃.call hW₂ rfl
  refine WO_v (a_mv (v := .tu [v₄, .i .i64 x3]) rfl) ?_
  refine WO_v (a_ext (vs := [v₄, .i .i64 x3]) (v := v₄) rfl rfl) ?_
  refine WO_v (a_ext (vs := [v₄, .i .i64 x3]) (v := .i .i64 x3) rfl rfl) ?_
  refine WO_v (a_mv (v := v₄) rfl) ?_
  refine WO_v (a_mv (v := .i .i64 x3) rfl) ?_
  refine WO_end ?_
  refine then_n ?_
  refine W_sq ?_
  refine W_rg ?_
  refine WO_v (a_mv (v := .i .i64 x1) rfl) ?_
  refine WO_v (a_eqI (a := x1) (b := 0) rfl rfl) ?_
  refine WO_v (a_mv (v := .b (decide (x1 = 0))) rfl) ?_
  obtain ⟨t, hv₁, hp⟩ := bd_some hp
  refine WO_cut 4 (fun fr' k' => Own B h k' [eSl e_T_api_Arc v₁ [(⟨0, 1, (0 : Int)⟩ : T_api_Arc), (⟨1, 2, (0 : Int)⟩ : T_api_Arc), (⟨0, 2, (0 : Int)⟩ : T_api_Arc)], eSl eInt v₂ x, eSl e_T_api_Arc v₃ [(⟨(0 : Int), (0 : Int), (0 : Int)⟩ : T_api_Arc)], eSl eInt v₄ x2] ∧ fr' 25 = .b t ∧ fr' 1 = v₂ ∧ fr' 4 = .i .i64 x3) ?_ ?_
  · clear hp; rcases if_some hv₁ with ⟨b₁, hp⟩ | ⟨b₁, hp⟩
    · skip
      refine WO_on rfl b₁ ?_
      refine WO_v (a_mv (v := v₂) rfl) ?_
      refine WO_on rfl b₁ ?_
      refine WO_x (hO₄.bsl (E := eInt) (l := [0, 1, 2]) hO₄.fr (by rw [(ev_cons (v := .i .i64 0) rfl (ev_cons (v := .i .i64 1) rfl (ev_cons (v := .i .i64 2) rfl ev_nil)))]; rfl) rfl) ?_
      rintro v₅ k₅ ⟨r₃, f₃, hW⟩
      have hO₅ : Own B h k₅ [eSl e_T_api_Arc v₁ [(⟨0, 1, (0 : Int)⟩ : T_api_Arc), (⟨1, 2, (0 : Int)⟩ : T_api_Arc), (⟨0, 2, (0 : Int)⟩ : T_api_Arc)], eSl eInt v₂ x, eSl e_T_api_Arc v₃ [(⟨(0 : Int), (0 : Int), (0 : Int)⟩ : T_api_Arc)], eSl eInt v₄ x2, eSl eInt v₅ [0, 1, 2]] := hW
      refine WO_on rfl b₁ ?_
      obtain ⟨x4, hx₃, hp⟩ := bd_some hp
      obtain ⟨u₃, k₆, ca₃, rfl, hW₃⟩ := p_slices_Equal_int.ok (h := k₅)  (hO₅.sl 1 rfl : Sl eInt k₅ v₂ x) (hO₅.sl 4 rfl : Sl eInt k₅ v₅ [0, 1, 2]) hx₃
      refine WO_c (id := 33) (caps := []) rfl (mp_cons (v := v₂) rfl (mp_cons (v := v₅) rfl mp_nil)) ca₃ ?_
      have hO₆ : Own B h k₆ [eSl e_T_api_Arc v₁ [(⟨0, 1, (0 : Int)⟩ : T_api_Arc), (⟨1, 2, (0 : Int)⟩ : T_api_Arc), (⟨0, 2, (0 : Int)⟩ : T_api_Arc)], eSl eInt v₂ x, eSl e_T_api_Arc v₃ [(⟨(0 : Int), (0 : Int), (0 : Int)⟩ : T_api_Arc)], eSl eInt v₄ x2, eSl eInt v₅ [0, 1, 2]] := hO₅.call hW₃ rfl
      refine WO_v (a_pickT (t := (decide (x1 = 0))) (v := .b t) rfl b₁ (Eq.trans (b := V.b x4) rfl (congrArg V.b (Option.some.inj hp)))) ?_
      refine WO_end ?_
      exact ⟨hO₆.pick [0, 1, 2, 3] rfl (by decide), rfl, rfl, rfl⟩
    · skip
      refine WO_off rfl b₁ ?_
      refine WO_off rfl b₁ ?_
      refine WO_off rfl b₁ ?_
      refine WO_v (a_pickF (t := (decide (x1 = 0))) (v := .b t) rfl b₁ (Eq.trans (b := V.b false) rfl (congrArg V.b (Option.some.inj hp)))) ?_
      refine WO_end ?_
      exact ⟨hO₄.pick [0, 1, 2, 3] rfl (by decide), rfl, rfl, rfl⟩
  rintro frg₁ k₇ ⟨hO₇, g₁_25, g₁_1, g₁_4⟩
  refine WO_v (a_mv (v := .b t) g₁_25) ?_
  refine WO_cut 3 (fun fr' k' => k₇ = k' ∧ fr' 29 = .b (t && (decide (x3 = 11))) ∧ fr' 1 = v₂) ?_ ?_
  · rcases bc t with b₂ | b₂
    · skip
      refine WO_on rfl b₂ ?_
      refine WO_v (a_mv (v := .i .i64 x3) g₁_4) ?_
      refine WO_on rfl b₂ ?_
      refine WO_v (a_eqI (a := x3) (b := 11) rfl rfl) ?_
      refine WO_v (a_pickT (t := t) (v := .b (t && (decide (x3 = 11)))) rfl b₂ (Eq.trans (b := V.b (decide (x3 = 11))) rfl (and_on b₂))) ?_
      refine WO_end ?_
      exact ⟨rfl, rfl, g₁_1⟩
    · skip
      refine WO_off rfl b₂ ?_
      refine WO_off rfl b₂ ?_
      refine WO_v (a_pickF (t := t) (v := .b (t && (decide (x3 = 11)))) rfl b₂ (Eq.trans (b := V.b false) rfl (and_off b₂))) ?_
      refine WO_end ?_
      exact ⟨rfl, rfl, g₁_1⟩
  rintro frg₂ _ ⟨rfl, g₂_29, g₂_1⟩
  refine WO_v (a_mv (v := .b (t && (decide (x3 = 11)))) g₂_29) ?_
  obtain ⟨t1, hv₂, hp⟩ := bd_some hp
  refine WO_cut 4 (fun fr' k' => Own B h k' [eSl e_T_api_Arc v₁ [(⟨0, 1, (0 : Int)⟩ : T_api_Arc), (⟨1, 2, (0 : Int)⟩ : T_api_Arc), (⟨0, 2, (0 : Int)⟩ : T_api_Arc)], eSl eInt v₂ x, eSl e_T_api_Arc v₃ [(⟨(0 : Int), (0 : Int), (0 : Int)⟩ : T_api_Arc)], eSl eInt v₄ x2] ∧ fr' 34 = .b t1) ?_ ?_
  · clear hp; rcases if_some hv₂ with ⟨b₃, hp⟩ | ⟨b₃, hp⟩
    · skip
      refine WO_on rfl b₃ ?_
      refine WO_v (a_mv (v := v₂) g₂_1) ?_
      refine WO_on rfl b₃ ?_
      obtain ⟨x5, hx₄, hp⟩ := bd_some hp
      obtain ⟨u₄, k₈, ca₄, rfl, hW₄⟩ := p_layer_Span.ok (h := k₇)  (hO₇.sl 1 rfl : Sl eInt k₇ v₂ x) hx₄
      refine WO_c (id := 41) (caps := []) rfl (mp_cons (v := v₂) rfl mp_nil) ca₄ ?_
      have hO₈ : Own B h k₈ [eSl e_T_api_Arc v₁ [(⟨0, 1, (0 : Int)⟩ : T_api_Arc), (⟨1, 2, (0 : Int)⟩ : T_api_Arc), (⟨0, 2, (0 : Int)⟩ : T_api_Arc)], eSl eInt v₂ x, eSl e_T_api_Arc v₃ [(⟨(0 : Int), (0 : Int), (0 : Int)⟩ : T_api_Arc)], eSl eInt v₄ x2] := hO₇.call hW₄ rfl
      refine WO_on rfl b₃ ?_
      refine WO_v (a_eqI (a := x5) (b := 2) rfl rfl) ?_
      refine WO_v (a_pickT (t := (t && (decide (x3 = 11)))) (v := .b t1) rfl b₃ (Eq.trans (b := V.b (decide (x5 = 2))) rfl (congrArg V.b (Option.some.inj hp)))) ?_
      refine WO_end ?_
      exact ⟨hO₈.pick [0, 1, 2, 3] rfl (by decide), rfl⟩
    · skip
      refine WO_off rfl b₃ ?_
      refine WO_off rfl b₃ ?_
      refine WO_off rfl b₃ ?_
      refine WO_v (a_pickF (t := (t && (decide (x3 = 11)))) (v := .b t1) rfl b₃ (Eq.trans (b := V.b false) rfl (congrArg V.b (Option.some.inj hp)))) ?_
      refine WO_end ?_
      exact ⟨hO₇.pick [0, 1, 2, 3] rfl (by decide), rfl⟩
  rintro frg₃ k₉ ⟨hO₉, g₃_34⟩
  refine WO_v (a_mv (v := .b t1) g₃_34) ?_
  refine WO_end ?_
  refine then_n ?_
  refine W_rt ?_
  refine Ret_r (rs_t (n := 0) (v := .b t1) rfl rs_nil) ?_
  have hp := Option.some.inj hp; subst hp
  exact (And.intro rfl (hO₉.pick [] rfl (by decide)))

theorem p_muntinref03_Fit.ok {h : Hp} {arcs : List T_api_Arc} {x : List Int} {v_arcs : V} {v_x : V} (s_arcs : Sl e_T_api_Arc h v_arcs arcs) (s_x : Sl eInt h v_x x) {r : Bool} (hp : p_muntinref03_Fit arcs x = some r) :
    ∃ u k', Is G 40 [v_arcs, v_x] h u k' ∧ V.b r = u ∧ Own (fun r => r < h.n) h k' [] := by
  refine WC.is (WC_of G_F_muntinref03_Fit ?_)
  unfold p_muntinref03_Fit at hp
  let B : Nat → Prop := (fun r => r < h.n)
  have hO : Own B h h [] := Own.start0 h
  refine W_sq ?_
  refine W_rg ?_
  refine WO_v (a_mv (v := .b false) rfl) ?_
  refine WO_end ?_
  refine then_n ?_
  refine W_sq ?_
  refine W_sq ?_
  refine W_rg ?_
  refine WO_v (a_mv (v := .i .i64 0) rfl) ?_
  refine WO_end ?_
  refine then_n ?_
  refine W_bl ?_
  obtain ⟨o₁, ho₁, hp⟩ := bd_some hp
  refine W.mono (Q := fun e fr k => match (generalizing := false) o₁ with
      | .inl _ => e = (.exit 0) ∧ Own B h k []
      | .inr _ => e = .ret ∧ fr 4 = .b false ∧ Own B h k []) ?_ ?_
  · clear hp
    refine W_loopF (fun st fr k => match st with | i => fr 0 = v_arcs ∧ fr 1 = v_x ∧ fr 5 = .i .i64 i ∧ Own B h k []) ho₁ (s := 0) (And.intro (rfl) (And.intro (rfl) (And.intro (rfl) (hO.pick [] rfl (by decide))))) ?_
    rintro i q₂ k₂ ⟨q₂_0, q₂_1, q₂_5, hO₂⟩ o₂ hp
    dsimp only [p_muntinref03_Fit.s0] at hp
    refine W_sq ?_
    refine W_sq ?_
    refine W_rg ?_
    refine WO_v (a_mv (v := .i .i64 i) q₂_5) ?_
    refine WO_v (a_mv (v := v_arcs) q₂_0) ?_
    refine WO_v (a_len (hO₂.rd0 s_arcs.rd : Sl e_T_api_Arc k₂ v_arcs arcs) rfl) ?_
    refine WO_v (a_lss (a := i) (b := (arcs.length : Int)) rfl rfl) ?_
    refine WO_end ?_
    refine then_n ?_
    rcases if_some hp with ⟨b₁, hp⟩ | ⟨b₁, hp⟩
    · refine W_cT (t := (decide (i < (arcs.length : Int)))) rfl b₁ ?_
      refine W_sk ?_
      refine then_n ?_
      refine W_sq ?_
      refine W_bl ?_
      refine W_sq ?_
      refine W_qd ?_
      have hW := hO₂.bump 17
      have hO₃ : Own B h (k₂.bump 17) [] := hW
      refine WQ_v rfl (a_mv (v := v_x) q₂_1) ?_
      refine WQ_v rfl (a_mv (v := v_arcs) q₂_0) ?_
      refine WQ_v rfl (a_mv (v := .i .i64 i) q₂_5) ?_
      obtain ⟨c₁, hp⟩ := ck_some hp
      refine WQ_v rfl (a_ixa (E := e_T_api_Arc) (z := i) (hO₃.rd0 s_arcs.rd : Sl e_T_api_Arc (k₂.bump 17) v_arcs arcs) rfl rfl c₁) ?_
      refine WQ_v rfl (a_faE (off' := 0) (off2 := 1) (hO₃.rd0 s_arcs.rd : Sl e_T_api_Arc (k₂.bump 17) v_arcs arcs) (toNat_lt c₁) rfl rfl) ?_
      refine WQ_v rfl (a_ldE (w := .i .i64 ((gi arcs (i : Int).toNat).To)) (hO₃.rd0 s_arcs.rd : Sl e_T_api_Arc (k₂.bump 17) v_arcs arcs) rfl (toNat_lt c₁) rfl) ?_
      obtain ⟨c₂, hp⟩ := ck_some hp
      refine WQ_v rfl (a_ixa (E := eInt) (z := ((gi arcs (i : Int).toNat).To)) (hO₃.rd0 s_x.rd : Sl eInt (k₂.bump 17) v_x x) rfl rfl c₂) ?_
      refine WQ_v rfl (a_ldE (w := .i .i64 (gi x ((gi arcs (i : Int).toNat).To : Int).toNat)) (hO₃.rd0 s_x.rd : Sl eInt (k₂.bump 17) v_x x) rfl (toNat_lt c₂) rfl) ?_
      refine WQ_v rfl (a_mv (v := v_x) q₂_1) ?_
      refine WQ_v rfl (a_mv (v := v_arcs) q₂_0) ?_
      refine WQ_v rfl (a_mv (v := .i .i64 i) q₂_5) ?_
      refine WQ_v rfl (a_ixa (E := e_T_api_Arc) (z := i) (hO₃.rd0 s_arcs.rd : Sl e_T_api_Arc (k₂.bump 17) v_arcs arcs) rfl rfl c₁) ?_
      refine WQ_v rfl (a_faE (off' := 0) (off2 := 0) (hO₃.rd0 s_arcs.rd : Sl e_T_api_Arc (k₂.bump 17) v_arcs arcs) (toNat_lt c₁) rfl rfl) ?_
      refine WQ_v rfl (a_ldE (w := .i .i64 ((gi arcs (i : Int).toNat).From)) (hO₃.rd0 s_arcs.rd : Sl e_T_api_Arc (k₂.bump 17) v_arcs arcs) rfl (toNat_lt c₁) rfl) ?_
      obtain ⟨c₃, hp⟩ := ck_some hp
      refine WQ_v rfl (a_ixa (E := eInt) (z := ((gi arcs (i : Int).toNat).From)) (hO₃.rd0 s_x.rd : Sl eInt (k₂.bump 17) v_x x) rfl rfl c₃) ?_
      refine WQ_v rfl (a_ldE (w := .i .i64 (gi x ((gi arcs (i : Int).toNat).From : Int).toNat)) (hO₃.rd0 s_x.rd : Sl eInt (k₂.bump 17) v_x x) rfl (toNat_lt c₃) rfl) ?_
      refine WQ_v rfl (a_leq (a := (gi x ((gi arcs (i : Int).toNat).To : Int).toNat)) (b := (gi x ((gi arcs (i : Int).toNat).From : Int).toNat)) rfl rfl) ?_
      refine WQ_end ?_
      refine then_n ?_
      rcases if_some hp with ⟨b₂, hp⟩ | ⟨b₂, hp⟩
      · refine W_cT (t := (decide ((gi x ((gi arcs (i : Int).toNat).To : Int).toNat) ≤ (gi x ((gi arcs (i : Int).toNat).From : Int).toNat)))) rfl b₂ ?_
        refine W_sq ?_
        refine W_rg ?_
        refine WO_v (a_mv (v := .b false) rfl) ?_
        refine WO_end ?_
        refine then_n ?_
        refine W_rt ?_
        refine blk_r ?_
        refine then_r ?_
        have hp := Option.some.inj hp; subst hp
        refine (Or.inr (Exists.intro (.inr ()) (And.intro rfl (And.intro (fun h => nomatch h) (fun he => ?_)))))
        subst he; exact (And.intro rfl (And.intro (rfl) (hO₃.pick [] rfl (by decide))))
      · refine W_cF (t := (decide ((gi x ((gi arcs (i : Int).toNat).To : Int).toNat) ≤ (gi x ((gi arcs (i : Int).toNat).From : Int).toNat)))) rfl b₂ ?_
        refine W_sk ?_
        refine blk_n ?_
        refine then_n ?_
        refine W_rg ?_
        refine WO_v (a_mv (v := .i .i64 i) q₂_5) ?_
        obtain ⟨c₄, hp⟩ := ck_some hp
        refine WO_v (a_add (a := i) (b := 1) rfl rfl c₄) ?_
        refine WO_v (a_mv (v := .i .i64 (i + 1)) rfl) ?_
        refine WO_end ?_
        have hp := Option.some.inj hp; subst hp
        exact (Or.inl (Exists.intro (i + 1) (And.intro rfl (And.intro rfl (And.intro (q₂_0) (And.intro (q₂_1) (And.intro (rfl) (hO₃.pick [] rfl (by decide)))))))))
    · refine W_cF (t := (decide (i < (arcs.length : Int)))) rfl b₁ ?_
      refine W_ex ?_
      refine then_e ?_
      have hp := Option.some.inj hp; subst hp
      refine (Or.inr (Exists.intro (.inl ()) (And.intro rfl (And.intro (fun h => nomatch h) (fun he => ?_)))))
      subst he; exact (And.intro rfl (hO₂.pick [] rfl (by decide)))
  intro e₁ q₁ k₁ hJ₁
  rcases o₁ with _ | _
  · obtain ⟨rfl, hO₁⟩ := hJ₁
    refine blk_i ?_
    refine then_n ?_
    refine W_sq ?_
    refine W_rg ?_
    refine WO_v (a_mv (v := .b true) rfl) ?_
    refine WO_end ?_
    refine then_n ?_
    refine W_rt ?_
    refine Ret_r (rs_t (n := 4) (v := .b true) rfl rs_nil) ?_
    have hp := Option.some.inj hp; subst hp
    exact (And.intro rfl (hO₁.pick [] rfl (by decide)))
  · obtain ⟨rfl, q₁_4, hO₁⟩ := hJ₁
    refine blk_r ?_
    refine then_r ?_
    refine Ret_r (rs_t (n := 4) (v := .b false) q₁_4 rs_nil) ?_
    have hp := Option.some.inj hp; subst hp
    exact (And.intro rfl (hO₁.pick [] rfl (by decide)))

theorem p_muntinlaw04_LayerLeast.ok {h : Hp} {z : T_muntinref03_Raw} {y : List Int} {v_z_Arcs : V} {v_y : V} (s_z_Arcs : Sl e_A3_u8 h v_z_Arcs z.Arcs) (s_y : Sl eInt h v_y y) {r : Bool} (hp : p_muntinlaw04_LayerLeast z y = some r) :
    ∃ u k', Is G 9 [.ag [.i .u8 z.N, v_z_Arcs], v_y] h u k' ∧ V.b r = u ∧ Own (fun r => r < h.n) h k' [] := by
  refine WC.is (WC_of G_F_muntinlaw04_LayerLeast ?_)
  unfold p_muntinlaw04_LayerLeast at hp
  let B : Nat → Prop := (fun r => r < h.n)
  have hO : Own B h h [] := Own.start0 h
  refine W_sq ?_
  refine W_rg ?_
  refine WO_x (hO.boxd (v := .ag [.i .u8 z.N, v_z_Arcs]) (cs := [.i .u8 z.N, v_z_Arcs]) hO.fr rfl rfl) ?_
  rintro _ k₁ ⟨r₁, rfl, n₁, f₁, hW⟩
  have hO₁ : Own B h k₁ [eBox r₁ [.i .u8 z.N, v_z_Arcs]] := hW
  refine WO_v (a_mv (v := .b false) rfl) ?_
  refine WO_end ?_
  refine then_n ?_
  refine W_sq ?_
  refine W_rg ?_
  refine WO_v (a_ldbA (cs := [.i .u8 z.N, v_z_Arcs]) (ws := [.i .u8 z.N, v_z_Arcs]) (hO₁.box 0 rfl) rfl rfl) ?_
  obtain ⟨⟨x, x1⟩, hx₁, hp⟩ := bd_some hp
  obtain ⟨u₁, k₂, ca₁, v₁, rfl, hW₁⟩ := p_muntinref03_Make.ok (h := k₁)  (hO₁.rd0 s_z_Arcs.rd : Sl e_A3_u8 k₁ v_z_Arcs z.Arcs) hx₁
  refine WO_c (id := 37) (caps := []) rfl (mp_cons (v := .ag [.i .u8 z.N, v_z_Arcs]) rfl (mp_cons (v := .i .i64 12) rfl mp_nil)) ca₁ ?_
  have hO₂ : Own B h k₂ [eBox r₁ [.i .u8 z.N, v_z_Arcs], eSl e_T_api_Arc v₁ x1] := hO₁.call hW₁ rfl
  refine WO_v (a_mv (v := .tu [.i .i64 x, v₁]) rfl) ?_
  refine WO_v (a_ext (vs := [.i .i64 x, v₁]) (v := .i .i64 x) rfl rfl) ?_
  refine WO_v (a_ext (vs := [.i .i64 x, v₁]) (v := v₁) rfl rfl) ?_
  refine WO_v (a_mv (v := .i .i64 x) rfl) ?_
  refine WO_v (a_mv (v := v₁) rfl) ?_
  refine WO_end ?_
  refine then_n ?_
  refine W_sq ?_
  refine W_rg ?_
  refine WO_v (a_mv (v := .i .i64 x) rfl) ?_
  refine WO_v (a_mv (v := v₁) rfl) ?_
  obtain ⟨⟨x2, x3⟩, hx₂, hp⟩ := bd_some hp
  obtain ⟨u₂, k₃, ca₂, v₂, rfl, hW₂⟩ := p_layer_Layers.ok (h := k₂)  (hO₂.sl 1 rfl : Sl e_T_api_Arc k₂ v₁ x1) hx₂
  refine WO_c (id := 38) (caps := []) rfl (mp_cons (v := .i .i64 x) rfl (mp_cons (v := v₁) rfl mp_nil)) ca₂ ?_
  have hO₃ : Own B h k₃ [eBox r₁ [.i .u8 z.N, v_z_Arcs], eSl e_T_api_Arc v₁ x1, eSl eInt v₂ x2] := hO₂.call hW₂ rfl
  refine WO_v (a_mv (v := .tu [v₂, .i .i64 x3]) rfl) ?_
  refine WO_v (a_ext (vs := [v₂, .i .i64 x3]) (v := v₂) rfl rfl) ?_
  refine WO_v (a_ext (vs := [v₂, .i .i64 x3]) (v := .i .i64 x3) rfl rfl) ?_
  refine WO_v (a_mv (v := v₂) rfl) ?_
  refine WO_v (a_mv (v := .i .i64 x3) rfl) ?_
  refine WO_end ?_
  refine then_n ?_
  refine W_sq ?_
  refine W_sq ?_
  refine W_rg ?_
  obtain ⟨x4, hx₃, hp⟩ := bd_some hp
  obtain ⟨u₃, k₄, ca₃, rfl, hW₃⟩ := p_muntinlaw04_wakes.ok (h := k₃)   hx₃
  refine WO_c (id := 39) (caps := []) rfl mp_nil ca₃ ?_
  have hO₄ : Own B h k₄ [eBox r₁ [.i .u8 z.N, v_z_Arcs], eSl e_T_api_Arc v₁ x1, eSl eInt v₂ x2] := hO₃.call hW₃ rfl
  refine WO_v (a_not (t := x4) rfl) ?_
  refine WO_v (a_mv (v := .b (!x4)) rfl) ?_
  refine WO_cut 3 (fun fr' k' => k₄ = k' ∧ fr' 31 = .b ((!x4) || (!(decide (x3 = 0)))) ∧ fr' 1 = v_y ∧ fr' 5 = .i .i64 x ∧ fr' 6 = v₁ ∧ fr' 7 = v₂) ?_ ?_
  · rcases bc (!x4) with b₁ | b₁
    · skip
      refine WO_off rfl b₁ ?_
      refine WO_off rfl b₁ ?_
      refine WO_v (a_pickT (t := (!x4)) (v := .b ((!x4) || (!(decide (x3 = 0))))) rfl b₁ (Eq.trans (b := V.b true) rfl (or_off b₁))) ?_
      refine WO_end ?_
      exact ⟨rfl, rfl, rfl, rfl, rfl, rfl⟩
    · skip
      refine WO_on rfl b₁ ?_
      refine WO_v (a_mv (v := .i .i64 x3) rfl) ?_
      refine WO_on rfl b₁ ?_
      refine WO_v (a_neI (a := x3) (b := 0) rfl rfl) ?_
      refine WO_v (a_pickF (t := (!x4)) (v := .b ((!x4) || (!(decide (x3 = 0))))) rfl b₁ (Eq.trans (b := V.b (!(decide (x3 = 0)))) rfl (or_on b₁))) ?_
      refine WO_end ?_
      exact ⟨rfl, rfl, rfl, rfl, rfl, rfl⟩
  rintro frg₁ _ ⟨rfl, g₁_31, g₁_1, g₁_5, g₁_6, g₁_7⟩
  refine WO_v (a_mv (v := .b ((!x4) || (!(decide (x3 = 0))))) g₁_31) ?_
  refine WO_cut 5 (fun fr' k' => k₄ = k' ∧ fr' 37 = .b (((!x4) || (!(decide (x3 = 0)))) || (!(decide ((x2.length : Int) = x)))) ∧ fr' 1 = v_y ∧ fr' 5 = .i .i64 x ∧ fr' 6 = v₁ ∧ fr' 7 = v₂) ?_ ?_
  · rcases bc ((!x4) || (!(decide (x3 = 0)))) with b₂ | b₂
    · skip
      refine WO_off rfl b₂ ?_
      refine WO_off rfl b₂ ?_
      refine WO_off rfl b₂ ?_
      refine WO_off rfl b₂ ?_
      refine WO_v (a_pickT (t := ((!x4) || (!(decide (x3 = 0))))) (v := .b (((!x4) || (!(decide (x3 = 0)))) || (!(decide ((x2.length : Int) = x))))) rfl b₂ (Eq.trans (b := V.b true) rfl (or_off b₂))) ?_
      refine WO_end ?_
      exact ⟨rfl, rfl, g₁_1, g₁_5, g₁_6, g₁_7⟩
    · skip
      refine WO_on rfl b₂ ?_
      refine WO_v (a_mv (v := v₂) g₁_7) ?_
      refine WO_on rfl b₂ ?_
      refine WO_v (a_len (hO₄.sl 2 rfl : Sl eInt k₄ v₂ x2) rfl) ?_
      refine WO_on rfl b₂ ?_
      refine WO_v (a_mv (v := .i .i64 x) g₁_5) ?_
      refine WO_on rfl b₂ ?_
      refine WO_v (a_neI (a := (x2.length : Int)) (b := x) rfl rfl) ?_
      refine WO_v (a_pickF (t := ((!x4) || (!(decide (x3 = 0))))) (v := .b (((!x4) || (!(decide (x3 = 0)))) || (!(decide ((x2.length : Int) = x))))) rfl b₂ (Eq.trans (b := V.b (!(decide ((x2.length : Int) = x)))) rfl (or_on b₂))) ?_
      refine WO_end ?_
      exact ⟨rfl, rfl, g₁_1, g₁_5, g₁_6, g₁_7⟩
  rintro frg₂ _ ⟨rfl, g₂_37, g₂_1, g₂_5, g₂_6, g₂_7⟩
  refine WO_v (a_mv (v := .b (((!x4) || (!(decide (x3 = 0)))) || (!(decide ((x2.length : Int) = x))))) g₂_37) ?_
  obtain ⟨t, hv₁, hp⟩ := bd_some hp
  refine WO_cut 5 (fun fr' k' => Own B h k' [eBox r₁ [.i .u8 z.N, v_z_Arcs], eSl e_T_api_Arc v₁ x1, eSl eInt v₂ x2] ∧ fr' 43 = .b t ∧ fr' 1 = v_y ∧ fr' 5 = .i .i64 x ∧ fr' 6 = v₁ ∧ fr' 7 = v₂) ?_ ?_
  · clear hp; rcases if_some hv₁ with ⟨b₃, hp⟩ | ⟨b₃, hp⟩
    · skip
      refine WO_off rfl b₃ ?_
      refine WO_off rfl b₃ ?_
      refine WO_off rfl b₃ ?_
      refine WO_off rfl b₃ ?_
      refine WO_v (a_pickT (t := (((!x4) || (!(decide (x3 = 0)))) || (!(decide ((x2.length : Int) = x))))) (v := .b t) rfl b₃ (Eq.trans (b := V.b true) rfl (congrArg V.b (Option.some.inj hp)))) ?_
      refine WO_end ?_
      exact ⟨hO₄.pick [0, 1, 2] rfl (by decide), rfl, g₂_1, g₂_5, g₂_6, g₂_7⟩
    · skip
      refine WO_on rfl b₃ ?_
      refine WO_v (a_mv (v := v₁) g₂_6) ?_
      refine WO_on rfl b₃ ?_
      refine WO_v (a_mv (v := v₂) g₂_7) ?_
      refine WO_on rfl b₃ ?_
      obtain ⟨x5, hx₄, hp⟩ := bd_some hp
      obtain ⟨u₄, k₅, ca₄, rfl, hW₄⟩ := p_muntinref03_Fit.ok (h := k₄)  (hO₄.sl 1 rfl : Sl e_T_api_Arc k₄ v₁ x1) (hO₄.sl 2 rfl : Sl eInt k₄ v₂ x2) hx₄
      refine WO_c (id := 40) (caps := []) rfl (mp_cons (v := v₁) rfl (mp_cons (v := v₂) rfl mp_nil)) ca₄ ?_
      have hO₅ : Own B h k₅ [eBox r₁ [.i .u8 z.N, v_z_Arcs], eSl e_T_api_Arc v₁ x1, eSl eInt v₂ x2] := hO₄.call hW₄ rfl
      refine WO_on rfl b₃ ?_
      refine WO_v (a_not (t := x5) rfl) ?_
      refine WO_v (a_pickF (t := (((!x4) || (!(decide (x3 = 0)))) || (!(decide ((x2.length : Int) = x))))) (v := .b t) rfl b₃ (Eq.trans (b := V.b (!x5)) rfl (congrArg V.b (Option.some.inj hp)))) ?_
      refine WO_end ?_
      exact ⟨hO₅.pick [0, 1, 2] rfl (by decide), rfl, g₂_1, g₂_5, g₂_6, g₂_7⟩
  rintro frg₃ k₆ ⟨hO₆, g₃_43, g₃_1, g₃_5, g₃_6, g₃_7⟩
  refine WO_end ?_
  refine then_n ?_
  rcases if_some hp with ⟨b₄, hp⟩ | ⟨b₄, hp⟩
  · refine W_cT (t := t) g₃_43 b₄ ?_
    refine W_sq ?_
    refine W_rg ?_
    refine WO_v (a_mv (v := .b false) rfl) ?_
    refine WO_end ?_
    refine then_n ?_
    refine W_rt ?_
    refine then_r ?_
    refine Ret_r (rs_t (n := 4) (v := .b false) rfl rs_nil) ?_
    have hp := Option.some.inj hp; subst hp
    exact (And.intro rfl (hO₆.pick [] rfl (by decide)))
  · refine W_cF (t := t) g₃_43 b₄ ?_
    refine W_sk ?_
    refine then_n ?_
    refine W_sq ?_
    refine W_rg ?_
    refine WO_v (a_mv (v := .sn) rfl) ?_
    refine WO_end ?_
    refine then_n ?_
    refine W_sq ?_
    refine W_sq ?_
    refine W_rg ?_
    refine WO_v (a_mv (v := .i .i64 x) g₃_5) ?_
    refine WO_v (a_mv (v := .i .i64 0) rfl) ?_
    refine WO_end ?_
    refine then_n ?_
    refine W_bl ?_
    obtain ⟨o₁, ho₁, hp⟩ := bd_some hp
    refine W.mono (Q := fun e fr k => match (generalizing := false) o₁ with
        | l1 => e = (.exit 0) ∧ ∃ (v₄ : V), fr 5 = .i .i64 x ∧ fr 6 = v₁ ∧ fr 7 = v₂ ∧ fr 9 = v₄ ∧ Own B h k [eSl e_T_api_Arc v₁ x1, eSl eInt v₂ x2, eSl eInt v₄ l1]) ?_ ?_
    · clear hp
      have hO₈ : Own B h k₆ [eBox r₁ [.i .u8 z.N, v_z_Arcs], eSl e_T_api_Arc v₁ x1, eSl eInt v₂ x2, eSl eInt .sn ([] : List Int)] := hO₆.nil eInt
      refine W_loopF (fun st fr k => match st with | (l, x6) => ∃ (v₃ : V), fr 1 = v_y ∧ fr 5 = .i .i64 x ∧ fr 6 = v₁ ∧ fr 7 = v₂ ∧ fr 9 = v₃ ∧ fr 44 = .i .i64 x ∧ fr 45 = .i .i64 x6 ∧ Own B h k [eSl e_T_api_Arc v₁ x1, eSl eInt v₂ x2, eSl eInt v₃ l]) ho₁ (s := (([] : List Int), 0)) (Exists.intro V.sn (And.intro (g₃_1) (And.intro (g₃_5) (And.intro (g₃_6) (And.intro (g₃_7) (And.intro (rfl) (And.intro (rfl) (And.intro (rfl) (hO₈.pick [1, 2, 3] rfl (by decide)))))))))) ?_
      rintro ⟨l, x6⟩ q₂ k₈ ⟨v₃, q₂_1, q₂_5, q₂_6, q₂_7, q₂_9, q₂_44, q₂_45, hO₉⟩ o₂ hp
      dsimp only [p_muntinlaw04_LayerLeast.s0] at hp
      refine W_sq ?_
      refine W_rg ?_
      refine WO_v (a_lss (a := x6) (b := x) q₂_45 q₂_44) ?_
      refine WO_end ?_
      refine then_n ?_
      refine W_sq ?_
      rcases if_some hp with ⟨b₅, hp⟩ | ⟨b₅, hp⟩
      · refine W_cT (t := (decide (x6 < x))) rfl b₅ ?_
        refine W_sk ?_
        refine then_n ?_
        refine W_sq ?_
        refine W_bl ?_
        refine W_sq ?_
        refine W_rg ?_
        refine WO_v (a_mv (v := .i .i64 x6) q₂_45) ?_
        refine WO_v (a_mv (v := .i .i64 x6) rfl) ?_
        refine WO_end ?_
        refine then_n ?_
        refine W_sq ?_
        refine W_rg ?_
        refine WO_v (a_mv (v := .i .i64 0) rfl) ?_
        refine WO_end ?_
        refine then_n ?_
        refine W_sq ?_
        refine W_sq ?_
        refine W_rg ?_
        refine WO_v (a_mv (v := .i .i64 x6) rfl) ?_
        refine WO_v (a_mv (v := v_y) q₂_1) ?_
        refine WO_v (a_len (hO₉.rd0 s_y.rd : Sl eInt k₈ v_y y) rfl) ?_
        refine WO_v (a_lss (a := x6) (b := (y.length : Int)) rfl rfl) ?_
        refine WO_end ?_
        refine then_n ?_
        rcases if_some hp with ⟨b₆, hp⟩ | ⟨b₆, hp⟩
        · refine W_cT (t := (decide (x6 < (y.length : Int)))) rfl b₆ ?_
          refine W_rg ?_
          refine WO_v (a_mv (v := v_y) q₂_1) ?_
          refine WO_v (a_mv (v := .i .i64 x6) rfl) ?_
          obtain ⟨c₁, hp⟩ := ck_some hp
          refine WO_v (a_ixa (E := eInt) (z := x6) (hO₉.rd0 s_y.rd : Sl eInt k₈ v_y y) rfl rfl c₁) ?_
          refine WO_v (a_ldE (w := .i .i64 (gi y (x6 : Int).toNat)) (hO₉.rd0 s_y.rd : Sl eInt k₈ v_y y) rfl (toNat_lt c₁) rfl) ?_
          refine WO_v (a_mx (a := 0) (b := (gi y (x6 : Int).toNat)) rfl rfl) ?_
          refine WO_v (a_rem (a := (max 0 (gi y (x6 : Int).toNat))) (b := 40) rfl rfl (by decide)) ?_
          refine WO_v (a_mv (v := .i .i64 ((max 0 (gi y (x6 : Int).toNat)).tmod 40)) rfl) ?_
          refine WO_end ?_
          refine then_n ?_
          refine W_rg ?_
          refine WO_v (a_mv (v := v₃) q₂_9) ?_
          refine WO_v (a_mv (v := .i .i64 ((max 0 (gi y (x6 : Int).toNat)).tmod 40)) rfl) ?_
          refine WO_x (hO₉.bsl (E := eInt) (l := [(max 0 (gi y (x6 : Int).toNat)).tmod 40]) hO₉.fr (by rw [(ev_cons (v := .i .i64 ((max 0 (gi y (x6 : Int).toNat)).tmod 40)) rfl ev_nil)]; rfl) rfl) ?_
          rintro v₅ k₉ ⟨r₂, f₂, hW⟩
          have hO₁₀ : Own B h k₉ [eSl e_T_api_Arc v₁ x1, eSl eInt v₂ x2, eSl eInt v₃ l, eSl eInt v₅ [(max 0 (gi y (x6 : Int).toNat)).tmod 40]] := hW
          obtain ⟨c₂, hp⟩ := ck_some hp
          refine WO_x (hO₁₀.app (E := eInt) (bytes := 8) 2 hO₁₀.fr rfl (hO₁₀.sl 3 rfl : Sl eInt k₉ v₅ [(max 0 (gi y (x6 : Int).toNat)).tmod 40]) rfl rfl (fun _ => rfl) c₂ (by decide)) ?_
          rintro v₆ k₁₀ ⟨f₃, hW⟩
          have hO₁₁ : Own B h k₁₀ [eSl e_T_api_Arc v₁ x1, eSl eInt v₂ x2, eSl eInt v₆ (l ++ [(max 0 (gi y (x6 : Int).toNat)).tmod 40]), eSl eInt v₅ [(max 0 (gi y (x6 : Int).toNat)).tmod 40]] := hW
          refine WO_v (a_mv (v := v₆) rfl) ?_
          refine WO_end ?_
          refine blk_n ?_
          refine then_n ?_
          refine W_rg ?_
          obtain ⟨c₃, hp⟩ := ck_some hp
          refine WO_v (a_add (a := x6) (b := 1) q₂_45 rfl c₃) ?_
          refine WO_v (a_mv (v := .i .i64 (x6 + 1)) rfl) ?_
          refine WO_end ?_
          have hp := Option.some.inj hp; subst hp
          exact (Or.inl (Exists.intro (l ++ [(max 0 (gi y (x6 : Int).toNat)).tmod 40], x6 + 1) (And.intro rfl (And.intro rfl (Exists.intro v₆ (And.intro (q₂_1) (And.intro (q₂_5) (And.intro (q₂_6) (And.intro (q₂_7) (And.intro (rfl) (And.intro (q₂_44) (And.intro (rfl) (hO₁₁.pick [0, 1, 2] rfl (by decide))))))))))))))
        · refine W_cF (t := (decide (x6 < (y.length : Int)))) rfl b₆ ?_
          refine W_sk ?_
          refine then_n ?_
          refine W_rg ?_
          refine WO_v (a_mv (v := v₃) q₂_9) ?_
          refine WO_v (a_mv (v := .i .i64 0) rfl) ?_
          refine WO_x (hO₉.bsl (E := eInt) (l := [0]) hO₉.fr (by rw [(ev_cons (v := .i .i64 0) rfl ev_nil)]; rfl) rfl) ?_
          rintro v₇ k₁₁ ⟨r₃, f₄, hW⟩
          have hO₁₂ : Own B h k₁₁ [eSl e_T_api_Arc v₁ x1, eSl eInt v₂ x2, eSl eInt v₃ l, eSl eInt v₇ [0]] := hW
          obtain ⟨c₄, hp⟩ := ck_some hp
          refine WO_x (hO₁₂.app (E := eInt) (bytes := 8) 2 hO₁₂.fr rfl (hO₁₂.sl 3 rfl : Sl eInt k₁₁ v₇ [0]) rfl rfl (fun _ => rfl) c₄ (by decide)) ?_
          rintro v₈ k₁₂ ⟨f₅, hW⟩
          have hO₁₃ : Own B h k₁₂ [eSl e_T_api_Arc v₁ x1, eSl eInt v₂ x2, eSl eInt v₈ (l ++ [0]), eSl eInt v₇ [0]] := hW
          refine WO_v (a_mv (v := v₈) rfl) ?_
          refine WO_end ?_
          refine blk_n ?_
          refine then_n ?_
          refine W_rg ?_
          obtain ⟨c₅, hp⟩ := ck_some hp
          refine WO_v (a_add (a := x6) (b := 1) q₂_45 rfl c₅) ?_
          refine WO_v (a_mv (v := .i .i64 (x6 + 1)) rfl) ?_
          refine WO_end ?_
          have hp := Option.some.inj hp; subst hp
          exact (Or.inl (Exists.intro (l ++ [0], x6 + 1) (And.intro rfl (And.intro rfl (Exists.intro v₈ (And.intro (q₂_1) (And.intro (q₂_5) (And.intro (q₂_6) (And.intro (q₂_7) (And.intro (rfl) (And.intro (q₂_44) (And.intro (rfl) (hO₁₃.pick [0, 1, 2] rfl (by decide))))))))))))))
      · refine W_cF (t := (decide (x6 < x))) rfl b₅ ?_
        refine W_ex ?_
        refine then_e ?_
        have hp := Option.some.inj hp; subst hp
        refine (Or.inr (Exists.intro l (And.intro rfl (And.intro (fun h => nomatch h) (fun he => ?_)))))
        subst he; exact (And.intro rfl (Exists.intro v₃ (And.intro (q₂_5) (And.intro (q₂_6) (And.intro (q₂_7) (And.intro (q₂_9) (hO₉.pick [0, 1, 2] rfl (by decide))))))))
    intro e₁ q₁ k₇ hJ₁
    obtain ⟨l1, rfl⟩ : ∃ x, x = o₁ := ⟨_, rfl⟩
    obtain ⟨rfl, v₄, q₁_5, q₁_6, q₁_7, q₁_9, hO₇⟩ := hJ₁
    refine blk_i ?_
    refine then_n ?_
    refine W_sq ?_
    refine W_sq ?_
    refine W_rg ?_
    refine WO_v (a_mv (v := .i .i64 x) q₁_5) ?_
    refine WO_v (a_mv (v := .i .i64 0) rfl) ?_
    refine WO_end ?_
    refine then_n ?_
    refine W_bl ?_
    obtain ⟨o₃, ho₂, hp⟩ := bd_some hp
    refine W.mono (Q := fun e fr k => match (generalizing := false) o₃ with
        | l3 => e = (.exit 2) ∧ fr 7 = v₂ ∧ fr 9 = v₄ ∧ Own B h k [eSl eInt v₂ x2, eSl eInt v₄ l3]) ?_ ?_
    · clear hp
      refine W_loopF (fun st fr k => match st with | (l2, x7) => fr 6 = v₁ ∧ fr 7 = v₂ ∧ fr 9 = v₄ ∧ fr 63 = .i .i64 x ∧ fr 64 = .i .i64 x7 ∧ Own B h k [eSl e_T_api_Arc v₁ x1, eSl eInt v₂ x2, eSl eInt v₄ l2]) ho₂ (s := (l1, 0)) (And.intro (q₁_6) (And.intro (q₁_7) (And.intro (q₁_9) (And.intro (rfl) (And.intro (rfl) (hO₇.pick [0, 1, 2] rfl (by decide))))))) ?_
      rintro ⟨l2, x7⟩ q₄ k₁₄ ⟨q₄_6, q₄_7, q₄_9, q₄_63, q₄_64, hO₁₅⟩ o₄ hp
      dsimp only [p_muntinlaw04_LayerLeast.s1] at hp
      refine W_sq ?_
      refine W_rg ?_
      refine WO_v (a_lss (a := x7) (b := x) q₄_64 q₄_63) ?_
      refine WO_end ?_
      refine then_n ?_
      refine W_sq ?_
      rcases if_some hp with ⟨b₇, hp⟩ | ⟨b₇, hp⟩
      · refine W_cT (t := (decide (x7 < x))) rfl b₇ ?_
        refine W_sk ?_
        refine then_n ?_
        refine W_sq ?_
        refine W_bl ?_
        refine W_sq ?_
        refine W_rg ?_
        refine WO_v (a_mv (v := v₁) q₄_6) ?_
        refine WO_v (a_len (hO₁₅.sl 0 rfl : Sl e_T_api_Arc k₁₄ v₁ x1) rfl) ?_
        refine WO_v (a_mv (v := .i .i64 0) rfl) ?_
        refine WO_end ?_
        refine then_n ?_
        refine W_bl ?_
        obtain ⟨o₅, ho₃, hp⟩ := bd_some hp
        refine W.mono (Q := fun e fr k => match (generalizing := false) o₅ with
            | l5 => e = (.exit 4) ∧ fr 6 = v₁ ∧ fr 7 = v₂ ∧ fr 9 = v₄ ∧ fr 63 = .i .i64 x ∧ fr 64 = .i .i64 x7 ∧ Own B h k [eSl e_T_api_Arc v₁ x1, eSl eInt v₂ x2, eSl eInt v₄ l5]) ?_ ?_
        · clear hp
          refine W_loopF (fun st fr k => match st with | (l4, x8) => fr 6 = v₁ ∧ fr 7 = v₂ ∧ fr 9 = v₄ ∧ fr 63 = .i .i64 x ∧ fr 64 = .i .i64 x7 ∧ fr 66 = v₁ ∧ fr 67 = .i .i64 (x1.length : Int) ∧ fr 68 = .i .i64 x8 ∧ Own B h k [eSl e_T_api_Arc v₁ x1, eSl eInt v₂ x2, eSl eInt v₄ l4]) ho₃ (s := (l2, 0)) (And.intro (q₄_6) (And.intro (q₄_7) (And.intro (q₄_9) (And.intro (q₄_63) (And.intro (q₄_64) (And.intro (rfl) (And.intro (rfl) (And.intro (rfl) (hO₁₅.pick [0, 1, 2] rfl (by decide)))))))))) ?_
          rintro ⟨l4, x8⟩ q₆ k₁₆ ⟨q₆_6, q₆_7, q₆_9, q₆_63, q₆_64, q₆_66, q₆_67, q₆_68, hO₁₇⟩ o₆ hp
          dsimp only [p_muntinlaw04_LayerLeast.s2] at hp
          refine W_sq ?_
          refine W_rg ?_
          refine WO_v (a_lss (a := x8) (b := (x1.length : Int)) q₆_68 q₆_67) ?_
          refine WO_end ?_
          refine then_n ?_
          refine W_sq ?_
          rcases if_some hp with ⟨b₈, hp⟩ | ⟨b₈, hp⟩
          · refine W_cT (t := (decide (x8 < (x1.length : Int)))) rfl b₈ ?_
            refine W_sk ?_
            refine then_n ?_
            refine W_sq ?_
            refine W_bl ?_
            refine W_sq ?_
            refine W_rg ?_
            obtain ⟨c₆, hp⟩ := ck_some hp
            refine WO_v (a_ixa (E := e_T_api_Arc) (z := x8) (hO₁₇.sl 0 rfl : Sl e_T_api_Arc k₁₆ v₁ x1) q₆_66 q₆_68 c₆) ?_
            refine WO_v (a_ldA (E := e_T_api_Arc) (hO₁₇.sl 0 rfl : Sl e_T_api_Arc k₁₆ v₁ x1) rfl (toNat_lt c₆)) ?_
            refine WO_x (hO₁₇.alloc (cs := e_T_api_Arc.c (⟨0, 0, 0⟩ : T_api_Arc)) hO₁₇.fr) ?_
            rintro _ k₁₇ ⟨r₄, rfl, n₂, f₆, hW⟩
            have hO₁₈ : Own B h k₁₇ [eSl e_T_api_Arc v₁ x1, eSl eInt v₂ x2, eSl eInt v₄ l4, eBox r₄ (e_T_api_Arc.c (⟨0, 0, 0⟩ : T_api_Arc))] := hW
            refine WO_x (hO₁₈.stb (ws := e_T_api_Arc.c (gi x1 (x8 : Int).toNat)) (cs' := e_T_api_Arc.c (gi x1 (x8 : Int).toNat)) (v := .ag (e_T_api_Arc.c (gi x1 (x8 : Int).toNat))) 3 rfl rfl rfl rfl ⟨rfl, Nat.le_of_ble_eq_true rfl, rfl⟩ rfl) ?_
            rintro _ k₁₈ ⟨rfl, f₇, m₁, hW⟩
            have hO₁₉ : Own B h k₁₈ [eSl e_T_api_Arc v₁ x1, eSl eInt v₂ x2, eSl eInt v₄ l4, eBox r₄ (e_T_api_Arc.c (gi x1 (x8 : Int).toNat))] := hW
            refine WO_end ?_
            refine then_n ?_
            refine W_dr ?_
            have hW := hO₁₉.bump 17
            have fr₁ := Fresh.start k₁₈ 17
            have nb₁ : ∀ {i : Nat}, h.n ≤ k₁₈.n + i := Nat.le_trans hO₁₉.n (Nat.le_add_right _ _)
            have hO₂₀ : Own B h (k₁₈.bump 17) [eSl e_T_api_Arc v₁ x1, eSl eInt v₂ x2, eSl eInt v₄ l4, eBox r₄ (e_T_api_Arc.c (gi x1 (x8 : Int).toNat))] := hW
            refine WD_v (a_mv (v := v₄) q₆_9) ?_
            refine WD_v (a_fa (r := r₄) (o := 0) (o' := 1) rfl rfl) ?_
            refine WD_v (a_ldb (cs := (e_T_api_Arc.c (gi x1 (x8 : Int).toNat))) (v := .i .i64 ((gi x1 (x8 : Int).toNat).To)) (hO₂₀.box 3 rfl) rfl rfl) ?_
            refine WD_v (a_mv (v := v₄) q₆_9) ?_
            refine WD_v (a_fa (r := r₄) (o := 0) (o' := 1) rfl rfl) ?_
            refine WD_v (a_ldb (cs := (e_T_api_Arc.c (gi x1 (x8 : Int).toNat))) (v := .i .i64 ((gi x1 (x8 : Int).toNat).To)) (hO₂₀.box 3 rfl) rfl rfl) ?_
            obtain ⟨c₇, hp⟩ := ck_some hp
            refine WD_v (a_ixa (E := eInt) (z := ((gi x1 (x8 : Int).toNat).To)) (hO₂₀.sl 2 rfl : Sl eInt (k₁₈.bump 17) v₄ l4) rfl rfl c₇) ?_
            refine WD_v (a_ldE (w := .i .i64 (gi l4 ((gi x1 (x8 : Int).toNat).To : Int).toNat)) (hO₂₀.sl 2 rfl : Sl eInt (k₁₈.bump 17) v₄ l4) rfl (toNat_lt c₇) rfl) ?_
            refine WD_v (a_mv (v := v₄) q₆_9) ?_
            refine WD_v (a_fa (r := r₄) (o := 0) (o' := 0) rfl rfl) ?_
            refine WD_v (a_ldb (cs := (e_T_api_Arc.c (gi x1 (x8 : Int).toNat))) (v := .i .i64 ((gi x1 (x8 : Int).toNat).From)) (hO₂₀.box 3 rfl) rfl rfl) ?_
            obtain ⟨c₈, hp⟩ := ck_some hp
            refine WD_v (a_ixa (E := eInt) (z := ((gi x1 (x8 : Int).toNat).From)) (hO₂₀.sl 2 rfl : Sl eInt (k₁₈.bump 17) v₄ l4) rfl rfl c₈) ?_
            refine WD_v (a_ldE (w := .i .i64 (gi l4 ((gi x1 (x8 : Int).toNat).From : Int).toNat)) (hO₂₀.sl 2 rfl : Sl eInt (k₁₈.bump 17) v₄ l4) rfl (toNat_lt c₈) rfl) ?_
            obtain ⟨c₉, hp⟩ := ck_some hp
            refine WD_v (a_add (a := (gi l4 ((gi x1 (x8 : Int).toNat).From : Int).toNat)) (b := 1) rfl rfl c₉) ?_
            refine WD_v (a_mx (a := (gi l4 ((gi x1 (x8 : Int).toNat).To : Int).toNat)) (b := ((gi l4 ((gi x1 (x8 : Int).toNat).From : Int).toNat) + 1)) rfl rfl) ?_
            refine WD_v (a_ixa (E := eInt) (z := ((gi x1 (x8 : Int).toNat).To)) (hO₂₀.sl 2 rfl : Sl eInt (k₁₈.bump 17) v₄ l4) rfl rfl c₇) ?_
            refine WD_x (hO₂₀.ste (E := eInt) (y := (max (gi l4 ((gi x1 (x8 : Int).toNat).To : Int).toNat) ((gi l4 ((gi x1 (x8 : Int).toNat).From : Int).toNat) + 1))) (ws := [.i .i64 (max (gi l4 ((gi x1 (x8 : Int).toNat).To : Int).toNat) ((gi l4 ((gi x1 (x8 : Int).toNat).From : Int).toNat) + 1))]) 2 rfl rfl (toNat_lt c₇) rfl rfl ⟨rfl, Nat.le_of_ble_eq_true rfl, rfl⟩ rfl) ?_
            rintro _ k₂₀ z₁ ⟨rfl, f₈, m₂, hW⟩
            have fr₂ := fr₁.kept f₈ (by decide)
            have hO₂₁ : Own B h k₂₀ [eSl e_T_api_Arc v₁ x1, eSl eInt v₂ x2, eSl eInt v₄ (l4.set ((gi x1 (x8 : Int).toNat).To : Int).toNat (max (gi l4 ((gi x1 (x8 : Int).toNat).To : Int).toNat) ((gi l4 ((gi x1 (x8 : Int).toNat).From : Int).toNat) + 1))), eBox r₄ (e_T_api_Arc.c (gi x1 (x8 : Int).toNat))] := hW
            refine WD_end ?_
            refine And.intro ?_ ?_
            · intro q hq
              simp only [List.mem_cons, List.not_mem_nil, or_false] at hq
              rcases hq with rfl | rfl | rfl | rfl | rfl | rfl | rfl | rfl
              · refine ap_ll ?_ ?_
                · exact (fun h => nomatch h)
                · exact (fun h => nomatch h)
              · refine ap_ll ?_ ?_
                · exact (fun h => nomatch h)
                · exact (fun h => nomatch h)
              · refine ap_ll ?_ ?_
                · exact (fun h => nomatch h)
                · exact (fun h => nomatch h)
              · refine ap_ll ?_ ?_
                · exact (fun h => nomatch h)
                · exact (fun h => nomatch h)
              · refine ap_ll ?_ ?_
                · exact (fun h => nomatch h)
                · exact (fun h => nomatch h)
              · refine ap_ll ?_ ?_
                · exact (fun h => nomatch h)
                · exact (fun h => nomatch h)
              · refine ap_ll ?_ ?_
                · exact (fun h => nomatch h)
                · exact (fun h => nomatch h)
              · refine ap_ll ?_ ?_
                · exact (fun h => nomatch h)
                · exact (fun h => nomatch h)
            refine blk_n ?_
            refine then_n ?_
            refine W_rg ?_
            obtain ⟨c₁₀, hp⟩ := ck_some hp
            refine WO_v (a_add (a := x8) (b := 1) q₆_68 rfl c₁₀) ?_
            refine WO_v (a_mv (v := .i .i64 (x8 + 1)) rfl) ?_
            refine WO_end ?_
            have hp := Option.some.inj hp; subst hp
            exact (Or.inl (Exists.intro (l4.set ((gi x1 (x8 : Int).toNat).To : Int).toNat (max (gi l4 ((gi x1 (x8 : Int).toNat).To : Int).toNat) ((gi l4 ((gi x1 (x8 : Int).toNat).From : Int).toNat) + 1)), x8 + 1) (And.intro rfl (And.intro rfl (And.intro (q₆_6) (And.intro (q₆_7) (And.intro (q₆_9) (And.intro (q₆_63) (And.intro (q₆_64) (And.intro (q₆_66) (And.intro (q₆_67) (And.intro (rfl) (hO₂₁.pick [0, 1, 2] rfl (by decide))))))))))))))
          · refine W_cF (t := (decide (x8 < (x1.length : Int)))) rfl b₈ ?_
            refine W_ex ?_
            refine then_e ?_
            have hp := Option.some.inj hp; subst hp
            refine (Or.inr (Exists.intro l4 (And.intro rfl (And.intro (fun h => nomatch h) (fun he => ?_)))))
            subst he; exact (And.intro rfl (And.intro (q₆_6) (And.intro (q₆_7) (And.intro (q₆_9) (And.intro (q₆_63) (And.intro (q₆_64) (hO₁₇.pick [0, 1, 2] rfl (by decide))))))))
        intro e₃ q₅ k₁₅ hJ₃
        obtain ⟨l5, rfl⟩ : ∃ x, x = o₅ := ⟨_, rfl⟩
        obtain ⟨rfl, q₅_6, q₅_7, q₅_9, q₅_63, q₅_64, hO₁₆⟩ := hJ₃
        refine blk_i ?_
        refine blk_n ?_
        refine then_n ?_
        refine W_rg ?_
        obtain ⟨c₁₁, hp⟩ := ck_some hp
        refine WO_v (a_add (a := x7) (b := 1) q₅_64 rfl c₁₁) ?_
        refine WO_v (a_mv (v := .i .i64 (x7 + 1)) rfl) ?_
        refine WO_end ?_
        have hp := Option.some.inj hp; subst hp
        exact (Or.inl (Exists.intro (l5, x7 + 1) (And.intro rfl (And.intro rfl (And.intro (q₅_6) (And.intro (q₅_7) (And.intro (q₅_9) (And.intro (q₅_63) (And.intro (rfl) (hO₁₆.pick [0, 1, 2] rfl (by decide)))))))))))
      · refine W_cF (t := (decide (x7 < x))) rfl b₇ ?_
        refine W_ex ?_
        refine then_e ?_
        have hp := Option.some.inj hp; subst hp
        refine (Or.inr (Exists.intro l2 (And.intro rfl (And.intro (fun h => nomatch h) (fun he => ?_)))))
        subst he; exact (And.intro rfl (And.intro (q₄_7) (And.intro (q₄_9) (hO₁₅.pick [1, 2] rfl (by decide)))))
    intro e₂ q₃ k₁₃ hJ₂
    obtain ⟨l3, rfl⟩ : ∃ x, x = o₃ := ⟨_, rfl⟩
    obtain ⟨rfl, q₃_7, q₃_9, hO₁₄⟩ := hJ₂
    refine blk_i ?_
    refine then_n ?_
    refine W_sq ?_
    refine W_sq ?_
    refine W_rg ?_
    refine WO_v (a_mv (v := v₄) q₃_9) ?_
    refine WO_v (a_len (hO₁₄.sl 1 rfl : Sl eInt k₁₃ v₄ l3) rfl) ?_
    refine WO_v (a_mv (v := .i .i64 0) rfl) ?_
    refine WO_end ?_
    refine then_n ?_
    refine W_bl ?_
    obtain ⟨o₇, ho₄, hp⟩ := bd_some hp
    refine W.mono (Q := fun e fr k => match (generalizing := false) o₇ with
        | .inl _ => e = (.exit 6) ∧ fr 7 = v₂ ∧ fr 9 = v₄ ∧ Own B h k [eSl eInt v₂ x2, eSl eInt v₄ l3]
        | .inr _ => e = .ret ∧ fr 4 = .b false ∧ Own B h k []) ?_ ?_
    · clear hp
      refine W_loopF (fun st fr k => match st with | x9 => fr 7 = v₂ ∧ fr 9 = v₄ ∧ fr 91 = .i .i64 (l3.length : Int) ∧ fr 92 = .i .i64 x9 ∧ Own B h k [eSl eInt v₂ x2, eSl eInt v₄ l3]) ho₄ (s := 0) (And.intro (q₃_7) (And.intro (q₃_9) (And.intro (rfl) (And.intro (rfl) (hO₁₄.pick [0, 1] rfl (by decide)))))) ?_
      rintro x9 q₈ k₂₂ ⟨q₈_7, q₈_9, q₈_91, q₈_92, hO₂₃⟩ o₈ hp
      dsimp only [p_muntinlaw04_LayerLeast.s3] at hp
      refine W_sq ?_
      refine W_rg ?_
      refine WO_v (a_lss (a := x9) (b := (l3.length : Int)) q₈_92 q₈_91) ?_
      refine WO_end ?_
      refine then_n ?_
      refine W_sq ?_
      rcases if_some hp with ⟨b₉, hp⟩ | ⟨b₉, hp⟩
      · refine W_cT (t := (decide (x9 < (l3.length : Int)))) rfl b₉ ?_
        refine W_sk ?_
        refine then_n ?_
        refine W_sq ?_
        refine W_bl ?_
        refine W_sq ?_
        refine W_rg ?_
        refine WO_v (a_mv (v := .i .i64 x9) q₈_92) ?_
        refine WO_v (a_mv (v := .i .i64 x9) rfl) ?_
        refine WO_end ?_
        refine then_n ?_
        refine W_sq ?_
        refine W_qd ?_
        have hW := hO₂₃.bump 9
        have hO₂₄ : Own B h (k₂₂.bump 9) [eSl eInt v₂ x2, eSl eInt v₄ l3] := hW
        refine WQ_v rfl (a_mv (v := v₄) q₈_9) ?_
        refine WQ_v rfl (a_mv (v := .i .i64 x9) rfl) ?_
        obtain ⟨c₁₂, hp⟩ := ck_some hp
        refine WQ_v rfl (a_ixa (E := eInt) (z := x9) (hO₂₄.sl 1 rfl : Sl eInt (k₂₂.bump 9) v₄ l3) rfl rfl c₁₂) ?_
        refine WQ_v rfl (a_ldE (w := .i .i64 (gi l3 (x9 : Int).toNat)) (hO₂₄.sl 1 rfl : Sl eInt (k₂₂.bump 9) v₄ l3) rfl (toNat_lt c₁₂) rfl) ?_
        refine WQ_v rfl (a_mv (v := v₂) q₈_7) ?_
        refine WQ_v rfl (a_mv (v := .i .i64 x9) rfl) ?_
        obtain ⟨c₁₃, hp⟩ := ck_some hp
        refine WQ_v rfl (a_ixa (E := eInt) (z := x9) (hO₂₄.sl 0 rfl : Sl eInt (k₂₂.bump 9) v₂ x2) rfl rfl c₁₃) ?_
        refine WQ_v rfl (a_ldE (w := .i .i64 (gi x2 (x9 : Int).toNat)) (hO₂₄.sl 0 rfl : Sl eInt (k₂₂.bump 9) v₂ x2) rfl (toNat_lt c₁₃) rfl) ?_
        refine WQ_v rfl (a_lss (a := (gi l3 (x9 : Int).toNat)) (b := (gi x2 (x9 : Int).toNat)) rfl rfl) ?_
        refine WQ_end ?_
        refine then_n ?_
        rcases if_some hp with ⟨b₁₀, hp⟩ | ⟨b₁₀, hp⟩
        · refine W_cT (t := (decide ((gi l3 (x9 : Int).toNat) < (gi x2 (x9 : Int).toNat)))) rfl b₁₀ ?_
          refine W_sq ?_
          refine W_rg ?_
          refine WO_v (a_mv (v := .b false) rfl) ?_
          refine WO_end ?_
          refine then_n ?_
          refine W_rt ?_
          refine blk_r ?_
          refine then_r ?_
          have hp := Option.some.inj hp; subst hp
          refine (Or.inr (Exists.intro (.inr ()) (And.intro rfl (And.intro (fun h => nomatch h) (fun he => ?_)))))
          subst he; exact (And.intro rfl (And.intro (rfl) (hO₂₄.pick [] rfl (by decide))))
        · refine W_cF (t := (decide ((gi l3 (x9 : Int).toNat) < (gi x2 (x9 : Int).toNat)))) rfl b₁₀ ?_
          refine W_sk ?_
          refine blk_n ?_
          refine then_n ?_
          refine W_rg ?_
          obtain ⟨c₁₄, hp⟩ := ck_some hp
          refine WO_v (a_add (a := x9) (b := 1) q₈_92 rfl c₁₄) ?_
          refine WO_v (a_mv (v := .i .i64 (x9 + 1)) rfl) ?_
          refine WO_end ?_
          have hp := Option.some.inj hp; subst hp
          exact (Or.inl (Exists.intro (x9 + 1) (And.intro rfl (And.intro rfl (And.intro (q₈_7) (And.intro (q₈_9) (And.intro (q₈_91) (And.intro (rfl) (hO₂₄.pick [0, 1] rfl (by decide))))))))))
      · refine W_cF (t := (decide (x9 < (l3.length : Int)))) rfl b₉ ?_
        refine W_ex ?_
        refine then_e ?_
        have hp := Option.some.inj hp; subst hp
        refine (Or.inr (Exists.intro (.inl ()) (And.intro rfl (And.intro (fun h => nomatch h) (fun he => ?_)))))
        subst he; exact (And.intro rfl (And.intro (q₈_7) (And.intro (q₈_9) (hO₂₃.pick [0, 1] rfl (by decide)))))
    intro e₄ q₇ k₂₁ hJ₄
    rcases o₇ with _ | _
    · obtain ⟨rfl, q₇_7, q₇_9, hO₂₂⟩ := hJ₄
      refine blk_i ?_
      refine then_n ?_
      refine W_sq ?_
      refine W_rg ?_
      refine WO_v (a_mv (v := v₄) q₇_9) ?_
      obtain ⟨x10, hx₅, hp⟩ := bd_some hp
      obtain ⟨u₅, k₂₄, ca₅, rfl, hW₅⟩ := p_layer_Span.ok (h := k₂₁)  (hO₂₂.sl 1 rfl : Sl eInt k₂₁ v₄ l3) hx₅
      refine WO_c (id := 41) (caps := []) rfl (mp_cons (v := v₄) rfl mp_nil) ca₅ ?_
      have hO₂₅ : Own B h k₂₄ [eSl eInt v₂ x2, eSl eInt v₄ l3] := hO₂₂.call hW₅ rfl
      refine WO_v (a_mv (v := v₂) q₇_7) ?_
      obtain ⟨x11, hx₆, hp⟩ := bd_some hp
      obtain ⟨u₆, k₂₅, ca₆, rfl, hW₆⟩ := p_layer_Span.ok (h := k₂₄)  (hO₂₅.sl 0 rfl : Sl eInt k₂₄ v₂ x2) hx₆
      refine WO_c (id := 41) (caps := []) rfl (mp_cons (v := v₂) rfl mp_nil) ca₆ ?_
      have hO₂₆ : Own B h k₂₅ [eSl eInt v₂ x2, eSl eInt v₄ l3] := hO₂₅.call hW₆ rfl
      refine WO_v (a_geq (a := x10) (b := x11) rfl rfl) ?_
      refine WO_v (a_mv (v := .b (decide (x11 ≤ x10))) rfl) ?_
      refine WO_end ?_
      refine then_n ?_
      refine W_rt ?_
      refine Ret_r (rs_t (n := 4) (v := .b (decide (x11 ≤ x10))) rfl rs_nil) ?_
      have hp := Option.some.inj hp; subst hp
      exact (And.intro rfl (hO₂₆.pick [] rfl (by decide)))
    · obtain ⟨rfl, q₇_4, hO₂₂⟩ := hJ₄
      refine blk_r ?_
      refine then_r ?_
      refine Ret_r (rs_t (n := 4) (v := .b false) q₇_4 rs_nil) ?_
      have hp := Option.some.inj hp; subst hp
      exact (And.intro rfl (hO₂₂.pick [] rfl (by decide)))

end Mu
