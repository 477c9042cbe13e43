/- The code comes to what was worked out. -/
import Derived.Test.YtofdeafffbkgbaaMuDf
import Derived.Test.YtofdeafffbkgbaaMuPa
set_option linter.unusedVariables false
set_option linter.unnecessarySimpa false
set_option linter.unusedSimpArgs false
set_option maxHeartbeats 2000000
set_option maxRecDepth 10000
namespace Mu
open Go (IntKind BinOp UnOp)
theorem ld_T_api_Cell_Next {x : T_api_Cell} {i : Int} (h : 0 ≤ i ∧ i < 4) : (e_T_api_Cell.c x)[0 + i.toNat * 1]? = some (.i .i64 ((x.Next).get i)) := by
  rcases (show i = 0 ∨ i = 1 ∨ i = 2 ∨ i = 3 by omega) with rfl | rfl | rfl | rfl <;> rfl
theorem st_T_api_Cell_Next {x : T_api_Cell} {i : Int} {w : Int} (h : 0 ≤ i ∧ i < 4) : over (e_T_api_Cell.c x) (0 + i.toNat * 1) [.i .i64 w] = e_T_api_Cell.c ({ x with Next := (x.Next).set i w }) := by
  rcases (show i = 0 ∨ i = 1 ∨ i = 2 ∨ i = 3 by omega) with rfl | rfl | rfl | rfl <;> rfl
theorem ld_T_api_Cell_Owner {x : T_api_Cell} {i : Int} (h : 0 ≤ i ∧ i < 4) : (e_T_api_Cell.c x)[4 + i.toNat * 1]? = some (.i .i64 ((x.Owner).get i)) := by
  rcases (show i = 0 ∨ i = 1 ∨ i = 2 ∨ i = 3 by omega) with rfl | rfl | rfl | rfl <;> rfl
theorem st_T_api_Cell_Owner {x : T_api_Cell} {i : Int} {w : Int} (h : 0 ≤ i ∧ i < 4) : over (e_T_api_Cell.c x) (4 + i.toNat * 1) [.i .i64 w] = e_T_api_Cell.c ({ x with Owner := (x.Owner).set i w }) := by
  rcases (show i = 0 ∨ i = 1 ∨ i = 2 ∨ i = 3 by omega) with rfl | rfl | rfl | rfl <;> rfl
theorem p_grid_Grid_Len_nil0.ok {h : Hp}    {r : Int} (hp : p_grid_Grid_Len_nil0  = some r) :
    ∃ u k', Is G 55 [.pn] h u k' ∧ V.i .i64 r = u ∧ Own (fun r => r < h.n) h k' [] := by
  refine WC.is (WC_of G_F_grid_Grid_Len ?_)
  unfold p_grid_Grid_Len_nil0 at hp
  let B : Nat → Prop := (fun r => r < h.n)
  have hO : Own B h h [] := Own.start0 h
  refine W_sq ?_
  refine W_rg ?_
  refine WO_v (a_mv (v := .i .i64 0) rfl) ?_
  refine WO_end ?_
  refine then_n ?_
  refine W_sq ?_
  refine W_sq ?_
  refine W_rg ?_
  refine WO_v (a_mv (v := .pn) rfl) ?_
  refine WO_v (a_eqPn rfl rfl) ?_
  refine WO_end ?_
  refine then_n ?_
  refine W_cT (t := true) rfl rfl ?_
  refine W_sq ?_
  refine W_rg ?_
  refine WO_v (a_mv (v := .i .i64 0) rfl) ?_
  refine WO_end ?_
  refine then_n ?_
  refine W_rt ?_
  refine then_r ?_
  refine Ret_r (rs_t (n := 2) (v := .i .i64 0) rfl rs_nil) ?_
  have hp := Option.some.inj hp; subst hp
  exact (And.intro rfl (hO.pick [] rfl (by decide)))

theorem p_compass_Good.ok {h : Hp} {d : Int}   {r : Bool} (hp : p_compass_Good d = some r) :
    ∃ u k', Is G 90 [.i .i64 d] h u k' ∧ V.b r = u ∧ Own (fun r => r < h.n) h k' [] := by
  refine WC.is (WC_of G_F_compass_Good ?_)
  unfold p_compass_Good at hp
  let B : Nat → Prop := (fun r => r < h.n)
  have hO : Own B h h [] := Own.start0 h
  refine W_sq ?_
  refine W_rg ?_
  refine WO_v (a_mv (v := .b false) rfl) ?_
  refine WO_end ?_
  refine then_n ?_
  refine W_sq ?_
  refine W_rg ?_
  refine WO_v (a_mv (v := .i .i64 d) rfl) ?_
  refine WO_v (a_geq (a := d) (b := 0) rfl rfl) ?_
  refine WO_v (a_mv (v := .b (decide (0 ≤ d))) rfl) ?_
  refine WO_cut 3 (fun fr' k' => h = k' ∧ fr' 8 = .b ((decide (0 ≤ d)) && (decide (d ≤ 3)))) ?_ ?_
  · rcases bc (decide (0 ≤ d)) with b₁ | b₁
    · skip
      refine WO_on rfl b₁ ?_
      refine WO_v (a_mv (v := .i .i64 d) rfl) ?_
      refine WO_on rfl b₁ ?_
      refine WO_v (a_leq (a := d) (b := 3) rfl rfl) ?_
      refine WO_v (a_pickT (t := (decide (0 ≤ d))) (v := .b ((decide (0 ≤ d)) && (decide (d ≤ 3)))) rfl b₁ (Eq.trans (b := V.b (decide (d ≤ 3))) rfl (and_on b₁))) ?_
      refine WO_end ?_
      exact ⟨rfl, rfl⟩
    · skip
      refine WO_off rfl b₁ ?_
      refine WO_off rfl b₁ ?_
      refine WO_v (a_pickF (t := (decide (0 ≤ d))) (v := .b ((decide (0 ≤ d)) && (decide (d ≤ 3)))) rfl b₁ (Eq.trans (b := V.b false) rfl (and_off b₁))) ?_
      refine WO_end ?_
      exact ⟨rfl, rfl⟩
  rintro frg₁ _ ⟨rfl, g₁_8⟩
  refine WO_v (a_mv (v := .b ((decide (0 ≤ d)) && (decide (d ≤ 3)))) g₁_8) ?_
  refine WO_end ?_
  refine then_n ?_
  refine W_rt ?_
  refine Ret_r (rs_t (n := 2) (v := .b ((decide (0 ≤ d)) && (decide (d ≤ 3)))) rfl rs_nil) ?_
  have hp := Option.some.inj hp; subst hp
  exact (And.intro rfl (hO.pick [] rfl (by decide)))

theorem p_grid_Grid_is_nil0.ok {h : Hp} {v : Int} {d : Int}   {r : Bool} (hp : p_grid_Grid_is_nil0 v d = some r) :
    ∃ u k', Is G 75 [.pn, .i .i64 v, .i .i64 d] h u k' ∧ V.b r = u ∧ Own (fun r => r < h.n) h k' [] := by
  refine WC.is (WC_of G_F_grid_Grid_is ?_)
  unfold p_grid_Grid_is_nil0 at hp
  let B : Nat → Prop := (fun r => r < h.n)
  have hO : Own B h h [] := Own.start0 h
  refine W_sq ?_
  refine W_rg ?_
  refine WO_v (a_mv (v := .b false) rfl) ?_
  refine WO_end ?_
  refine then_n ?_
  refine W_sq ?_
  refine W_rg ?_
  refine WO_v (a_mv (v := .i .i64 v) rfl) ?_
  refine WO_v (a_geq (a := v) (b := 0) rfl rfl) ?_
  refine WO_v (a_mv (v := .b (decide (0 ≤ v))) rfl) ?_
  obtain ⟨t, hv₁, hp⟩ := bd_some hp
  refine WO_cut 5 (fun fr' k' => Own B h k' [] ∧ fr' 14 = .b t ∧ fr' 2 = .i .i64 d) ?_ ?_
  · clear hp; rcases if_some hv₁ with ⟨b₁, hp⟩ | ⟨b₁, hp⟩
    · skip
      refine WO_on rfl b₁ ?_
      refine WO_v (a_mv (v := .i .i64 v) rfl) ?_
      refine WO_on rfl b₁ ?_
      refine WO_v (a_mv (v := .pn) rfl) ?_
      refine WO_on rfl b₁ ?_
      obtain ⟨x, hx₁, hp⟩ := bd_some hp
      obtain ⟨u₁, k₁, ca₁, rfl, hW₁⟩ := p_grid_Grid_Len_nil0.ok (h := h)   hx₁
      refine WO_c (id := 55) (caps := []) rfl (mp_cons (v := .pn) rfl mp_nil) ca₁ ?_
      have hO₁ : Own B h k₁ [] := hO.call hW₁ rfl
      refine WO_on rfl b₁ ?_
      refine WO_v (a_lss (a := v) (b := x) rfl rfl) ?_
      refine WO_v (a_pickT (t := (decide (0 ≤ v))) (v := .b t) rfl b₁ (Eq.trans (b := V.b (decide (v < x))) rfl (congrArg V.b (Option.some.inj hp)))) ?_
      refine WO_end ?_
      exact ⟨hO₁.pick [] rfl (by decide), rfl, rfl⟩
    · skip
      refine WO_off rfl b₁ ?_
      refine WO_off rfl b₁ ?_
      refine WO_off rfl b₁ ?_
      refine WO_off rfl b₁ ?_
      refine WO_v (a_pickF (t := (decide (0 ≤ v))) (v := .b t) rfl b₁ (Eq.trans (b := V.b false) rfl (congrArg V.b (Option.some.inj hp)))) ?_
      refine WO_end ?_
      exact ⟨hO.pick [] rfl (by decide), rfl, rfl⟩
  rintro frg₁ k₂ ⟨hO₂, g₁_14, g₁_2⟩
  refine WO_v (a_mv (v := .b t) g₁_14) ?_
  obtain ⟨t1, hv₂, hp⟩ := bd_some hp
  refine WO_cut 3 (fun fr' k' => Own B h k' [] ∧ fr' 18 = .b t1) ?_ ?_
  · clear hp; rcases if_some hv₂ with ⟨b₂, hp⟩ | ⟨b₂, hp⟩
    · skip
      refine WO_on rfl b₂ ?_
      refine WO_v (a_mv (v := .i .i64 d) g₁_2) ?_
      refine WO_on rfl b₂ ?_
      obtain ⟨x1, hx₂, hp⟩ := bd_some hp
      obtain ⟨u₂, k₃, ca₂, rfl, hW₂⟩ := p_compass_Good.ok (h := k₂)   hx₂
      refine WO_c (id := 90) (caps := []) rfl (mp_cons (v := .i .i64 d) rfl mp_nil) ca₂ ?_
      have hO₃ : Own B h k₃ [] := hO₂.call hW₂ rfl
      refine WO_v (a_pickT (t := t) (v := .b t1) rfl b₂ (Eq.trans (b := V.b x1) rfl (congrArg V.b (Option.some.inj hp)))) ?_
      refine WO_end ?_
      exact ⟨hO₃.pick [] rfl (by decide), rfl⟩
    · skip
      refine WO_off rfl b₂ ?_
      refine WO_off rfl b₂ ?_
      refine WO_v (a_pickF (t := t) (v := .b t1) rfl b₂ (Eq.trans (b := V.b false) rfl (congrArg V.b (Option.some.inj hp)))) ?_
      refine WO_end ?_
      exact ⟨hO₂.pick [] rfl (by decide), rfl⟩
  rintro frg₂ k₄ ⟨hO₄, g₂_18⟩
  refine WO_v (a_mv (v := .b t1) g₂_18) ?_
  refine WO_end ?_
  refine then_n ?_
  refine W_rt ?_
  refine Ret_r (rs_t (n := 6) (v := .b t1) rfl rs_nil) ?_
  have hp := Option.some.inj hp; subst hp
  exact (And.intro rfl (hO₄.pick [] rfl (by decide)))

theorem p_grid_Grid_Next_nil0.ok {h : Hp} {v : Int} {d : Int}   {r : Int × Int × Bool} (hp : p_grid_Grid_Next_nil0 v d = some r) :
    ∃ u k', Is G 54 [.pn, .i .i64 v, .i .i64 d] h u k' ∧ V.tu [.i .i64 r.1, .i .i64 r.2.1, .b r.2.2] = u ∧ Own (fun r => r < h.n) h k' [] := by
  refine WC.is (WC_of G_F_grid_Grid_Next ?_)
  unfold p_grid_Grid_Next_nil0 at hp
  let B : Nat → Prop := (fun r => r < h.n)
  have hO : Own B h h [] := Own.start0 h
  refine W_sq ?_
  refine W_rg ?_
  refine WO_v (a_mv (v := .i .i64 0) rfl) ?_
  refine WO_v (a_mv (v := .i .i64 0) rfl) ?_
  refine WO_v (a_mv (v := .b false) rfl) ?_
  refine WO_end ?_
  refine then_n ?_
  refine W_sq ?_
  refine W_sq ?_
  refine W_rg ?_
  refine WO_v (a_mv (v := .pn) rfl) ?_
  refine WO_v (a_mv (v := .i .i64 v) rfl) ?_
  refine WO_v (a_mv (v := .i .i64 d) rfl) ?_
  obtain ⟨x, hx₁, hp⟩ := bd_some hp
  obtain ⟨u₁, k₁, ca₁, rfl, hW₁⟩ := p_grid_Grid_is_nil0.ok (h := h)   hx₁
  refine WO_c (id := 75) (caps := []) rfl (mp_cons (v := .pn) rfl (mp_cons (v := .i .i64 v) rfl (mp_cons (v := .i .i64 d) rfl mp_nil))) ca₁ ?_
  have hO₁ : Own B h k₁ [] := hO.call hW₁ rfl
  refine WO_v (a_not (t := x) rfl) ?_
  refine WO_v (a_mv (v := .b (!x)) rfl) ?_
  obtain ⟨t, hv₁, hp⟩ := bd_some hp
  refine WO_cut 12 (fun fr' k' => k₁ = k' ∧ fr' 26 = .b t ∧ fr' 0 = .pn ∧ fr' 1 = .i .i64 v ∧ fr' 2 = .i .i64 d) ?_ ?_
  · clear hp; rcases if_some hv₁ with ⟨b₁, hp⟩ | ⟨b₁, hp⟩
    · skip
      refine WO_off rfl b₁ ?_
      refine WO_off rfl b₁ ?_
      refine WO_off rfl b₁ ?_
      refine WO_off rfl b₁ ?_
      refine WO_off rfl b₁ ?_
      refine WO_off rfl b₁ ?_
      refine WO_off rfl b₁ ?_
      refine WO_off rfl b₁ ?_
      refine WO_off rfl b₁ ?_
      refine WO_off rfl b₁ ?_
      refine WO_off rfl b₁ ?_
      refine WO_v (a_pickT (t := (!x)) (v := .b t) rfl b₁ (Eq.trans (b := V.b true) rfl (congrArg V.b (Option.some.inj hp)))) ?_
      refine WO_end ?_
      exact ⟨rfl, rfl, rfl, rfl, rfl⟩
    · skip
      refine WO_on rfl b₁ ?_
      refine WO_v (a_mv (v := .pn) rfl) ?_
      refine WO_on rfl b₁ ?_
      exact nomatch hp
  rintro frg₁ _ ⟨rfl, g₁_26, g₁_0, g₁_1, g₁_2⟩
  refine WO_end ?_
  refine then_n ?_
  rcases if_some hp with ⟨b₂, hp⟩ | ⟨b₂, hp⟩
  · refine W_cT (t := t) g₁_26 b₂ ?_
    refine W_sq ?_
    refine W_rg ?_
    refine WO_v (a_mv (v := .i .i64 0) rfl) ?_
    refine WO_v (a_mv (v := .i .i64 0) rfl) ?_
    refine WO_v (a_mv (v := .b false) rfl) ?_
    refine WO_end ?_
    refine then_n ?_
    refine W_rt ?_
    refine then_r ?_
    refine Ret_r (rs_t (n := 6) (v := .i .i64 0) rfl (rs_t (n := 7) (v := .i .i64 0) rfl (rs_t (n := 8) (v := .b false) rfl rs_nil))) ?_
    have hp := Option.some.inj hp; subst hp
    exact (And.intro rfl (hO₁.pick [] rfl (by decide)))
  · refine W_cF (t := t) g₁_26 b₂ ?_
    refine W_sk ?_
    refine then_n ?_
    refine W_sq ?_
    refine W_qd ?_
    have hW := hO₁.bump 23
    have hO₂ : Own B h (k₁.bump 23) [] := hW
    refine WQ_v rfl (a_mv (v := .pn) g₁_0) ?_
    exact nomatch hp

theorem p_grid_Grid_Add_nil0.ok {h : Hp}    {r : Int × Int} (hp : p_grid_Grid_Add_nil0  = some r) :
    ∃ u k', Is G 50 [.pn] h u k' ∧ V.tu [.i .i64 r.1, .i .i64 r.2] = u ∧ Own (fun r => r < h.n) h k' [] := by
  refine WC.is (WC_of G_F_grid_Grid_Add ?_)
  unfold p_grid_Grid_Add_nil0 at hp
  let B : Nat → Prop := (fun r => r < h.n)
  have hO : Own B h h [] := Own.start0 h
  refine W_sq ?_
  refine W_rg ?_
  refine WO_v (a_mv (v := .i .i64 0) rfl) ?_
  refine WO_v (a_mv (v := .i .i64 0) rfl) ?_
  refine WO_end ?_
  refine then_n ?_
  refine W_sq ?_
  refine W_bl ?_
  refine W_sq ?_
  refine W_rg ?_
  refine WO_v (a_mv (v := .pn) rfl) ?_
  refine WO_v (a_eqPn rfl rfl) ?_
  refine WO_v (a_mv (v := .b true) rfl) ?_
  refine WO_end ?_
  refine then_n ?_
  refine W_cT (t := true) rfl rfl ?_
  refine W_sq ?_
  refine W_rg ?_
  refine WO_v (a_mv (v := .i .i64 0) rfl) ?_
  refine WO_v (a_mv (v := .i .i64 1) rfl) ?_
  refine WO_end ?_
  refine then_n ?_
  refine W_rt ?_
  refine blk_r ?_
  refine then_r ?_
  refine Ret_r (rs_t (n := 2) (v := .i .i64 0) rfl (rs_t (n := 3) (v := .i .i64 1) rfl rs_nil)) ?_
  have hp := Option.some.inj hp; subst hp
  exact (And.intro rfl (hO.pick [] rfl (by decide)))

theorem p_grid_Grid_Split_nil0.ok {h : Hp} {v : Int} {d : Int}   {r : Int × Int} (hp : p_grid_Grid_Split_nil0 v d = some r) :
    ∃ u k', Is G 48 [.pn, .i .i64 v, .i .i64 d] h u k' ∧ V.tu [.i .i64 r.1, .i .i64 r.2] = u ∧ Own (fun r => r < h.n) h k' [] := by
  refine WC.is (WC_of G_F_grid_Grid_Split ?_)
  unfold p_grid_Grid_Split_nil0 at hp
  let B : Nat → Prop := (fun r => r < h.n)
  have hO : Own B h h [] := Own.start0 h
  refine W_sq ?_
  refine W_rg ?_
  refine WO_v (a_mv (v := .i .i64 0) rfl) ?_
  refine WO_v (a_mv (v := .i .i64 0) rfl) ?_
  refine WO_end ?_
  refine then_n ?_
  refine W_sq ?_
  refine W_bl ?_
  refine W_sq ?_
  refine W_rg ?_
  refine WO_v (a_mv (v := .pn) rfl) ?_
  refine WO_v (a_eqPn rfl rfl) ?_
  refine WO_v (a_mv (v := .b true) rfl) ?_
  refine WO_end ?_
  refine then_n ?_
  refine W_cT (t := true) rfl rfl ?_
  refine W_sq ?_
  refine W_rg ?_
  refine WO_v (a_mv (v := .i .i64 0) rfl) ?_
  refine WO_v (a_mv (v := .i .i64 1) rfl) ?_
  refine WO_end ?_
  refine then_n ?_
  refine W_rt ?_
  refine blk_r ?_
  refine then_r ?_
  refine Ret_r (rs_t (n := 6) (v := .i .i64 0) rfl (rs_t (n := 7) (v := .i .i64 1) rfl rs_nil)) ?_
  have hp := Option.some.inj hp; subst hp
  exact (And.intro rfl (hO.pick [] rfl (by decide)))

theorem p_grid_empty.ok {h : Hp}    {r : T_api_Cell} (hp : p_grid_empty  = some r) :
    ∃ u k', Is G 74 [] h u k' ∧ V.ag (e_T_api_Cell.c r) = u ∧ Own (fun r => r < h.n) h k' [] := by
  refine WC.is (WC_of G_F_grid_empty ?_)
  unfold p_grid_empty at hp
  let B : Nat → Prop := (fun r => r < h.n)
  have hO : Own B h h [] := Own.start0 h
  refine W_sq ?_
  refine W_rg ?_
  refine WO_x (hO.alloc (cs := e_T_api_Cell.c (⟨⟨0, 0, 0, 0⟩, ⟨0, 0, 0, 0⟩⟩ : T_api_Cell)) hO.fr) ?_
  rintro _ k₁ ⟨r₁, rfl, n₁, f₁, hW⟩
  have hO₁ : Own B h k₁ [eBox r₁ (e_T_api_Cell.c (⟨⟨0, 0, 0, 0⟩, ⟨0, 0, 0, 0⟩⟩ : T_api_Cell))] := hW
  refine WO_end ?_
  refine then_n ?_
  refine W_sq ?_
  refine W_rg ?_
  refine WO_v (a_build (cs := e_A4_i64.c (⟨(-1), (-1), (-1), (-1)⟩ : A4 Int)) (by rw [(ev_cons (v := .i .i64 (-1)) rfl (ev_cons (v := .i .i64 (-1)) rfl (ev_cons (v := .i .i64 (-1)) rfl (ev_cons (v := .i .i64 (-1)) rfl ev_nil))))]; rfl)) ?_
  refine WO_v (a_build (cs := e_T_api_Cell.c (⟨(⟨(-1), (-1), (-1), (-1)⟩ : A4 Int), (⟨0, 0, 0, 0⟩ : A4 Int)⟩ : T_api_Cell)) (by rw [(ev_cons (v := .ag (e_A4_i64.c (⟨(-1), (-1), (-1), (-1)⟩ : A4 Int))) rfl ev_nil)]; rfl)) ?_
  refine WO_x (hO₁.stb (ws := e_T_api_Cell.c (⟨(⟨(-1), (-1), (-1), (-1)⟩ : A4 Int), (⟨0, 0, 0, 0⟩ : A4 Int)⟩ : T_api_Cell)) (cs' := e_T_api_Cell.c (⟨(⟨(-1), (-1), (-1), (-1)⟩ : A4 Int), (⟨0, 0, 0, 0⟩ : A4 Int)⟩ : T_api_Cell)) (v := .ag (e_T_api_Cell.c (⟨(⟨(-1), (-1), (-1), (-1)⟩ : A4 Int), (⟨0, 0, 0, 0⟩ : A4 Int)⟩ : T_api_Cell))) 0 rfl rfl rfl rfl ⟨rfl, Nat.le_of_ble_eq_true rfl, rfl⟩ rfl) ?_
  rintro _ k₂ ⟨rfl, f₂, m₁, hW⟩
  have hO₂ : Own B h k₂ [eBox r₁ (e_T_api_Cell.c (⟨(⟨(-1), (-1), (-1), (-1)⟩ : A4 Int), (⟨0, 0, 0, 0⟩ : A4 Int)⟩ : T_api_Cell))] := hW
  refine WO_end ?_
  refine then_n ?_
  refine W_rt ?_
  refine Ret_r (rs_c (n := 0) (v := .ag (e_T_api_Cell.c (⟨(⟨(-1), (-1), (-1), (-1)⟩ : A4 Int), (⟨0, 0, 0, 0⟩ : A4 Int)⟩ : T_api_Cell))) (r := r₁) rfl (hO₂.box 0 rfl) rfl rs_nil) ?_
  have hp := Option.some.inj hp; subst hp
  exact (And.intro rfl (hO₂.pick [] rfl (by decide)))

theorem p_bits_Mul64.ok {h : Hp} {x : Int} {y : Int}   {r : Int × Int} (hp : p_bits_Mul64 x y = some r) :
    ∃ u k', Is G 98 [.i .u64 x, .i .u64 y] h u k' ∧ V.tu [.i .u64 r.1, .i .u64 r.2] = u ∧ Own (fun r => r < h.n) h k' [] := by
  refine WC.is (WC_of G_F_bits_Mul64 ?_)
  unfold p_bits_Mul64 at hp
  let B : Nat → Prop := (fun r => r < h.n)
  have hO : Own B h h [] := Own.start0 h
  refine W_sq ?_
  refine W_rg ?_
  refine WO_v (a_mv (v := .i .u64 0) rfl) ?_
  refine WO_v (a_mv (v := .i .u64 0) rfl) ?_
  refine WO_end ?_
  refine then_n ?_
  refine W_sq ?_
  refine W_rg ?_
  refine WO_v (a_mv (v := .i .u64 x) rfl) ?_
  refine WO_v (a_ari (a := x) (b := 4294967295) (v := .i .u64 (ari_and .u64 x 4294967295)) rfl rfl (by decide) rfl) ?_
  refine WO_v (a_mv (v := .i .u64 (ari_and .u64 x 4294967295)) rfl) ?_
  refine WO_end ?_
  refine then_n ?_
  refine W_sq ?_
  refine W_rg ?_
  refine WO_v (a_mv (v := .i .u64 x) rfl) ?_
  refine WO_v (a_shift (a := x) (b := 32) (v := .i .u64 (sh_shr .u64 x 32)) rfl rfl (by decide) (sh_shr_ok (by decide))) ?_
  refine WO_v (a_mv (v := .i .u64 (sh_shr .u64 x 32)) rfl) ?_
  refine WO_end ?_
  refine then_n ?_
  refine W_sq ?_
  refine W_rg ?_
  refine WO_v (a_mv (v := .i .u64 y) rfl) ?_
  refine WO_v (a_ari (a := y) (b := 4294967295) (v := .i .u64 (ari_and .u64 y 4294967295)) rfl rfl (by decide) rfl) ?_
  refine WO_v (a_mv (v := .i .u64 (ari_and .u64 y 4294967295)) rfl) ?_
  refine WO_end ?_
  refine then_n ?_
  refine W_sq ?_
  refine W_rg ?_
  refine WO_v (a_mv (v := .i .u64 y) rfl) ?_
  refine WO_v (a_shift (a := y) (b := 32) (v := .i .u64 (sh_shr .u64 y 32)) rfl rfl (by decide) (sh_shr_ok (by decide))) ?_
  refine WO_v (a_mv (v := .i .u64 (sh_shr .u64 y 32)) rfl) ?_
  refine WO_end ?_
  refine then_n ?_
  refine W_sq ?_
  refine W_rg ?_
  refine WO_v (a_mv (v := .i .u64 (ari_and .u64 x 4294967295)) rfl) ?_
  refine WO_v (a_mv (v := .i .u64 (ari_and .u64 y 4294967295)) rfl) ?_
  refine WO_v (a_ari (a := (ari_and .u64 x 4294967295)) (b := (ari_and .u64 y 4294967295)) (v := .i .u64 (ari_mul .u64 (ari_and .u64 x 4294967295) (ari_and .u64 y 4294967295))) rfl rfl (by decide) rfl) ?_
  refine WO_v (a_mv (v := .i .u64 (ari_mul .u64 (ari_and .u64 x 4294967295) (ari_and .u64 y 4294967295))) rfl) ?_
  refine WO_end ?_
  refine then_n ?_
  refine W_sq ?_
  refine W_rg ?_
  refine WO_v (a_mv (v := .i .u64 (sh_shr .u64 x 32)) rfl) ?_
  refine WO_v (a_mv (v := .i .u64 (ari_and .u64 y 4294967295)) rfl) ?_
  refine WO_v (a_ari (a := (sh_shr .u64 x 32)) (b := (ari_and .u64 y 4294967295)) (v := .i .u64 (ari_mul .u64 (sh_shr .u64 x 32) (ari_and .u64 y 4294967295))) rfl rfl (by decide) rfl) ?_
  refine WO_v (a_mv (v := .i .u64 (ari_mul .u64 (ari_and .u64 x 4294967295) (ari_and .u64 y 4294967295))) rfl) ?_
  refine WO_v (a_shift (a := (ari_mul .u64 (ari_and .u64 x 4294967295) (ari_and .u64 y 4294967295))) (b := 32) (v := .i .u64 (sh_shr .u64 (ari_mul .u64 (ari_and .u64 x 4294967295) (ari_and .u64 y 4294967295)) 32)) rfl rfl (by decide) (sh_shr_ok (by decide))) ?_
  refine WO_v (a_ari (a := (ari_mul .u64 (sh_shr .u64 x 32) (ari_and .u64 y 4294967295))) (b := (sh_shr .u64 (ari_mul .u64 (ari_and .u64 x 4294967295) (ari_and .u64 y 4294967295)) 32)) (v := .i .u64 (ari_add .u64 (ari_mul .u64 (sh_shr .u64 x 32) (ari_and .u64 y 4294967295)) (sh_shr .u64 (ari_mul .u64 (ari_and .u64 x 4294967295) (ari_and .u64 y 4294967295)) 32))) rfl rfl (by decide) rfl) ?_
  refine WO_v (a_mv (v := .i .u64 (ari_add .u64 (ari_mul .u64 (sh_shr .u64 x 32) (ari_and .u64 y 4294967295)) (sh_shr .u64 (ari_mul .u64 (ari_and .u64 x 4294967295) (ari_and .u64 y 4294967295)) 32))) rfl) ?_
  refine WO_end ?_
  refine then_n ?_
  refine W_sq ?_
  refine W_rg ?_
  refine WO_v (a_mv (v := .i .u64 (ari_add .u64 (ari_mul .u64 (sh_shr .u64 x 32) (ari_and .u64 y 4294967295)) (sh_shr .u64 (ari_mul .u64 (ari_and .u64 x 4294967295) (ari_and .u64 y 4294967295)) 32))) rfl) ?_
  refine WO_v (a_ari (a := (ari_add .u64 (ari_mul .u64 (sh_shr .u64 x 32) (ari_and .u64 y 4294967295)) (sh_shr .u64 (ari_mul .u64 (ari_and .u64 x 4294967295) (ari_and .u64 y 4294967295)) 32))) (b := 4294967295) (v := .i .u64 (ari_and .u64 (ari_add .u64 (ari_mul .u64 (sh_shr .u64 x 32) (ari_and .u64 y 4294967295)) (sh_shr .u64 (ari_mul .u64 (ari_and .u64 x 4294967295) (ari_and .u64 y 4294967295)) 32)) 4294967295)) rfl rfl (by decide) rfl) ?_
  refine WO_v (a_mv (v := .i .u64 (ari_and .u64 (ari_add .u64 (ari_mul .u64 (sh_shr .u64 x 32) (ari_and .u64 y 4294967295)) (sh_shr .u64 (ari_mul .u64 (ari_and .u64 x 4294967295) (ari_and .u64 y 4294967295)) 32)) 4294967295)) rfl) ?_
  refine WO_end ?_
  refine then_n ?_
  refine W_sq ?_
  refine W_rg ?_
  refine WO_v (a_mv (v := .i .u64 (ari_add .u64 (ari_mul .u64 (sh_shr .u64 x 32) (ari_and .u64 y 4294967295)) (sh_shr .u64 (ari_mul .u64 (ari_and .u64 x 4294967295) (ari_and .u64 y 4294967295)) 32))) rfl) ?_
  refine WO_v (a_shift (a := (ari_add .u64 (ari_mul .u64 (sh_shr .u64 x 32) (ari_and .u64 y 4294967295)) (sh_shr .u64 (ari_mul .u64 (ari_and .u64 x 4294967295) (ari_and .u64 y 4294967295)) 32))) (b := 32) (v := .i .u64 (sh_shr .u64 (ari_add .u64 (ari_mul .u64 (sh_shr .u64 x 32) (ari_and .u64 y 4294967295)) (sh_shr .u64 (ari_mul .u64 (ari_and .u64 x 4294967295) (ari_and .u64 y 4294967295)) 32)) 32)) rfl rfl (by decide) (sh_shr_ok (by decide))) ?_
  refine WO_v (a_mv (v := .i .u64 (sh_shr .u64 (ari_add .u64 (ari_mul .u64 (sh_shr .u64 x 32) (ari_and .u64 y 4294967295)) (sh_shr .u64 (ari_mul .u64 (ari_and .u64 x 4294967295) (ari_and .u64 y 4294967295)) 32)) 32)) rfl) ?_
  refine WO_end ?_
  refine then_n ?_
  refine W_sq ?_
  refine W_rg ?_
  refine WO_v (a_mv (v := .i .u64 (ari_and .u64 (ari_add .u64 (ari_mul .u64 (sh_shr .u64 x 32) (ari_and .u64 y 4294967295)) (sh_shr .u64 (ari_mul .u64 (ari_and .u64 x 4294967295) (ari_and .u64 y 4294967295)) 32)) 4294967295)) rfl) ?_
  refine WO_v (a_mv (v := .i .u64 (ari_and .u64 x 4294967295)) rfl) ?_
  refine WO_v (a_mv (v := .i .u64 (sh_shr .u64 y 32)) rfl) ?_
  refine WO_v (a_ari (a := (ari_and .u64 x 4294967295)) (b := (sh_shr .u64 y 32)) (v := .i .u64 (ari_mul .u64 (ari_and .u64 x 4294967295) (sh_shr .u64 y 32))) rfl rfl (by decide) rfl) ?_
  refine WO_v (a_ari (a := (ari_and .u64 (ari_add .u64 (ari_mul .u64 (sh_shr .u64 x 32) (ari_and .u64 y 4294967295)) (sh_shr .u64 (ari_mul .u64 (ari_and .u64 x 4294967295) (ari_and .u64 y 4294967295)) 32)) 4294967295)) (b := (ari_mul .u64 (ari_and .u64 x 4294967295) (sh_shr .u64 y 32))) (v := .i .u64 (ari_add .u64 (ari_and .u64 (ari_add .u64 (ari_mul .u64 (sh_shr .u64 x 32) (ari_and .u64 y 4294967295)) (sh_shr .u64 (ari_mul .u64 (ari_and .u64 x 4294967295) (ari_and .u64 y 4294967295)) 32)) 4294967295) (ari_mul .u64 (ari_and .u64 x 4294967295) (sh_shr .u64 y 32)))) rfl rfl (by decide) rfl) ?_
  refine WO_v (a_mv (v := .i .u64 (ari_add .u64 (ari_and .u64 (ari_add .u64 (ari_mul .u64 (sh_shr .u64 x 32) (ari_and .u64 y 4294967295)) (sh_shr .u64 (ari_mul .u64 (ari_and .u64 x 4294967295) (ari_and .u64 y 4294967295)) 32)) 4294967295) (ari_mul .u64 (ari_and .u64 x 4294967295) (sh_shr .u64 y 32)))) rfl) ?_
  refine WO_end ?_
  refine then_n ?_
  refine W_sq ?_
  refine W_rg ?_
  refine WO_v (a_mv (v := .i .u64 (sh_shr .u64 x 32)) rfl) ?_
  refine WO_v (a_mv (v := .i .u64 (sh_shr .u64 y 32)) rfl) ?_
  refine WO_v (a_ari (a := (sh_shr .u64 x 32)) (b := (sh_shr .u64 y 32)) (v := .i .u64 (ari_mul .u64 (sh_shr .u64 x 32) (sh_shr .u64 y 32))) rfl rfl (by decide) rfl) ?_
  refine WO_v (a_mv (v := .i .u64 (sh_shr .u64 (ari_add .u64 (ari_mul .u64 (sh_shr .u64 x 32) (ari_and .u64 y 4294967295)) (sh_shr .u64 (ari_mul .u64 (ari_and .u64 x 4294967295) (ari_and .u64 y 4294967295)) 32)) 32)) rfl) ?_
  refine WO_v (a_ari (a := (ari_mul .u64 (sh_shr .u64 x 32) (sh_shr .u64 y 32))) (b := (sh_shr .u64 (ari_add .u64 (ari_mul .u64 (sh_shr .u64 x 32) (ari_and .u64 y 4294967295)) (sh_shr .u64 (ari_mul .u64 (ari_and .u64 x 4294967295) (ari_and .u64 y 4294967295)) 32)) 32)) (v := .i .u64 (ari_add .u64 (ari_mul .u64 (sh_shr .u64 x 32) (sh_shr .u64 y 32)) (sh_shr .u64 (ari_add .u64 (ari_mul .u64 (sh_shr .u64 x 32) (ari_and .u64 y 4294967295)) (sh_shr .u64 (ari_mul .u64 (ari_and .u64 x 4294967295) (ari_and .u64 y 4294967295)) 32)) 32))) rfl rfl (by decide) rfl) ?_
  refine WO_v (a_mv (v := .i .u64 (ari_add .u64 (ari_and .u64 (ari_add .u64 (ari_mul .u64 (sh_shr .u64 x 32) (ari_and .u64 y 4294967295)) (sh_shr .u64 (ari_mul .u64 (ari_and .u64 x 4294967295) (ari_and .u64 y 4294967295)) 32)) 4294967295) (ari_mul .u64 (ari_and .u64 x 4294967295) (sh_shr .u64 y 32)))) rfl) ?_
  refine WO_v (a_shift (a := (ari_add .u64 (ari_and .u64 (ari_add .u64 (ari_mul .u64 (sh_shr .u64 x 32) (ari_and .u64 y 4294967295)) (sh_shr .u64 (ari_mul .u64 (ari_and .u64 x 4294967295) (ari_and .u64 y 4294967295)) 32)) 4294967295) (ari_mul .u64 (ari_and .u64 x 4294967295) (sh_shr .u64 y 32)))) (b := 32) (v := .i .u64 (sh_shr .u64 (ari_add .u64 (ari_and .u64 (ari_add .u64 (ari_mul .u64 (sh_shr .u64 x 32) (ari_and .u64 y 4294967295)) (sh_shr .u64 (ari_mul .u64 (ari_and .u64 x 4294967295) (ari_and .u64 y 4294967295)) 32)) 4294967295) (ari_mul .u64 (ari_and .u64 x 4294967295) (sh_shr .u64 y 32))) 32)) rfl rfl (by decide) (sh_shr_ok (by decide))) ?_
  refine WO_v (a_ari (a := (ari_add .u64 (ari_mul .u64 (sh_shr .u64 x 32) (sh_shr .u64 y 32)) (sh_shr .u64 (ari_add .u64 (ari_mul .u64 (sh_shr .u64 x 32) (ari_and .u64 y 4294967295)) (sh_shr .u64 (ari_mul .u64 (ari_and .u64 x 4294967295) (ari_and .u64 y 4294967295)) 32)) 32))) (b := (sh_shr .u64 (ari_add .u64 (ari_and .u64 (ari_add .u64 (ari_mul .u64 (sh_shr .u64 x 32) (ari_and .u64 y 4294967295)) (sh_shr .u64 (ari_mul .u64 (ari_and .u64 x 4294967295) (ari_and .u64 y 4294967295)) 32)) 4294967295) (ari_mul .u64 (ari_and .u64 x 4294967295) (sh_shr .u64 y 32))) 32)) (v := .i .u64 (ari_add .u64 (ari_add .u64 (ari_mul .u64 (sh_shr .u64 x 32) (sh_shr .u64 y 32)) (sh_shr .u64 (ari_add .u64 (ari_mul .u64 (sh_shr .u64 x 32) (ari_and .u64 y 4294967295)) (sh_shr .u64 (ari_mul .u64 (ari_and .u64 x 4294967295) (ari_and .u64 y 4294967295)) 32)) 32)) (sh_shr .u64 (ari_add .u64 (ari_and .u64 (ari_add .u64 (ari_mul .u64 (sh_shr .u64 x 32) (ari_and .u64 y 4294967295)) (sh_shr .u64 (ari_mul .u64 (ari_and .u64 x 4294967295) (ari_and .u64 y 4294967295)) 32)) 4294967295) (ari_mul .u64 (ari_and .u64 x 4294967295) (sh_shr .u64 y 32))) 32))) rfl rfl (by decide) rfl) ?_
  refine WO_v (a_mv (v := .i .u64 (ari_add .u64 (ari_add .u64 (ari_mul .u64 (sh_shr .u64 x 32) (sh_shr .u64 y 32)) (sh_shr .u64 (ari_add .u64 (ari_mul .u64 (sh_shr .u64 x 32) (ari_and .u64 y 4294967295)) (sh_shr .u64 (ari_mul .u64 (ari_and .u64 x 4294967295) (ari_and .u64 y 4294967295)) 32)) 32)) (sh_shr .u64 (ari_add .u64 (ari_and .u64 (ari_add .u64 (ari_mul .u64 (sh_shr .u64 x 32) (ari_and .u64 y 4294967295)) (sh_shr .u64 (ari_mul .u64 (ari_and .u64 x 4294967295) (ari_and .u64 y 4294967295)) 32)) 4294967295) (ari_mul .u64 (ari_and .u64 x 4294967295) (sh_shr .u64 y 32))) 32))) rfl) ?_
  refine WO_end ?_
  refine then_n ?_
  refine W_sq ?_
  refine W_rg ?_
  refine WO_v (a_mv (v := .i .u64 x) rfl) ?_
  refine WO_v (a_mv (v := .i .u64 y) rfl) ?_
  refine WO_v (a_ari (a := x) (b := y) (v := .i .u64 (ari_mul .u64 x y)) rfl rfl (by decide) rfl) ?_
  refine WO_v (a_mv (v := .i .u64 (ari_mul .u64 x y)) rfl) ?_
  refine WO_end ?_
  refine then_n ?_
  refine W_rt ?_
  refine Ret_r (rs_t (n := 4) (v := .i .u64 (ari_add .u64 (ari_add .u64 (ari_mul .u64 (sh_shr .u64 x 32) (sh_shr .u64 y 32)) (sh_shr .u64 (ari_add .u64 (ari_mul .u64 (sh_shr .u64 x 32) (ari_and .u64 y 4294967295)) (sh_shr .u64 (ari_mul .u64 (ari_and .u64 x 4294967295) (ari_and .u64 y 4294967295)) 32)) 32)) (sh_shr .u64 (ari_add .u64 (ari_and .u64 (ari_add .u64 (ari_mul .u64 (sh_shr .u64 x 32) (ari_and .u64 y 4294967295)) (sh_shr .u64 (ari_mul .u64 (ari_and .u64 x 4294967295) (ari_and .u64 y 4294967295)) 32)) 4294967295) (ari_mul .u64 (ari_and .u64 x 4294967295) (sh_shr .u64 y 32))) 32))) rfl (rs_t (n := 5) (v := .i .u64 (ari_mul .u64 x y)) rfl rs_nil)) ?_
  have hp := Option.some.inj hp; subst hp
  exact (And.intro rfl (hO.pick [] rfl (by decide)))

theorem p_bits_Mul.ok {h : Hp} {x : Int} {y : Int}   {r : Int × Int} (hp : p_bits_Mul x y = some r) :
    ∃ u k', Is G 89 [.i .u64 x, .i .u64 y] h u k' ∧ V.tu [.i .u64 r.1, .i .u64 r.2] = u ∧ Own (fun r => r < h.n) h k' [] := by
  refine WC.is (WC_of G_F_bits_Mul ?_)
  unfold p_bits_Mul at hp
  let B : Nat → Prop := (fun r => r < h.n)
  have hO : Own B h h [] := Own.start0 h
  refine W_sq ?_
  refine W_rg ?_
  refine WO_v (a_mv (v := .i .u64 0) rfl) ?_
  refine WO_v (a_mv (v := .i .u64 0) rfl) ?_
  refine WO_end ?_
  refine then_n ?_
  refine W_sq ?_
  refine W_cF (t := false) rfl rfl ?_
  refine W_sk ?_
  refine then_n ?_
  refine W_sq ?_
  refine W_rg ?_
  refine WO_v (a_mv (v := .i .u64 x) rfl) ?_
  refine WO_v (a_mv (v := .i .u64 y) rfl) ?_
  obtain ⟨⟨x1, x2⟩, hx₁, hp⟩ := bd_some hp
  obtain ⟨u₁, k₁, ca₁, rfl, hW₁⟩ := p_bits_Mul64.ok (h := h)   hx₁
  refine WO_c (id := 98) (caps := []) rfl (mp_cons (v := .i .u64 x) rfl (mp_cons (v := .i .u64 y) rfl mp_nil)) ca₁ ?_
  have hO₁ : Own B h k₁ [] := hO.call hW₁ rfl
  refine WO_v (a_mv (v := .tu [.i .u64 x1, .i .u64 x2]) rfl) ?_
  refine WO_v (a_ext (vs := [.i .u64 x1, .i .u64 x2]) (v := .i .u64 x1) rfl rfl) ?_
  refine WO_v (a_ext (vs := [.i .u64 x1, .i .u64 x2]) (v := .i .u64 x2) rfl rfl) ?_
  refine WO_v (a_mv (v := .i .u64 x1) rfl) ?_
  refine WO_v (a_mv (v := .i .u64 x2) rfl) ?_
  refine WO_end ?_
  refine then_n ?_
  refine W_sq ?_
  refine W_rg ?_
  refine WO_v (a_mv (v := .i .u64 x1) rfl) ?_
  refine WO_v (a_mv (v := .i .u64 x2) rfl) ?_
  refine WO_v (a_mv (v := .i .u64 x1) rfl) ?_
  refine WO_v (a_mv (v := .i .u64 x2) rfl) ?_
  refine WO_end ?_
  refine then_n ?_
  refine W_rt ?_
  refine Ret_r (rs_t (n := 4) (v := .i .u64 x1) rfl (rs_t (n := 5) (v := .i .u64 x2) rfl rs_nil)) ?_
  have hp := Option.some.inj hp; subst hp
  exact (And.intro rfl (hO₁.pick [] rfl (by decide)))

theorem p_slices_Repeat_api_Cell.ok {h : Hp} {x : List T_api_Cell} {count : Int} {v_x : V} (s_x : Sl e_T_api_Cell h v_x x) {r : (List T_api_Cell)} (hp : p_slices_Repeat_api_Cell x count = some r) :
    ∃ u k', Is G 73 [v_x, .i .i64 count] h u k' ∧ ∃ (v₁ : V), v₁ = u ∧ Own (fun r => r < h.n) h k' [eSl e_T_api_Cell v₁ r] := by
  refine WC.is (WC_of G_F_slices_Repeat_api_Cell ?_)
  unfold p_slices_Repeat_api_Cell at hp
  let B : Nat → Prop := (fun r => r < h.n)
  have hO : Own B h h [] := Own.start0 h
  refine W_sq ?_
  refine W_rg ?_
  refine WO_v (a_mv (v := .sn) rfl) ?_
  refine WO_end ?_
  refine then_n ?_
  refine W_sq ?_
  refine W_sq ?_
  refine W_rg ?_
  refine WO_v (a_mv (v := .i .i64 count) rfl) ?_
  refine WO_v (a_lss (a := count) (b := 0) rfl rfl) ?_
  refine WO_end ?_
  refine then_n ?_
  obtain ⟨o₁, ho₁, hp⟩ := bd_some hp
  refine W.mono (Q := fun e fr k => match (generalizing := false) o₁ with
      | _ => e = .normal ∧ fr 0 = v_x ∧ fr 1 = .i .i64 count ∧ Own B h k []) ?_ ?_
  · clear hp; have hp := ho₁; clear ho₁
    rcases if_some hp with ⟨b₁, hp⟩ | ⟨b₁, hp⟩
    · refine W_cT (t := (decide (count < 0))) rfl b₁ ?_
      exact nomatch hp
    · refine W_cF (t := (decide (count < 0))) rfl b₁ ?_
      refine W_sk ?_
      have hp := Option.some.inj hp; subst hp
      exact (And.intro rfl (And.intro (rfl) (And.intro (rfl) (hO.pick [] rfl (by decide)))))
  intro e₁ q₁ k₁ hJ₁
  obtain ⟨rfl, q₁_0, q₁_1, hO₁⟩ := hJ₁
  refine then_n ?_
  refine W_sq ?_
  refine W_rg ?_
  refine WO_v (a_mv (v := v_x) q₁_0) ?_
  refine WO_v (a_len (hO₁.rd0 s_x.rd : Sl e_T_api_Cell k₁ v_x x) rfl) ?_
  obtain ⟨c₁, hp⟩ := ck_some hp
  refine WO_v (a_conv (a := (x.length : Int)) rfl c₁) ?_
  refine WO_v (a_mv (v := .i .i64 count) q₁_1) ?_
  obtain ⟨c₂, hp⟩ := ck_some hp
  refine WO_v (a_conv (a := count) rfl c₂) ?_
  obtain ⟨⟨x1, x2⟩, hx₁, hp⟩ := bd_some hp
  obtain ⟨u₁, k₂, ca₁, rfl, hW₁⟩ := p_bits_Mul.ok (h := k₁)   hx₁
  refine WO_c (id := 89) (caps := []) rfl (mp_cons (v := .i .u64 (x.length : Int)) rfl (mp_cons (v := .i .u64 count) rfl mp_nil)) ca₁ ?_
  have hO₂ : Own B h k₂ [] := hO₁.call hW₁ rfl
  refine WO_v (a_mv (v := .tu [.i .u64 x1, .i .u64 x2]) rfl) ?_
  refine WO_v (a_ext (vs := [.i .u64 x1, .i .u64 x2]) (v := .i .u64 x1) rfl rfl) ?_
  refine WO_v (a_ext (vs := [.i .u64 x1, .i .u64 x2]) (v := .i .u64 x2) rfl rfl) ?_
  refine WO_v (a_mv (v := .i .u64 x1) rfl) ?_
  refine WO_v (a_mv (v := .i .u64 x2) rfl) ?_
  refine WO_end ?_
  refine then_n ?_
  refine W_sq ?_
  refine W_sq ?_
  refine W_rg ?_
  refine WO_v (a_mv (v := .i .u64 x1) rfl) ?_
  refine WO_v (a_gtr (a := x1) (b := 0) rfl rfl) ?_
  refine WO_v (a_mv (v := .b (decide (0 < x1))) rfl) ?_
  refine WO_cut 3 (fun fr' k' => k₂ = k' ∧ fr' 26 = .b ((decide (0 < x1)) || (decide (9223372036854775807 < x2))) ∧ fr' 0 = v_x ∧ fr' 6 = .i .u64 x2) ?_ ?_
  · rcases bc (decide (0 < x1)) with b₂ | b₂
    · skip
      refine WO_off rfl b₂ ?_
      refine WO_off rfl b₂ ?_
      refine WO_v (a_pickT (t := (decide (0 < x1))) (v := .b ((decide (0 < x1)) || (decide (9223372036854775807 < x2)))) rfl b₂ (Eq.trans (b := V.b true) rfl (or_off b₂))) ?_
      refine WO_end ?_
      exact ⟨rfl, rfl, q₁_0, rfl⟩
    · skip
      refine WO_on rfl b₂ ?_
      refine WO_v (a_mv (v := .i .u64 x2) rfl) ?_
      refine WO_on rfl b₂ ?_
      refine WO_v (a_gtr (a := x2) (b := 9223372036854775807) rfl rfl) ?_
      refine WO_v (a_pickF (t := (decide (0 < x1))) (v := .b ((decide (0 < x1)) || (decide (9223372036854775807 < x2)))) rfl b₂ (Eq.trans (b := V.b (decide (9223372036854775807 < x2))) rfl (or_on b₂))) ?_
      refine WO_end ?_
      exact ⟨rfl, rfl, q₁_0, rfl⟩
  rintro frg₁ _ ⟨rfl, g₁_26, g₁_0, g₁_6⟩
  refine WO_end ?_
  refine then_n ?_
  obtain ⟨o₂, ho₂, hp⟩ := bd_some hp
  refine W.mono (Q := fun e fr k => match (generalizing := false) o₂ with
      | _ => e = .normal ∧ fr 0 = v_x ∧ fr 6 = .i .u64 x2 ∧ Own B h k []) ?_ ?_
  · clear hp; have hp := ho₂; clear ho₂
    rcases if_some hp with ⟨b₃, hp⟩ | ⟨b₃, hp⟩
    · refine W_cT (t := ((decide (0 < x1)) || (decide (9223372036854775807 < x2)))) g₁_26 b₃ ?_
      exact nomatch hp
    · refine W_cF (t := ((decide (0 < x1)) || (decide (9223372036854775807 < x2)))) g₁_26 b₃ ?_
      refine W_sk ?_
      have hp := Option.some.inj hp; subst hp
      exact (And.intro rfl (And.intro (g₁_0) (And.intro (g₁_6) (hO₂.pick [] rfl (by decide)))))
  intro e₂ q₂ k₃ hJ₂
  obtain ⟨rfl, q₂_0, q₂_6, hO₃⟩ := hJ₂
  refine then_n ?_
  refine W_sq ?_
  refine W_rg ?_
  refine WO_v (a_mv (v := .i .u64 x2) q₂_6) ?_
  obtain ⟨c₃, hp⟩ := ck_some hp
  refine WO_v (a_conv (a := x2) rfl c₃) ?_
  obtain ⟨c₄, hp⟩ := ck_some hp
  refine WO_x (hO₃.mks (E := e_T_api_Cell) (y := (⟨⟨0, 0, 0, 0⟩, ⟨0, 0, 0, 0⟩⟩ : T_api_Cell)) (bytes := 64) (z := x2) hO₃.fr rfl rfl rfl c₄ (by decide)) ?_
  rintro v₂ k₄ ⟨r₁, f₁, hW⟩
  have hO₄ : Own B h k₄ [eSl e_T_api_Cell v₂ (List.replicate (x2 : Int).toNat (⟨⟨0, 0, 0, 0⟩, ⟨0, 0, 0, 0⟩⟩ : T_api_Cell))] := hW
  refine WO_v (a_mv (v := v₂) rfl) ?_
  refine WO_end ?_
  refine then_n ?_
  refine W_sq ?_
  refine W_rg ?_
  refine WO_v (a_mv (v := v₂) rfl) ?_
  refine WO_v (a_mv (v := v_x) q₂_0) ?_
  refine WO_x (hO₄.cpy (E := e_T_api_Cell) 0 rfl (hO₄.rd0 s_x.rd : Sl e_T_api_Cell k₄ v_x x) rfl rfl (fun _ => rfl)) ?_
  rintro _ k₅ ⟨rfl, f₂, hW⟩
  have hO₅ : Own B h k₅ [eSl e_T_api_Cell v₂ (x.take (List.replicate (x2 : Int).toNat (⟨⟨0, 0, 0, 0⟩, ⟨0, 0, 0, 0⟩⟩ : T_api_Cell)).length ++ (List.replicate (x2 : Int).toNat (⟨⟨0, 0, 0, 0⟩, ⟨0, 0, 0, 0⟩⟩ : T_api_Cell)).drop x.length)] := hW
  refine WO_v (a_mv (v := .i .i64 ((min x.length (List.replicate (x2 : Int).toNat (⟨⟨0, 0, 0, 0⟩, ⟨0, 0, 0, 0⟩⟩ : T_api_Cell)).length : Nat) : Int)) rfl) ?_
  refine WO_end ?_
  refine then_n ?_
  refine W_sq ?_
  refine W_bl ?_
  obtain ⟨o₃, ho₃, hp⟩ := bd_some hp
  refine W.mono (Q := fun e fr k => match (generalizing := false) o₃ with
      | newslice1 => e = (.exit 0) ∧ fr 7 = v₂ ∧ Own B h k [eSl e_T_api_Cell v₂ newslice1]) ?_ ?_
  · clear hp
    refine W_loopF (fun st fr k => match st with | (newslice, n) => fr 7 = v₂ ∧ fr 8 = .i .i64 n ∧ Own B h k [eSl e_T_api_Cell v₂ newslice]) ho₃ (s := (x.take (List.replicate (x2 : Int).toNat (⟨⟨0, 0, 0, 0⟩, ⟨0, 0, 0, 0⟩⟩ : T_api_Cell)).length ++ (List.replicate (x2 : Int).toNat (⟨⟨0, 0, 0, 0⟩, ⟨0, 0, 0, 0⟩⟩ : T_api_Cell)).drop x.length, ((min x.length (List.replicate (x2 : Int).toNat (⟨⟨0, 0, 0, 0⟩, ⟨0, 0, 0, 0⟩⟩ : T_api_Cell)).length : Nat) : Int))) (And.intro (rfl) (And.intro (rfl) (hO₅.pick [0] rfl (by decide)))) ?_
    rintro ⟨newslice, n⟩ q₄ k₇ ⟨q₄_7, q₄_8, hO₇⟩ o₄ hp
    dsimp only [p_slices_Repeat_api_Cell.s0] at hp
    refine W_sq ?_
    refine W_sq ?_
    refine W_rg ?_
    refine WO_v (a_mv (v := .i .i64 n) q₄_8) ?_
    refine WO_v (a_mv (v := v₂) q₄_7) ?_
    refine WO_v (a_len (hO₇.sl 0 rfl : Sl e_T_api_Cell k₇ v₂ newslice) rfl) ?_
    refine WO_v (a_lss (a := n) (b := (newslice.length : Int)) rfl rfl) ?_
    refine WO_end ?_
    refine then_n ?_
    rcases if_some hp with ⟨b₄, hp⟩ | ⟨b₄, hp⟩
    · refine W_cT (t := (decide (n < (newslice.length : Int)))) rfl b₄ ?_
      refine W_sk ?_
      refine then_n ?_
      refine W_bl ?_
      refine W_dr ?_
      have hW := hO₇.bump 10
      have fr₁ := Fresh.start k₇ 10
      have nb₁ : ∀ {i : Nat}, h.n ≤ k₇.n + i := Nat.le_trans hO₇.n (Nat.le_add_right _ _)
      have hO₈ : Own B h (k₇.bump 10) [eSl e_T_api_Cell v₂ newslice] := hW
      refine WD_v (a_mv (v := .i .i64 n) q₄_8) ?_
      refine WD_v (a_mv (v := v₂) q₄_7) ?_
      refine WD_v (a_mv (v := .i .i64 n) q₄_8) ?_
      obtain ⟨c₅, hp⟩ := ck_some hp
      refine WD_v (a_slcF (E := e_T_api_Cell) (z := n) (hO₈.sl 0 rfl : Sl e_T_api_Cell (k₇.bump 10) v₂ newslice) rfl rfl c₅) ?_
      refine WD_v (a_mv (v := v₂) q₄_7) ?_
      refine WD_v (a_mv (v := .i .i64 n) q₄_8) ?_
      refine WD_v (a_slcU (E := e_T_api_Cell) (z := n) (hO₈.sl 0 rfl : Sl e_T_api_Cell (k₇.bump 10) v₂ newslice) rfl rfl c₅) ?_
      refine WD_x (hO₈.cpyF (E := e_T_api_Cell) (z := n) 0 rfl c₅ (Sl.cutU (hO₈.sl 0 rfl : Sl e_T_api_Cell (k₇.bump 10) v₂ newslice) c₅ : Sl e_T_api_Cell (k₇.bump 10) (V.cut v₂ 0 (n : Int).toNat) (newslice.take (n : Int).toNat)) rfl rfl (fun _ => rfl)) ?_
      rintro _ k₉ z₁ ⟨rfl, f₃, hW⟩
      have fr₂ := fr₁.kept f₃ (by decide)
      have hO₉ : Own B h k₉ [eSl e_T_api_Cell v₂ (newslice.take (n : Int).toNat ++ ((newslice.take (n : Int).toNat).take (newslice.drop (n : Int).toNat).length ++ (newslice.drop (n : Int).toNat).drop (newslice.take (n : Int).toNat).length))] := hW
      obtain ⟨c₆, hp⟩ := ck_some hp
      refine WD_v (a_add (a := n) (b := ((min (newslice.take (n : Int).toNat).length (newslice.drop (n : Int).toNat).length : Nat) : Int)) rfl rfl c₆) ?_
      refine WD_v (a_mv (v := .i .i64 (n + ((min (newslice.take (n : Int).toNat).length (newslice.drop (n : Int).toNat).length : Nat) : Int))) rfl) ?_
      refine WD_end ?_
      refine And.intro ?_ ?_
      · intro q hq
        cases hq
      refine blk_n ?_
      have hp := Option.some.inj hp; subst hp
      exact (Or.inl (Exists.intro (newslice.take (n : Int).toNat ++ ((newslice.take (n : Int).toNat).take (newslice.drop (n : Int).toNat).length ++ (newslice.drop (n : Int).toNat).drop (newslice.take (n : Int).toNat).length), n + ((min (newslice.take (n : Int).toNat).length (newslice.drop (n : Int).toNat).length : Nat) : Int)) (And.intro rfl (And.intro rfl (And.intro (q₄_7) (And.intro (rfl) (hO₉.pick [0] rfl (by decide))))))))
    · refine W_cF (t := (decide (n < (newslice.length : Int)))) rfl b₄ ?_
      refine W_ex ?_
      refine then_e ?_
      have hp := Option.some.inj hp; subst hp
      refine (Or.inr (Exists.intro newslice (And.intro rfl (And.intro (fun h => nomatch h) (fun he => ?_)))))
      subst he; exact (And.intro rfl (And.intro (q₄_7) (hO₇.pick [0] rfl (by decide))))
  intro e₃ q₃ k₆ hJ₃
  obtain ⟨newslice1, rfl⟩ : ∃ x, x = o₃ := ⟨_, rfl⟩
  obtain ⟨rfl, q₃_7, hO₆⟩ := hJ₃
  refine blk_i ?_
  refine then_n ?_
  refine W_sq ?_
  refine W_rg ?_
  refine WO_v (a_mv (v := v₂) q₃_7) ?_
  refine WO_v (a_mv (v := v₂) rfl) ?_
  refine WO_end ?_
  refine then_n ?_
  refine W_rt ?_
  refine Ret_r (rs_t (n := 4) (v := v₂) rfl rs_nil) ?_
  have hp := Option.some.inj hp; subst hp
  exact (Exists.intro v₂ (And.intro rfl (hO₆.pick [0] rfl (by decide))))

theorem p_grid_New.ok {h : Hp} {n : Int}   {r : (Option T_grid_Grid) × Int} (hp : p_grid_New n = some r) :
    ∃ u k', Is G 45 [.i .i64 n] h u k' ∧ ∃ (r₁ : Nat), ∃ (v₁ : V), V.tu [(if (r.1).isSome = true then V.p r₁ 0 else V.pn), .i .i64 r.2] = u ∧ Own (fun r => r < h.n) h k' [eIf (r.1).isSome (eBox r₁ [v₁]), eIf (r.1).isSome (eSl e_T_api_Cell v₁ ((r.1.getD default).cells))] := by
  refine WC.is (WC_of G_F_grid_New ?_)
  unfold p_grid_New at hp
  let B : Nat → Prop := (fun r => r < h.n)
  have hO : Own B h h [] := Own.start0 h
  refine W_sq ?_
  refine W_rg ?_
  refine WO_v (a_mv (v := .pn) rfl) ?_
  refine WO_v (a_mv (v := .i .i64 0) rfl) ?_
  refine WO_end ?_
  refine then_n ?_
  refine W_sq ?_
  refine W_bl ?_
  refine W_sq ?_
  refine W_rg ?_
  refine WO_v (a_mv (v := .i .i64 n) rfl) ?_
  refine WO_v (a_lss (a := n) (b := 0) rfl rfl) ?_
  refine WO_v (a_mv (v := .b (decide (n < 0))) rfl) ?_
  refine WO_end ?_
  refine then_n ?_
  rcases if_some hp with ⟨b₁, hp⟩ | ⟨b₁, hp⟩
  · refine W_cT (t := (decide (n < 0))) rfl b₁ ?_
    refine W_sq ?_
    refine W_rg ?_
    refine WO_v (a_mv (v := .pn) rfl) ?_
    refine WO_v (a_mv (v := .i .i64 2) rfl) ?_
    refine WO_end ?_
    refine then_n ?_
    refine W_rt ?_
    refine blk_r ?_
    refine then_r ?_
    refine Ret_r (rs_t (n := 2) (v := .pn) rfl (rs_t (n := 3) (v := .i .i64 2) rfl rs_nil)) ?_
    have hp := Option.some.inj hp; subst hp
    exact (Exists.intro 0 (Exists.intro V.sn (And.intro rfl (hO.pick [900, 901] rfl (by decide)))))
  · refine W_cF (t := (decide (n < 0))) rfl b₁ ?_
    refine W_sq ?_
    refine W_rg ?_
    refine WO_v (a_mv (v := .i .i64 n) rfl) ?_
    refine WO_v (a_gtr (a := n) (b := 4096) rfl rfl) ?_
    refine WO_v (a_mv (v := .b (decide (4096 < n))) rfl) ?_
    refine WO_end ?_
    refine then_n ?_
    rcases if_some hp with ⟨b₂, hp⟩ | ⟨b₂, hp⟩
    · refine W_cT (t := (decide (4096 < n))) rfl b₂ ?_
      refine W_sq ?_
      refine W_rg ?_
      refine WO_v (a_mv (v := .pn) rfl) ?_
      refine WO_v (a_mv (v := .i .i64 6) rfl) ?_
      refine WO_end ?_
      refine then_n ?_
      refine W_rt ?_
      refine blk_r ?_
      refine then_r ?_
      refine Ret_r (rs_t (n := 2) (v := .pn) rfl (rs_t (n := 3) (v := .i .i64 6) rfl rs_nil)) ?_
      have hp := Option.some.inj hp; subst hp
      exact (Exists.intro 0 (Exists.intro V.sn (And.intro rfl (hO.pick [900, 901] rfl (by decide)))))
    · refine W_cF (t := (decide (4096 < n))) rfl b₂ ?_
      refine W_sk ?_
      refine blk_n ?_
      refine then_n ?_
      refine W_sq ?_
      refine W_rg ?_
      obtain ⟨x, hx₁, hp⟩ := bd_some hp
      obtain ⟨u₁, k₁, ca₁, rfl, hW₁⟩ := p_grid_empty.ok (h := h)   hx₁
      refine WO_c (id := 74) (caps := []) rfl mp_nil ca₁ ?_
      have hO₁ : Own B h k₁ [] := hO.call hW₁ rfl
      refine WO_x (hO₁.bsl (E := e_T_api_Cell) (l := [x]) hO₁.fr (by rw [(ev_cons (v := .ag (e_T_api_Cell.c x)) rfl ev_nil)]; rfl) rfl) ?_
      rintro v₄ k₂ ⟨r₄, f₁, hW⟩
      have hO₂ : Own B h k₂ [eSl e_T_api_Cell v₄ [x]] := hW
      refine WO_v (a_mv (v := .i .i64 n) rfl) ?_
      obtain ⟨x1, hx₂, hp⟩ := bd_some hp
      obtain ⟨u₂, k₃, ca₂, v₅, rfl, hW₂⟩ := p_slices_Repeat_api_Cell.ok (h := k₂)  (hO₂.sl 0 rfl : Sl e_T_api_Cell k₂ v₄ [x]) hx₂
      refine WO_c (id := 73) (caps := []) rfl (mp_cons (v := v₄) rfl (mp_cons (v := .i .i64 n) rfl mp_nil)) ca₂ ?_
      have hO₃ : Own B h k₃ [eSl e_T_api_Cell v₄ [x], eSl e_T_api_Cell v₅ x1] := hO₂.call hW₂ rfl
      refine WO_v (a_build (cs := [v₅]) (by rw [(ev_cons (v := v₅) rfl ev_nil)]; simp [fill, over, cells_i, cells_b, cells_f, cells_p, cells_a, cells_n, (hO₃.sl 1 rfl : Sl e_T_api_Cell k₃ v₅ x1).cells])) ?_
      refine WO_x (hO₃.boxd (v := .ag [v₅]) (cs := [v₅]) hO₃.fr rfl rfl) ?_
      rintro _ k₄ ⟨r₅, rfl, n₁, f₂, hW⟩
      have hO₄ : Own B h k₄ [eSl e_T_api_Cell v₄ [x], eSl e_T_api_Cell v₅ x1, eBox r₅ [v₅]] := hW
      refine WO_v (a_mv (v := .p r₅ 0) rfl) ?_
      refine WO_v (a_mv (v := .i .i64 0) rfl) ?_
      refine WO_end ?_
      refine then_n ?_
      refine W_rt ?_
      refine Ret_r (rs_t (n := 2) (v := .p r₅ 0) rfl (rs_t (n := 3) (v := .i .i64 0) rfl rs_nil)) ?_
      have hp := Option.some.inj hp; subst hp
      exact (Exists.intro r₅ (Exists.intro v₅ (And.intro rfl (hO₄.pick [2, 1] rfl (by decide)))))

theorem p_grid_Grid_Len.ok {h : Hp} {g : T_grid_Grid} {r_g : Nat} {v_g_cells : V} {w_g : Bool} (b_g : h.m r_g = some (.cells w_g [v_g_cells])) (s_g_cells : Sl e_T_api_Cell h v_g_cells g.cells) {r : Int} (hp : p_grid_Grid_Len g = some r) :
    ∃ u k', Is G 55 [.p r_g 0] h u k' ∧ V.i .i64 r = u ∧ Own (fun r => r < h.n) h k' [] := by
  refine WC.is (WC_of G_F_grid_Grid_Len ?_)
  unfold p_grid_Grid_Len at hp
  let B : Nat → Prop := (fun r => r < h.n)
  have hO : Own B h h [] := Own.start0 h
  refine W_sq ?_
  refine W_rg ?_
  refine WO_v (a_mv (v := .i .i64 0) rfl) ?_
  refine WO_end ?_
  refine then_n ?_
  refine W_sq ?_
  refine W_sq ?_
  refine W_rg ?_
  refine WO_v (a_mv (v := .p r_g 0) rfl) ?_
  refine WO_v (a_eqP rfl rfl) ?_
  refine WO_end ?_
  refine then_n ?_
  refine W_cF (t := false) rfl rfl ?_
  refine W_sk ?_
  refine then_n ?_
  refine W_sq ?_
  refine W_rg ?_
  refine WO_v (a_mv (v := .p r_g 0) rfl) ?_
  refine WO_v (a_nilp (r := r_g) (o := 0) rfl) ?_
  refine WO_v (a_fa (r := r_g) (o := 0) (o' := 0) rfl rfl) ?_
  refine WO_v (a_ldb (cs := [v_g_cells]) (v := v_g_cells) (hO.rdB0 (RdB.of b_g)).choose_spec rfl rfl) ?_
  refine WO_v (a_len (hO.rd0 s_g_cells.rd : Sl e_T_api_Cell h v_g_cells g.cells) rfl) ?_
  refine WO_v (a_mv (v := .i .i64 (g.cells.length : Int)) rfl) ?_
  refine WO_end ?_
  refine then_n ?_
  refine W_rt ?_
  refine Ret_r (rs_t (n := 2) (v := .i .i64 (g.cells.length : Int)) rfl rs_nil) ?_
  have hp := Option.some.inj hp; subst hp
  exact (And.intro rfl (hO.pick [] rfl (by decide)))

theorem p_grid_Grid_Add.ok {h : Hp} {g : T_grid_Grid} {r_g : Nat} {v_g_cells : V} (H : Own (Bm h [eBox r_g [v_g_cells], eSl e_T_api_Cell v_g_cells g.cells]) h h [eBox r_g [v_g_cells], eSl e_T_api_Cell v_g_cells g.cells]) {r : Int × Int × T_grid_Grid} (hp : p_grid_Grid_Add g = some r) :
    ∃ u k', Is G 50 [.p r_g 0] h u k' ∧ ∃ (v₁ : V), V.tu [.i .i64 r.1, .i .i64 r.2.1] = u ∧ Own (Bm h [eBox r_g [v_g_cells], eSl e_T_api_Cell v_g_cells g.cells]) h k' [eBox r_g [v₁], eSl e_T_api_Cell v₁ r.2.2.cells] := by
  refine WC.is (WC_of G_F_grid_Grid_Add ?_)
  unfold p_grid_Grid_Add at hp
  let B : Nat → Prop := (Bm h [eBox r_g [v_g_cells], eSl e_T_api_Cell v_g_cells g.cells])
  have hO : Own B h h [eBox r_g [v_g_cells], eSl e_T_api_Cell v_g_cells g.cells] := H
  refine W_sq ?_
  refine W_rg ?_
  refine WO_v (a_mv (v := .i .i64 0) rfl) ?_
  refine WO_v (a_mv (v := .i .i64 0) rfl) ?_
  refine WO_end ?_
  refine then_n ?_
  refine W_sq ?_
  refine W_bl ?_
  refine W_sq ?_
  refine W_rg ?_
  refine WO_v (a_mv (v := .p r_g 0) rfl) ?_
  refine WO_v (a_eqP rfl rfl) ?_
  refine WO_v (a_mv (v := .b false) rfl) ?_
  refine WO_end ?_
  refine then_n ?_
  refine W_cF (t := false) rfl rfl ?_
  refine W_sq ?_
  refine W_rg ?_
  refine WO_v (a_mv (v := .p r_g 0) rfl) ?_
  obtain ⟨x, hx₁, hp⟩ := bd_some hp
  obtain ⟨u₁, k₁, ca₁, rfl, hW₁⟩ := p_grid_Grid_Len.ok (h := h)  (hO.box 0 rfl) (hO.sl 1 rfl : Sl e_T_api_Cell h v_g_cells g.cells) hx₁
  refine WO_c (id := 55) (caps := []) rfl (mp_cons (v := .p r_g 0) rfl mp_nil) ca₁ ?_
  have hO₁ : Own B h k₁ [eBox r_g [v_g_cells], eSl e_T_api_Cell v_g_cells g.cells] := hO.call hW₁ rfl
  refine WO_v (a_eqI (a := x) (b := 4096) rfl rfl) ?_
  refine WO_v (a_mv (v := .b (decide (x = 4096))) rfl) ?_
  refine WO_end ?_
  refine then_n ?_
  rcases if_some hp with ⟨b₁, hp⟩ | ⟨b₁, hp⟩
  · refine W_cT (t := (decide (x = 4096))) rfl b₁ ?_
    refine W_sq ?_
    refine W_rg ?_
    refine WO_v (a_mv (v := .i .i64 0) rfl) ?_
    refine WO_v (a_mv (v := .i .i64 6) rfl) ?_
    refine WO_end ?_
    refine then_n ?_
    refine W_rt ?_
    refine blk_r ?_
    refine then_r ?_
    refine Ret_r (rs_t (n := 2) (v := .i .i64 0) rfl (rs_t (n := 3) (v := .i .i64 6) rfl rs_nil)) ?_
    have hp := Option.some.inj hp; subst hp
    exact (Exists.intro v_g_cells (And.intro rfl (hO₁.pick [0, 1] rfl (by decide))))
  · refine W_cF (t := (decide (x = 4096))) rfl b₁ ?_
    refine W_sk ?_
    refine blk_n ?_
    refine then_n ?_
    refine W_sq ?_
    refine W_dr ?_
    have hW := hO₁.bump 11
    have fr₁ := Fresh.start k₁ 11
    have nb₁ : ∀ {i : Nat}, h.n ≤ k₁.n + i := Nat.le_trans hO₁.n (Nat.le_add_right _ _)
    have hO₂ : Own B h (k₁.bump 11) [eBox r_g [v_g_cells], eSl e_T_api_Cell v_g_cells g.cells] := hW
    refine WD_v (a_mv (v := .p r_g 0) rfl) ?_
    refine WD_v (a_mv (v := .p r_g 0) rfl) ?_
    refine WD_v (a_nilp (r := r_g) (o := 0) rfl) ?_
    refine WD_v (a_fa (r := r_g) (o := 0) (o' := 0) rfl rfl) ?_
    refine WD_v (a_ldb (cs := [v_g_cells]) (v := v_g_cells) (hO₂.box 0 rfl) rfl rfl) ?_
    obtain ⟨x1, hx₂, hp⟩ := bd_some hp
    obtain ⟨u₂, k₃, ca₂, rfl, hW₂⟩ := p_grid_empty.ok (h := (k₁.bump 11))   hx₂
    refine WD_c (id := 74) (caps := []) rfl mp_nil ca₂ ?_
    have fr₂ := fr₁.call hW₂
    have hO₃ : Own B h k₃ [eBox r_g [v_g_cells], eSl e_T_api_Cell v_g_cells g.cells] := hO₂.call hW₂ rfl
    refine WD_x (hO₃.bsl (E := e_T_api_Cell) (l := [x1]) ⟨fr₂.m 6 (by decide) (by decide), nb₁⟩ (by rw [(ev_cons (v := .ag (e_T_api_Cell.c x1)) rfl ev_nil)]; rfl) rfl) ?_
    rintro v₂ k₄ z₁ ⟨r₁, f₁, hW⟩
    have fr₃ := fr₂.kept f₁ (by decide)
    have hO₄ : Own B h k₄ [eBox r_g [v_g_cells], eSl e_T_api_Cell v_g_cells g.cells, eSl e_T_api_Cell v₂ [x1]] := hW
    obtain ⟨c₁, hp⟩ := ck_some hp
    refine WD_x (hO₄.app (E := e_T_api_Cell) (bytes := 64) 1 ⟨fr₃.m 7 (by decide) (by decide), nb₁⟩ rfl (hO₄.sl 2 rfl : Sl e_T_api_Cell k₄ v₂ [x1]) rfl rfl (fun _ => rfl) c₁ (by decide)) ?_
    rintro v₃ k₅ z₂ ⟨f₂, hW⟩
    have fr₄ := fr₃.kept f₂ (by decide)
    have hO₅ : Own B h k₅ [eBox r_g [v_g_cells], eSl e_T_api_Cell v₃ (g.cells ++ [x1]), eSl e_T_api_Cell v₂ [x1]] := hW
    refine WD_v (a_nilp (r := r_g) (o := 0) rfl) ?_
    refine WD_v (a_fa (r := r_g) (o := 0) (o' := 0) rfl rfl) ?_
    refine WD_x (hO₅.stb (ws := [v₃]) (cs' := [v₃]) (v := v₃) 0 rfl rfl rfl (hO₅.sl 1 rfl : Sl e_T_api_Cell k₅ v₃ (g.cells ++ [x1])).cells ⟨rfl, Nat.le_of_ble_eq_true rfl, (all_cons (hO₅.sl 1 rfl : Sl e_T_api_Cell k₅ v₃ (g.cells ++ [x1])).oneV rfl)⟩ rfl) ?_
    rintro _ k₆ z₃ ⟨rfl, f₃, m₁, hW⟩
    have fr₅ := fr₄.kept f₃ (by decide)
    have hO₆ : Own B h k₆ [eBox r_g [v₃], eSl e_T_api_Cell v₃ (g.cells ++ [x1]), eSl e_T_api_Cell v₂ [x1]] := hW
    refine WD_end ?_
    refine And.intro ?_ ?_
    · intro q hq
      simp only [List.mem_cons, List.not_mem_nil, or_false] at hq
      rcases hq with rfl | rfl
      · refine ap_ol rfl rfl ?_
        · exact (fun r hm hc => hc (hW₂.base r (Nat.lt_of_lt_of_le (hO₁.ltAt 0 rfl _ (tch (v := V.p r_g 0) (ld_el hm) rfl)) (Nat.le_trans (Nat.le_add_right _ _) fr₁.n))))
      · refine ap_ll ?_ ?_
        · exact (fun h => nomatch h)
        · exact (fun _ hm => Nat.lt_irrefl _ (Nat.lt_of_lt_of_le (hO₁.ltAt 0 rfl _ (tch (v := V.p r_g 0) (ld_el hm) rfl)) (Nat.le_add_right _ _)))
    refine then_n ?_
    refine W_sq ?_
    refine W_rg ?_
    refine WO_v (a_mv (v := .p r_g 0) rfl) ?_
    obtain ⟨x2, hx₃, hp⟩ := bd_some hp
    obtain ⟨u₃, k₇, ca₃, rfl, hW₃⟩ := p_grid_Grid_Len.ok (h := k₆)  (hO₆.box 0 rfl) (hO₆.sl 1 rfl : Sl e_T_api_Cell k₆ v₃ (g.cells ++ [x1])) hx₃
    refine WO_c (id := 55) (caps := []) rfl (mp_cons (v := .p r_g 0) rfl mp_nil) ca₃ ?_
    have hO₇ : Own B h k₇ [eBox r_g [v₃], eSl e_T_api_Cell v₃ (g.cells ++ [x1]), eSl e_T_api_Cell v₂ [x1]] := hO₆.call hW₃ rfl
    obtain ⟨c₂, hp⟩ := ck_some hp
    refine WO_v (a_sub (a := x2) (b := 1) rfl rfl c₂) ?_
    refine WO_v (a_mv (v := .i .i64 (x2 - 1)) rfl) ?_
    refine WO_v (a_mv (v := .i .i64 0) rfl) ?_
    refine WO_end ?_
    refine then_n ?_
    refine W_rt ?_
    refine Ret_r (rs_t (n := 2) (v := .i .i64 (x2 - 1)) rfl (rs_t (n := 3) (v := .i .i64 0) rfl rs_nil)) ?_
    have hp := Option.some.inj hp; subst hp
    exact (Exists.intro v₃ (And.intro rfl (hO₇.pick [0, 1] rfl (by decide))))

theorem p_grid_Grid_is.ok {h : Hp} {g : T_grid_Grid} {v : Int} {d : Int} {r_g : Nat} {v_g_cells : V} {w_g : Bool} (b_g : h.m r_g = some (.cells w_g [v_g_cells])) (s_g_cells : Sl e_T_api_Cell h v_g_cells g.cells) {r : Bool} (hp : p_grid_Grid_is g v d = some r) :
    ∃ u k', Is G 75 [.p r_g 0, .i .i64 v, .i .i64 d] h u k' ∧ V.b r = u ∧ Own (fun r => r < h.n) h k' [] := by
  refine WC.is (WC_of G_F_grid_Grid_is ?_)
  unfold p_grid_Grid_is at hp
  let B : Nat → Prop := (fun r => r < h.n)
  have hO : Own B h h [] := Own.start0 h
  refine W_sq ?_
  refine W_rg ?_
  refine WO_v (a_mv (v := .b false) rfl) ?_
  refine WO_end ?_
  refine then_n ?_
  refine W_sq ?_
  refine W_rg ?_
  refine WO_v (a_mv (v := .i .i64 v) rfl) ?_
  refine WO_v (a_geq (a := v) (b := 0) rfl rfl) ?_
  refine WO_v (a_mv (v := .b (decide (0 ≤ v))) rfl) ?_
  obtain ⟨t, hv₁, hp⟩ := bd_some hp
  refine WO_cut 5 (fun fr' k' => Own B h k' [] ∧ fr' 14 = .b t ∧ fr' 2 = .i .i64 d) ?_ ?_
  · clear hp; rcases if_some hv₁ with ⟨b₁, hp⟩ | ⟨b₁, hp⟩
    · skip
      refine WO_on rfl b₁ ?_
      refine WO_v (a_mv (v := .i .i64 v) rfl) ?_
      refine WO_on rfl b₁ ?_
      refine WO_v (a_mv (v := .p r_g 0) rfl) ?_
      refine WO_on rfl b₁ ?_
      obtain ⟨x, hx₁, hp⟩ := bd_some hp
      obtain ⟨u₁, k₁, ca₁, rfl, hW₁⟩ := p_grid_Grid_Len.ok (h := h)  (hO.rdB0 (RdB.of b_g)).choose_spec (hO.rd0 s_g_cells.rd : Sl e_T_api_Cell h v_g_cells g.cells) hx₁
      refine WO_c (id := 55) (caps := []) rfl (mp_cons (v := .p r_g 0) rfl mp_nil) ca₁ ?_
      have hO₁ : Own B h k₁ [] := hO.call hW₁ rfl
      refine WO_on rfl b₁ ?_
      refine WO_v (a_lss (a := v) (b := x) rfl rfl) ?_
      refine WO_v (a_pickT (t := (decide (0 ≤ v))) (v := .b t) rfl b₁ (Eq.trans (b := V.b (decide (v < x))) rfl (congrArg V.b (Option.some.inj hp)))) ?_
      refine WO_end ?_
      exact ⟨hO₁.pick [] rfl (by decide), rfl, rfl⟩
    · skip
      refine WO_off rfl b₁ ?_
      refine WO_off rfl b₁ ?_
      refine WO_off rfl b₁ ?_
      refine WO_off rfl b₁ ?_
      refine WO_v (a_pickF (t := (decide (0 ≤ v))) (v := .b t) rfl b₁ (Eq.trans (b := V.b false) rfl (congrArg V.b (Option.some.inj hp)))) ?_
      refine WO_end ?_
      exact ⟨hO.pick [] rfl (by decide), rfl, rfl⟩
  rintro frg₁ k₂ ⟨hO₂, g₁_14, g₁_2⟩
  refine WO_v (a_mv (v := .b t) g₁_14) ?_
  obtain ⟨t1, hv₂, hp⟩ := bd_some hp
  refine WO_cut 3 (fun fr' k' => Own B h k' [] ∧ fr' 18 = .b t1) ?_ ?_
  · clear hp; rcases if_some hv₂ with ⟨b₂, hp⟩ | ⟨b₂, hp⟩
    · skip
      refine WO_on rfl b₂ ?_
      refine WO_v (a_mv (v := .i .i64 d) g₁_2) ?_
      refine WO_on rfl b₂ ?_
      obtain ⟨x1, hx₂, hp⟩ := bd_some hp
      obtain ⟨u₂, k₃, ca₂, rfl, hW₂⟩ := p_compass_Good.ok (h := k₂)   hx₂
      refine WO_c (id := 90) (caps := []) rfl (mp_cons (v := .i .i64 d) rfl mp_nil) ca₂ ?_
      have hO₃ : Own B h k₃ [] := hO₂.call hW₂ rfl
      refine WO_v (a_pickT (t := t) (v := .b t1) rfl b₂ (Eq.trans (b := V.b x1) rfl (congrArg V.b (Option.some.inj hp)))) ?_
      refine WO_end ?_
      exact ⟨hO₃.pick [] rfl (by decide), rfl⟩
    · skip
      refine WO_off rfl b₂ ?_
      refine WO_off rfl b₂ ?_
      refine WO_v (a_pickF (t := t) (v := .b t1) rfl b₂ (Eq.trans (b := V.b false) rfl (congrArg V.b (Option.some.inj hp)))) ?_
      refine WO_end ?_
      exact ⟨hO₂.pick [] rfl (by decide), rfl⟩
  rintro frg₂ k₄ ⟨hO₄, g₂_18⟩
  refine WO_v (a_mv (v := .b t1) g₂_18) ?_
  refine WO_end ?_
  refine then_n ?_
  refine W_rt ?_
  refine Ret_r (rs_t (n := 6) (v := .b t1) rfl rs_nil) ?_
  have hp := Option.some.inj hp; subst hp
  exact (And.intro rfl (hO₄.pick [] rfl (by decide)))

theorem p_compass_Left.ok {h : Hp} {d : Int} {times : Int}   {r : Int} (hp : p_compass_Left d times = some r) :
    ∃ u k', Is G 77 [.i .i64 d, .i .i64 times] h u k' ∧ V.i .i64 r = u ∧ Own (fun r => r < h.n) h k' [] := by
  refine WC.is (WC_of G_F_compass_Left ?_)
  unfold p_compass_Left at hp
  let B : Nat → Prop := (fun r => r < h.n)
  have hO : Own B h h [] := Own.start0 h
  refine W_sq ?_
  refine W_rg ?_
  refine WO_v (a_mv (v := .i .i64 0) rfl) ?_
  refine WO_end ?_
  refine then_n ?_
  refine W_sq ?_
  refine W_sq ?_
  refine W_rg ?_
  refine WO_v (a_mv (v := .i .i64 d) rfl) ?_
  obtain ⟨x, hx₁, hp⟩ := bd_some hp
  obtain ⟨u₁, k₁, ca₁, rfl, hW₁⟩ := p_compass_Good.ok (h := h)   hx₁
  refine WO_c (id := 90) (caps := []) rfl (mp_cons (v := .i .i64 d) rfl mp_nil) ca₁ ?_
  have hO₁ : Own B h k₁ [] := hO.call hW₁ rfl
  refine WO_v (a_not (t := x) rfl) ?_
  refine WO_end ?_
  refine then_n ?_
  rcases if_some hp with ⟨b₁, hp⟩ | ⟨b₁, hp⟩
  · refine W_cT (t := (!x)) rfl b₁ ?_
    refine W_sq ?_
    refine W_rg ?_
    refine WO_v (a_mv (v := .i .i64 0) rfl) ?_
    refine WO_end ?_
    refine then_n ?_
    refine W_rt ?_
    refine then_r ?_
    refine Ret_r (rs_t (n := 4) (v := .i .i64 0) rfl rs_nil) ?_
    have hp := Option.some.inj hp; subst hp
    exact (And.intro rfl (hO₁.pick [] rfl (by decide)))
  · refine W_cF (t := (!x)) rfl b₁ ?_
    refine W_sk ?_
    refine then_n ?_
    refine W_sq ?_
    refine W_rg ?_
    refine WO_v (a_mv (v := .i .i64 d) rfl) ?_
    refine WO_v (a_mv (v := .i .i64 times) rfl) ?_
    refine WO_v (a_rem (a := times) (b := 4) rfl rfl (by decide)) ?_
    obtain ⟨c₁, hp⟩ := ck_some hp
    refine WO_v (a_add (a := d) (b := (times.tmod 4)) rfl rfl c₁) ?_
    obtain ⟨c₂, hp⟩ := ck_some hp
    refine WO_v (a_add (a := (d + (times.tmod 4))) (b := 4) rfl rfl c₂) ?_
    refine WO_v (a_rem (a := ((d + (times.tmod 4)) + 4)) (b := 4) rfl rfl (by decide)) ?_
    refine WO_v (a_mv (v := .i .i64 (((d + (times.tmod 4)) + 4).tmod 4)) rfl) ?_
    refine WO_end ?_
    refine then_n ?_
    refine W_rt ?_
    refine Ret_r (rs_t (n := 4) (v := .i .i64 (((d + (times.tmod 4)) + 4).tmod 4)) rfl rs_nil) ?_
    have hp := Option.some.inj hp; subst hp
    exact (And.intro rfl (hO₁.pick [] rfl (by decide)))

theorem p_grid_Grid_lay.ok {h : Hp} {g : T_grid_Grid} {v : Int} {d : Int} {w : Int} {owner : Int} {r_g : Nat} {v_g_cells : V} (H : Own (Bm h [eBox r_g [v_g_cells], eSl e_T_api_Cell v_g_cells g.cells]) h h [eBox r_g [v_g_cells], eSl e_T_api_Cell v_g_cells g.cells]) {r : T_grid_Grid} (hp : p_grid_Grid_lay g v d w owner = some r) :
    ∃ u k', Is G 76 [.p r_g 0, .i .i64 v, .i .i64 d, .i .i64 w, .i .i64 owner] h u k' ∧ ∃ (v₁ : V), V.tu [] = u ∧ Own (Bm h [eBox r_g [v_g_cells], eSl e_T_api_Cell v_g_cells g.cells]) h k' [eBox r_g [v₁], eSl e_T_api_Cell v₁ r.cells] := by
  refine WC.is (WC_of G_F_grid_Grid_lay ?_)
  unfold p_grid_Grid_lay at hp
  let B : Nat → Prop := (Bm h [eBox r_g [v_g_cells], eSl e_T_api_Cell v_g_cells g.cells])
  have hO : Own B h h [eBox r_g [v_g_cells], eSl e_T_api_Cell v_g_cells g.cells] := H
  refine W_sq ?_
  refine W_rg ?_
  refine WO_v (a_mv (v := .i .i64 d) rfl) ?_
  obtain ⟨x, hx₁, hp⟩ := bd_some hp
  obtain ⟨u₁, k₁, ca₁, rfl, hW₁⟩ := p_compass_Left.ok (h := h)   hx₁
  refine WO_c (id := 77) (caps := []) rfl (mp_cons (v := .i .i64 d) rfl (mp_cons (v := .i .i64 2) rfl mp_nil)) ca₁ ?_
  have hO₁ : Own B h k₁ [eBox r_g [v_g_cells], eSl e_T_api_Cell v_g_cells g.cells] := hO.call hW₁ rfl
  refine WO_v (a_mv (v := .i .i64 x) rfl) ?_
  refine WO_end ?_
  refine then_n ?_
  refine W_sq ?_
  refine W_dr ?_
  have hW := hO₁.bump 22
  have fr₁ := Fresh.start k₁ 22
  have nb₁ : ∀ {i : Nat}, h.n ≤ k₁.n + i := Nat.le_trans hO₁.n (Nat.le_add_right _ _)
  have hO₂ : Own B h (k₁.bump 22) [eBox r_g [v_g_cells], eSl e_T_api_Cell v_g_cells g.cells] := hW
  refine WD_v (a_mv (v := .p r_g 0) rfl) ?_
  refine WD_v (a_nilp (r := r_g) (o := 0) rfl) ?_
  refine WD_v (a_fa (r := r_g) (o := 0) (o' := 0) rfl rfl) ?_
  refine WD_v (a_ldb (cs := [v_g_cells]) (v := v_g_cells) (hO₂.box 0 rfl) rfl rfl) ?_
  refine WD_v (a_mv (v := .i .i64 v) rfl) ?_
  refine WD_v (a_mv (v := .i .i64 d) rfl) ?_
  refine WD_v (a_mv (v := .p r_g 0) rfl) ?_
  refine WD_v (a_nilp (r := r_g) (o := 0) rfl) ?_
  refine WD_v (a_fa (r := r_g) (o := 0) (o' := 0) rfl rfl) ?_
  refine WD_v (a_ldb (cs := [v_g_cells]) (v := v_g_cells) (hO₂.box 0 rfl) rfl rfl) ?_
  refine WD_v (a_mv (v := .i .i64 v) rfl) ?_
  refine WD_v (a_mv (v := .i .i64 d) rfl) ?_
  refine WD_v (a_mv (v := .i .i64 w) rfl) ?_
  refine WD_v (a_mv (v := .i .i64 owner) rfl) ?_
  obtain ⟨c₁, hp⟩ := ck_some hp
  refine WD_v (a_ixa (E := e_T_api_Cell) (z := v) (hO₂.sl 1 rfl : Sl e_T_api_Cell (k₁.bump 22) v_g_cells g.cells) rfl rfl c₁) ?_
  refine WD_v (a_faE (off' := 0) (off2 := 0) (hO₂.sl 1 rfl : Sl e_T_api_Cell (k₁.bump 22) v_g_cells g.cells) (toNat_lt c₁) rfl rfl) ?_
  obtain ⟨c₂, hp⟩ := ck_some hp
  refine WD_v (a_ixaaE (off := 0) (off2 := (0 + (d : Int).toNat * 1)) (z := d) (hO₂.sl 1 rfl : Sl e_T_api_Cell (k₁.bump 22) v_g_cells g.cells) (toNat_lt c₁) rfl rfl c₂ rfl) ?_
  refine WD_x (hO₂.ste (E := e_T_api_Cell) (y := ({ gi g.cells (v : Int).toNat with Next := ((gi g.cells (v : Int).toNat).Next).set d w })) (ws := [.i .i64 w]) 1 rfl rfl (toNat_lt c₁) rfl rfl ⟨rfl, (by have := c₂; exact (show 0 + (d : Int).toNat * 1 + 1 ≤ 8 by omega)), rfl⟩ (st_T_api_Cell_Next c₂)) ?_
  rintro _ k₃ z₁ ⟨rfl, f₁, m₁, hW⟩
  have fr₂ := fr₁.kept f₁ (by decide)
  have hO₃ : Own B h k₃ [eBox r_g [v_g_cells], eSl e_T_api_Cell v_g_cells (g.cells.set (v : Int).toNat ({ gi g.cells (v : Int).toNat with Next := ((gi g.cells (v : Int).toNat).Next).set d w }))] := hW
  obtain ⟨c₃, hp⟩ := ck_some hp
  refine WD_v (a_ixa (E := e_T_api_Cell) (z := v) (hO₃.sl 1 rfl : Sl e_T_api_Cell k₃ v_g_cells (g.cells.set (v : Int).toNat ({ gi g.cells (v : Int).toNat with Next := ((gi g.cells (v : Int).toNat).Next).set d w }))) rfl rfl c₃) ?_
  refine WD_v (a_faE (off' := 0) (off2 := 4) (hO₃.sl 1 rfl : Sl e_T_api_Cell k₃ v_g_cells (g.cells.set (v : Int).toNat ({ gi g.cells (v : Int).toNat with Next := ((gi g.cells (v : Int).toNat).Next).set d w }))) (toNat_lt c₃) rfl rfl) ?_
  refine WD_v (a_ixaaE (off := 4) (off2 := (4 + (d : Int).toNat * 1)) (z := d) (hO₃.sl 1 rfl : Sl e_T_api_Cell k₃ v_g_cells (g.cells.set (v : Int).toNat ({ gi g.cells (v : Int).toNat with Next := ((gi g.cells (v : Int).toNat).Next).set d w }))) (toNat_lt c₃) rfl rfl c₂ rfl) ?_
  refine WD_x (hO₃.ste (E := e_T_api_Cell) (y := ({ gi (g.cells.set (v : Int).toNat ({ gi g.cells (v : Int).toNat with Next := ((gi g.cells (v : Int).toNat).Next).set d w })) (v : Int).toNat with Owner := ((gi (g.cells.set (v : Int).toNat ({ gi g.cells (v : Int).toNat with Next := ((gi g.cells (v : Int).toNat).Next).set d w })) (v : Int).toNat).Owner).set d owner })) (ws := [.i .i64 owner]) 1 rfl rfl (toNat_lt c₃) rfl rfl ⟨rfl, (by have := c₂; exact (show 4 + (d : Int).toNat * 1 + 1 ≤ 8 by omega)), rfl⟩ (st_T_api_Cell_Owner c₂)) ?_
  rintro _ k₄ z₂ ⟨rfl, f₂, m₂, hW⟩
  have fr₃ := fr₂.kept f₂ (by decide)
  have hO₄ : Own B h k₄ [eBox r_g [v_g_cells], eSl e_T_api_Cell v_g_cells ((g.cells.set (v : Int).toNat ({ gi g.cells (v : Int).toNat with Next := ((gi g.cells (v : Int).toNat).Next).set d w })).set (v : Int).toNat ({ gi (g.cells.set (v : Int).toNat ({ gi g.cells (v : Int).toNat with Next := ((gi g.cells (v : Int).toNat).Next).set d w })) (v : Int).toNat with Owner := ((gi (g.cells.set (v : Int).toNat ({ gi g.cells (v : Int).toNat with Next := ((gi g.cells (v : Int).toNat).Next).set d w })) (v : Int).toNat).Owner).set d owner }))] := hW
  refine WD_end ?_
  refine And.intro ?_ ?_
  · intro q hq
    simp only [List.mem_cons, List.not_mem_nil, or_false] at hq
    rcases hq with rfl
    · refine ap_ll ?_ ?_
      · exact (fun h => nomatch h)
      · exact (fun h => nomatch h)
  refine then_n ?_
  refine W_dr ?_
  have hW := hO₄.bump 22
  have fr₄ := Fresh.start k₄ 22
  have nb₂ : ∀ {i : Nat}, h.n ≤ k₄.n + i := Nat.le_trans hO₄.n (Nat.le_add_right _ _)
  have hO₅ : Own B h (k₄.bump 22) [eBox r_g [v_g_cells], eSl e_T_api_Cell v_g_cells ((g.cells.set (v : Int).toNat ({ gi g.cells (v : Int).toNat with Next := ((gi g.cells (v : Int).toNat).Next).set d w })).set (v : Int).toNat ({ gi (g.cells.set (v : Int).toNat ({ gi g.cells (v : Int).toNat with Next := ((gi g.cells (v : Int).toNat).Next).set d w })) (v : Int).toNat with Owner := ((gi (g.cells.set (v : Int).toNat ({ gi g.cells (v : Int).toNat with Next := ((gi g.cells (v : Int).toNat).Next).set d w })) (v : Int).toNat).Owner).set d owner }))] := hW
  refine WD_v (a_mv (v := .p r_g 0) rfl) ?_
  refine WD_v (a_nilp (r := r_g) (o := 0) rfl) ?_
  refine WD_v (a_fa (r := r_g) (o := 0) (o' := 0) rfl rfl) ?_
  refine WD_v (a_ldb (cs := [v_g_cells]) (v := v_g_cells) (hO₅.box 0 rfl) rfl rfl) ?_
  refine WD_v (a_mv (v := .i .i64 w) rfl) ?_
  refine WD_v (a_mv (v := .i .i64 x) rfl) ?_
  refine WD_v (a_mv (v := .p r_g 0) rfl) ?_
  refine WD_v (a_nilp (r := r_g) (o := 0) rfl) ?_
  refine WD_v (a_fa (r := r_g) (o := 0) (o' := 0) rfl rfl) ?_
  refine WD_v (a_ldb (cs := [v_g_cells]) (v := v_g_cells) (hO₅.box 0 rfl) rfl rfl) ?_
  refine WD_v (a_mv (v := .i .i64 w) rfl) ?_
  refine WD_v (a_mv (v := .i .i64 x) rfl) ?_
  refine WD_v (a_mv (v := .i .i64 v) rfl) ?_
  refine WD_v (a_mv (v := .i .i64 owner) rfl) ?_
  obtain ⟨c₄, hp⟩ := ck_some hp
  refine WD_v (a_ixa (E := e_T_api_Cell) (z := w) (hO₅.sl 1 rfl : Sl e_T_api_Cell (k₄.bump 22) v_g_cells ((g.cells.set (v : Int).toNat ({ gi g.cells (v : Int).toNat with Next := ((gi g.cells (v : Int).toNat).Next).set d w })).set (v : Int).toNat ({ gi (g.cells.set (v : Int).toNat ({ gi g.cells (v : Int).toNat with Next := ((gi g.cells (v : Int).toNat).Next).set d w })) (v : Int).toNat with Owner := ((gi (g.cells.set (v : Int).toNat ({ gi g.cells (v : Int).toNat with Next := ((gi g.cells (v : Int).toNat).Next).set d w })) (v : Int).toNat).Owner).set d owner }))) rfl rfl c₄) ?_
  refine WD_v (a_faE (off' := 0) (off2 := 0) (hO₅.sl 1 rfl : Sl e_T_api_Cell (k₄.bump 22) v_g_cells ((g.cells.set (v : Int).toNat ({ gi g.cells (v : Int).toNat with Next := ((gi g.cells (v : Int).toNat).Next).set d w })).set (v : Int).toNat ({ gi (g.cells.set (v : Int).toNat ({ gi g.cells (v : Int).toNat with Next := ((gi g.cells (v : Int).toNat).Next).set d w })) (v : Int).toNat with Owner := ((gi (g.cells.set (v : Int).toNat ({ gi g.cells (v : Int).toNat with Next := ((gi g.cells (v : Int).toNat).Next).set d w })) (v : Int).toNat).Owner).set d owner }))) (toNat_lt c₄) rfl rfl) ?_
  obtain ⟨c₅, hp⟩ := ck_some hp
  refine WD_v (a_ixaaE (off := 0) (off2 := (0 + (x : Int).toNat * 1)) (z := x) (hO₅.sl 1 rfl : Sl e_T_api_Cell (k₄.bump 22) v_g_cells ((g.cells.set (v : Int).toNat ({ gi g.cells (v : Int).toNat with Next := ((gi g.cells (v : Int).toNat).Next).set d w })).set (v : Int).toNat ({ gi (g.cells.set (v : Int).toNat ({ gi g.cells (v : Int).toNat with Next := ((gi g.cells (v : Int).toNat).Next).set d w })) (v : Int).toNat with Owner := ((gi (g.cells.set (v : Int).toNat ({ gi g.cells (v : Int).toNat with Next := ((gi g.cells (v : Int).toNat).Next).set d w })) (v : Int).toNat).Owner).set d owner }))) (toNat_lt c₄) rfl rfl c₅ rfl) ?_
  refine WD_x (hO₅.ste (E := e_T_api_Cell) (y := ({ gi ((g.cells.set (v : Int).toNat ({ gi g.cells (v : Int).toNat with Next := ((gi g.cells (v : Int).toNat).Next).set d w })).set (v : Int).toNat ({ gi (g.cells.set (v : Int).toNat ({ gi g.cells (v : Int).toNat with Next := ((gi g.cells (v : Int).toNat).Next).set d w })) (v : Int).toNat with Owner := ((gi (g.cells.set (v : Int).toNat ({ gi g.cells (v : Int).toNat with Next := ((gi g.cells (v : Int).toNat).Next).set d w })) (v : Int).toNat).Owner).set d owner })) (w : Int).toNat with Next := ((gi ((g.cells.set (v : Int).toNat ({ gi g.cells (v : Int).toNat with Next := ((gi g.cells (v : Int).toNat).Next).set d w })).set (v : Int).toNat ({ gi (g.cells.set (v : Int).toNat ({ gi g.cells (v : Int).toNat with Next := ((gi g.cells (v : Int).toNat).Next).set d w })) (v : Int).toNat with Owner := ((gi (g.cells.set (v : Int).toNat ({ gi g.cells (v : Int).toNat with Next := ((gi g.cells (v : Int).toNat).Next).set d w })) (v : Int).toNat).Owner).set d owner })) (w : Int).toNat).Next).set x v })) (ws := [.i .i64 v]) 1 rfl rfl (toNat_lt c₄) rfl rfl ⟨rfl, (by have := c₅; exact (show 0 + (x : Int).toNat * 1 + 1 ≤ 8 by omega)), rfl⟩ (st_T_api_Cell_Next c₅)) ?_
  rintro _ k₆ z₃ ⟨rfl, f₃, m₃, hW⟩
  have fr₅ := fr₄.kept f₃ (by decide)
  have hO₆ : Own B h k₆ [eBox r_g [v_g_cells], eSl e_T_api_Cell v_g_cells (((g.cells.set (v : Int).toNat ({ gi g.cells (v : Int).toNat with Next := ((gi g.cells (v : Int).toNat).Next).set d w })).set (v : Int).toNat ({ gi (g.cells.set (v : Int).toNat ({ gi g.cells (v : Int).toNat with Next := ((gi g.cells (v : Int).toNat).Next).set d w })) (v : Int).toNat with Owner := ((gi (g.cells.set (v : Int).toNat ({ gi g.cells (v : Int).toNat with Next := ((gi g.cells (v : Int).toNat).Next).set d w })) (v : Int).toNat).Owner).set d owner })).set (w : Int).toNat ({ gi ((g.cells.set (v : Int).toNat ({ gi g.cells (v : Int).toNat with Next := ((gi g.cells (v : Int).toNat).Next).set d w })).set (v : Int).toNat ({ gi (g.cells.set (v : Int).toNat ({ gi g.cells (v : Int).toNat with Next := ((gi g.cells (v : Int).toNat).Next).set d w })) (v : Int).toNat with Owner := ((gi (g.cells.set (v : Int).toNat ({ gi g.cells (v : Int).toNat with Next := ((gi g.cells (v : Int).toNat).Next).set d w })) (v : Int).toNat).Owner).set d owner })) (w : Int).toNat with Next := ((gi ((g.cells.set (v : Int).toNat ({ gi g.cells (v : Int).toNat with Next := ((gi g.cells (v : Int).toNat).Next).set d w })).set (v : Int).toNat ({ gi (g.cells.set (v : Int).toNat ({ gi g.cells (v : Int).toNat with Next := ((gi g.cells (v : Int).toNat).Next).set d w })) (v : Int).toNat with Owner := ((gi (g.cells.set (v : Int).toNat ({ gi g.cells (v : Int).toNat with Next := ((gi g.cells (v : Int).toNat).Next).set d w })) (v : Int).toNat).Owner).set d owner })) (w : Int).toNat).Next).set x v }))] := hW
  obtain ⟨c₆, hp⟩ := ck_some hp
  refine WD_v (a_ixa (E := e_T_api_Cell) (z := w) (hO₆.sl 1 rfl : Sl e_T_api_Cell k₆ v_g_cells (((g.cells.set (v : Int).toNat ({ gi g.cells (v : Int).toNat with Next := ((gi g.cells (v : Int).toNat).Next).set d w })).set (v : Int).toNat ({ gi (g.cells.set (v : Int).toNat ({ gi g.cells (v : Int).toNat with Next := ((gi g.cells (v : Int).toNat).Next).set d w })) (v : Int).toNat with Owner := ((gi (g.cells.set (v : Int).toNat ({ gi g.cells (v : Int).toNat with Next := ((gi g.cells (v : Int).toNat).Next).set d w })) (v : Int).toNat).Owner).set d owner })).set (w : Int).toNat ({ gi ((g.cells.set (v : Int).toNat ({ gi g.cells (v : Int).toNat with Next := ((gi g.cells (v : Int).toNat).Next).set d w })).set (v : Int).toNat ({ gi (g.cells.set (v : Int).toNat ({ gi g.cells (v : Int).toNat with Next := ((gi g.cells (v : Int).toNat).Next).set d w })) (v : Int).toNat with Owner := ((gi (g.cells.set (v : Int).toNat ({ gi g.cells (v : Int).toNat with Next := ((gi g.cells (v : Int).toNat).Next).set d w })) (v : Int).toNat).Owner).set d owner })) (w : Int).toNat with Next := ((gi ((g.cells.set (v : Int).toNat ({ gi g.cells (v : Int).toNat with Next := ((gi g.cells (v : Int).toNat).Next).set d w })).set (v : Int).toNat ({ gi (g.cells.set (v : Int).toNat ({ gi g.cells (v : Int).toNat with Next := ((gi g.cells (v : Int).toNat).Next).set d w })) (v : Int).toNat with Owner := ((gi (g.cells.set (v : Int).toNat ({ gi g.cells (v : Int).toNat with Next := ((gi g.cells (v : Int).toNat).Next).set d w })) (v : Int).toNat).Owner).set d owner })) (w : Int).toNat).Next).set x v }))) rfl rfl c₆) ?_
  refine WD_v (a_faE (off' := 0) (off2 := 4) (hO₆.sl 1 rfl : Sl e_T_api_Cell k₆ v_g_cells (((g.cells.set (v : Int).toNat ({ gi g.cells (v : Int).toNat with Next := ((gi g.cells (v : Int).toNat).Next).set d w })).set (v : Int).toNat ({ gi (g.cells.set (v : Int).toNat ({ gi g.cells (v : Int).toNat with Next := ((gi g.cells (v : Int).toNat).Next).set d w })) (v : Int).toNat with Owner := ((gi (g.cells.set (v : Int).toNat ({ gi g.cells (v : Int).toNat with Next := ((gi g.cells (v : Int).toNat).Next).set d w })) (v : Int).toNat).Owner).set d owner })).set (w : Int).toNat ({ gi ((g.cells.set (v : Int).toNat ({ gi g.cells (v : Int).toNat with Next := ((gi g.cells (v : Int).toNat).Next).set d w })).set (v : Int).toNat ({ gi (g.cells.set (v : Int).toNat ({ gi g.cells (v : Int).toNat with Next := ((gi g.cells (v : Int).toNat).Next).set d w })) (v : Int).toNat with Owner := ((gi (g.cells.set (v : Int).toNat ({ gi g.cells (v : Int).toNat with Next := ((gi g.cells (v : Int).toNat).Next).set d w })) (v : Int).toNat).Owner).set d owner })) (w : Int).toNat with Next := ((gi ((g.cells.set (v : Int).toNat ({ gi g.cells (v : Int).toNat with Next := ((gi g.cells (v : Int).toNat).Next).set d w })).set (v : Int).toNat ({ gi (g.cells.set (v : Int).toNat ({ gi g.cells (v : Int).toNat with Next := ((gi g.cells (v : Int).toNat).Next).set d w })) (v : Int).toNat with Owner := ((gi (g.cells.set (v : Int).toNat ({ gi g.cells (v : Int).toNat with Next := ((gi g.cells (v : Int).toNat).Next).set d w })) (v : Int).toNat).Owner).set d owner })) (w : Int).toNat).Next).set x v }))) (toNat_lt c₆) rfl rfl) ?_
  refine WD_v (a_ixaaE (off := 4) (off2 := (4 + (x : Int).toNat * 1)) (z := x) (hO₆.sl 1 rfl : Sl e_T_api_Cell k₆ v_g_cells (((g.cells.set (v : Int).toNat ({ gi g.cells (v : Int).toNat with Next := ((gi g.cells (v : Int).toNat).Next).set d w })).set (v : Int).toNat ({ gi (g.cells.set (v : Int).toNat ({ gi g.cells (v : Int).toNat with Next := ((gi g.cells (v : Int).toNat).Next).set d w })) (v : Int).toNat with Owner := ((gi (g.cells.set (v : Int).toNat ({ gi g.cells (v : Int).toNat with Next := ((gi g.cells (v : Int).toNat).Next).set d w })) (v : Int).toNat).Owner).set d owner })).set (w : Int).toNat ({ gi ((g.cells.set (v : Int).toNat ({ gi g.cells (v : Int).toNat with Next := ((gi g.cells (v : Int).toNat).Next).set d w })).set (v : Int).toNat ({ gi (g.cells.set (v : Int).toNat ({ gi g.cells (v : Int).toNat with Next := ((gi g.cells (v : Int).toNat).Next).set d w })) (v : Int).toNat with Owner := ((gi (g.cells.set (v : Int).toNat ({ gi g.cells (v : Int).toNat with Next := ((gi g.cells (v : Int).toNat).Next).set d w })) (v : Int).toNat).Owner).set d owner })) (w : Int).toNat with Next := ((gi ((g.cells.set (v : Int).toNat ({ gi g.cells (v : Int).toNat with Next := ((gi g.cells (v : Int).toNat).Next).set d w })).set (v : Int).toNat ({ gi (g.cells.set (v : Int).toNat ({ gi g.cells (v : Int).toNat with Next := ((gi g.cells (v : Int).toNat).Next).set d w })) (v : Int).toNat with Owner := ((gi (g.cells.set (v : Int).toNat ({ gi g.cells (v : Int).toNat with Next := ((gi g.cells (v : Int).toNat).Next).set d w })) (v : Int).toNat).Owner).set d owner })) (w : Int).toNat).Next).set x v }))) (toNat_lt c₆) rfl rfl c₅ rfl) ?_
  refine WD_x (hO₆.ste (E := e_T_api_Cell) (y := ({ gi (((g.cells.set (v : Int).toNat ({ gi g.cells (v : Int).toNat with Next := ((gi g.cells (v : Int).toNat).Next).set d w })).set (v : Int).toNat ({ gi (g.cells.set (v : Int).toNat ({ gi g.cells (v : Int).toNat with Next := ((gi g.cells (v : Int).toNat).Next).set d w })) (v : Int).toNat with Owner := ((gi (g.cells.set (v : Int).toNat ({ gi g.cells (v : Int).toNat with Next := ((gi g.cells (v : Int).toNat).Next).set d w })) (v : Int).toNat).Owner).set d owner })).set (w : Int).toNat ({ gi ((g.cells.set (v : Int).toNat ({ gi g.cells (v : Int).toNat with Next := ((gi g.cells (v : Int).toNat).Next).set d w })).set (v : Int).toNat ({ gi (g.cells.set (v : Int).toNat ({ gi g.cells (v : Int).toNat with Next := ((gi g.cells (v : Int).toNat).Next).set d w })) (v : Int).toNat with Owner := ((gi (g.cells.set (v : Int).toNat ({ gi g.cells (v : Int).toNat with Next := ((gi g.cells (v : Int).toNat).Next).set d w })) (v : Int).toNat).Owner).set d owner })) (w : Int).toNat with Next := ((gi ((g.cells.set (v : Int).toNat ({ gi g.cells (v : Int).toNat with Next := ((gi g.cells (v : Int).toNat).Next).set d w })).set (v : Int).toNat ({ gi (g.cells.set (v : Int).toNat ({ gi g.cells (v : Int).toNat with Next := ((gi g.cells (v : Int).toNat).Next).set d w })) (v : Int).toNat with Owner := ((gi (g.cells.set (v : Int).toNat ({ gi g.cells (v : Int).toNat with Next := ((gi g.cells (v : Int).toNat).Next).set d w })) (v : Int).toNat).Owner).set d owner })) (w : Int).toNat).Next).set x v })) (w : Int).toNat with Owner := ((gi (((g.cells.set (v : Int).toNat ({ gi g.cells (v : Int).toNat with Next := ((gi g.cells (v : Int).toNat).Next).set d w })).set (v : Int).toNat ({ gi (g.cells.set (v : Int).toNat ({ gi g.cells (v : Int).toNat with Next := ((gi g.cells (v : Int).toNat).Next).set d w })) (v : Int).toNat with Owner := ((gi (g.cells.set (v : Int).toNat ({ gi g.cells (v : Int).toNat with Next := ((gi g.cells (v : Int).toNat).Next).set d w })) (v : Int).toNat).Owner).set d owner })).set (w : Int).toNat ({ gi ((g.cells.set (v : Int).toNat ({ gi g.cells (v : Int).toNat with Next := ((gi g.cells (v : Int).toNat).Next).set d w })).set (v : Int).toNat ({ gi (g.cells.set (v : Int).toNat ({ gi g.cells (v : Int).toNat with Next := ((gi g.cells (v : Int).toNat).Next).set d w })) (v : Int).toNat with Owner := ((gi (g.cells.set (v : Int).toNat ({ gi g.cells (v : Int).toNat with Next := ((gi g.cells (v : Int).toNat).Next).set d w })) (v : Int).toNat).Owner).set d owner })) (w : Int).toNat with Next := ((gi ((g.cells.set (v : Int).toNat ({ gi g.cells (v : Int).toNat with Next := ((gi g.cells (v : Int).toNat).Next).set d w })).set (v : Int).toNat ({ gi (g.cells.set (v : Int).toNat ({ gi g.cells (v : Int).toNat with Next := ((gi g.cells (v : Int).toNat).Next).set d w })) (v : Int).toNat with Owner := ((gi (g.cells.set (v : Int).toNat ({ gi g.cells (v : Int).toNat with Next := ((gi g.cells (v : Int).toNat).Next).set d w })) (v : Int).toNat).Owner).set d owner })) (w : Int).toNat).Next).set x v })) (w : Int).toNat).Owner).set x owner })) (ws := [.i .i64 owner]) 1 rfl rfl (toNat_lt c₆) rfl rfl ⟨rfl, (by have := c₅; exact (show 4 + (x : Int).toNat * 1 + 1 ≤ 8 by omega)), rfl⟩ (st_T_api_Cell_Owner c₅)) ?_
  rintro _ k₇ z₄ ⟨rfl, f₄, m₄, hW⟩
  have fr₆ := fr₅.kept f₄ (by decide)
  have hO₇ : Own B h k₇ [eBox r_g [v_g_cells], eSl e_T_api_Cell v_g_cells ((((g.cells.set (v : Int).toNat ({ gi g.cells (v : Int).toNat with Next := ((gi g.cells (v : Int).toNat).Next).set d w })).set (v : Int).toNat ({ gi (g.cells.set (v : Int).toNat ({ gi g.cells (v : Int).toNat with Next := ((gi g.cells (v : Int).toNat).Next).set d w })) (v : Int).toNat with Owner := ((gi (g.cells.set (v : Int).toNat ({ gi g.cells (v : Int).toNat with Next := ((gi g.cells (v : Int).toNat).Next).set d w })) (v : Int).toNat).Owner).set d owner })).set (w : Int).toNat ({ gi ((g.cells.set (v : Int).toNat ({ gi g.cells (v : Int).toNat with Next := ((gi g.cells (v : Int).toNat).Next).set d w })).set (v : Int).toNat ({ gi (g.cells.set (v : Int).toNat ({ gi g.cells (v : Int).toNat with Next := ((gi g.cells (v : Int).toNat).Next).set d w })) (v : Int).toNat with Owner := ((gi (g.cells.set (v : Int).toNat ({ gi g.cells (v : Int).toNat with Next := ((gi g.cells (v : Int).toNat).Next).set d w })) (v : Int).toNat).Owner).set d owner })) (w : Int).toNat with Next := ((gi ((g.cells.set (v : Int).toNat ({ gi g.cells (v : Int).toNat with Next := ((gi g.cells (v : Int).toNat).Next).set d w })).set (v : Int).toNat ({ gi (g.cells.set (v : Int).toNat ({ gi g.cells (v : Int).toNat with Next := ((gi g.cells (v : Int).toNat).Next).set d w })) (v : Int).toNat with Owner := ((gi (g.cells.set (v : Int).toNat ({ gi g.cells (v : Int).toNat with Next := ((gi g.cells (v : Int).toNat).Next).set d w })) (v : Int).toNat).Owner).set d owner })) (w : Int).toNat).Next).set x v })).set (w : Int).toNat ({ gi (((g.cells.set (v : Int).toNat ({ gi g.cells (v : Int).toNat with Next := ((gi g.cells (v : Int).toNat).Next).set d w })).set (v : Int).toNat ({ gi (g.cells.set (v : Int).toNat ({ gi g.cells (v : Int).toNat with Next := ((gi g.cells (v : Int).toNat).Next).set d w })) (v : Int).toNat with Owner := ((gi (g.cells.set (v : Int).toNat ({ gi g.cells (v : Int).toNat with Next := ((gi g.cells (v : Int).toNat).Next).set d w })) (v : Int).toNat).Owner).set d owner })).set (w : Int).toNat ({ gi ((g.cells.set (v : Int).toNat ({ gi g.cells (v : Int).toNat with Next := ((gi g.cells (v : Int).toNat).Next).set d w })).set (v : Int).toNat ({ gi (g.cells.set (v : Int).toNat ({ gi g.cells (v : Int).toNat with Next := ((gi g.cells (v : Int).toNat).Next).set d w })) (v : Int).toNat with Owner := ((gi (g.cells.set (v : Int).toNat ({ gi g.cells (v : Int).toNat with Next := ((gi g.cells (v : Int).toNat).Next).set d w })) (v : Int).toNat).Owner).set d owner })) (w : Int).toNat with Next := ((gi ((g.cells.set (v : Int).toNat ({ gi g.cells (v : Int).toNat with Next := ((gi g.cells (v : Int).toNat).Next).set d w })).set (v : Int).toNat ({ gi (g.cells.set (v : Int).toNat ({ gi g.cells (v : Int).toNat with Next := ((gi g.cells (v : Int).toNat).Next).set d w })) (v : Int).toNat with Owner := ((gi (g.cells.set (v : Int).toNat ({ gi g.cells (v : Int).toNat with Next := ((gi g.cells (v : Int).toNat).Next).set d w })) (v : Int).toNat).Owner).set d owner })) (w : Int).toNat).Next).set x v })) (w : Int).toNat with Owner := ((gi (((g.cells.set (v : Int).toNat ({ gi g.cells (v : Int).toNat with Next := ((gi g.cells (v : Int).toNat).Next).set d w })).set (v : Int).toNat ({ gi (g.cells.set (v : Int).toNat ({ gi g.cells (v : Int).toNat with Next := ((gi g.cells (v : Int).toNat).Next).set d w })) (v : Int).toNat with Owner := ((gi (g.cells.set (v : Int).toNat ({ gi g.cells (v : Int).toNat with Next := ((gi g.cells (v : Int).toNat).Next).set d w })) (v : Int).toNat).Owner).set d owner })).set (w : Int).toNat ({ gi ((g.cells.set (v : Int).toNat ({ gi g.cells (v : Int).toNat with Next := ((gi g.cells (v : Int).toNat).Next).set d w })).set (v : Int).toNat ({ gi (g.cells.set (v : Int).toNat ({ gi g.cells (v : Int).toNat with Next := ((gi g.cells (v : Int).toNat).Next).set d w })) (v : Int).toNat with Owner := ((gi (g.cells.set (v : Int).toNat ({ gi g.cells (v : Int).toNat with Next := ((gi g.cells (v : Int).toNat).Next).set d w })) (v : Int).toNat).Owner).set d owner })) (w : Int).toNat with Next := ((gi ((g.cells.set (v : Int).toNat ({ gi g.cells (v : Int).toNat with Next := ((gi g.cells (v : Int).toNat).Next).set d w })).set (v : Int).toNat ({ gi (g.cells.set (v : Int).toNat ({ gi g.cells (v : Int).toNat with Next := ((gi g.cells (v : Int).toNat).Next).set d w })) (v : Int).toNat with Owner := ((gi (g.cells.set (v : Int).toNat ({ gi g.cells (v : Int).toNat with Next := ((gi g.cells (v : Int).toNat).Next).set d w })) (v : Int).toNat).Owner).set d owner })) (w : Int).toNat).Next).set x v })) (w : Int).toNat).Owner).set x owner }))] := hW
  refine WD_end ?_
  refine And.intro ?_ ?_
  · intro q hq
    simp only [List.mem_cons, List.not_mem_nil, or_false] at hq
    rcases hq with rfl
    · refine ap_ll ?_ ?_
      · exact (fun h => nomatch h)
      · exact (fun h => nomatch h)
  refine Ret_n rs_nil ?_
  have hp := Option.some.inj hp; subst hp
  exact (Exists.intro v_g_cells (And.intro rfl (hO₇.pick [0, 1] rfl (by decide))))

theorem p_grid_Grid_Join.ok {h : Hp} {g : T_grid_Grid} {v : Int} {d : Int} {w : Int} {owner : Int} {r_g : Nat} {v_g_cells : V} (H : Own (Bm h [eBox r_g [v_g_cells], eSl e_T_api_Cell v_g_cells g.cells]) h h [eBox r_g [v_g_cells], eSl e_T_api_Cell v_g_cells g.cells]) {r : Int × T_grid_Grid} (hp : p_grid_Grid_Join g v d w owner = some r) :
    ∃ u k', Is G 52 [.p r_g 0, .i .i64 v, .i .i64 d, .i .i64 w, .i .i64 owner] h u k' ∧ ∃ (v₁ : V), V.i .i64 r.1 = u ∧ Own (Bm h [eBox r_g [v_g_cells], eSl e_T_api_Cell v_g_cells g.cells]) h k' [eBox r_g [v₁], eSl e_T_api_Cell v₁ r.2.cells] := by
  refine WC.is (WC_of G_F_grid_Grid_Join ?_)
  unfold p_grid_Grid_Join at hp
  let B : Nat → Prop := (Bm h [eBox r_g [v_g_cells], eSl e_T_api_Cell v_g_cells g.cells])
  have hO : Own B h h [eBox r_g [v_g_cells], eSl e_T_api_Cell v_g_cells g.cells] := H
  refine W_sq ?_
  refine W_rg ?_
  refine WO_v (a_mv (v := .i .i64 0) rfl) ?_
  refine WO_end ?_
  refine then_n ?_
  refine W_sq ?_
  refine W_bl ?_
  refine W_sq ?_
  refine W_rg ?_
  refine WO_v (a_mv (v := .p r_g 0) rfl) ?_
  refine WO_v (a_eqP rfl rfl) ?_
  refine WO_v (a_mv (v := .b false) rfl) ?_
  refine WO_end ?_
  refine then_n ?_
  refine W_cF (t := false) rfl rfl ?_
  refine W_sq ?_
  refine W_rg ?_
  refine WO_v (a_mv (v := .p r_g 0) rfl) ?_
  refine WO_v (a_mv (v := .i .i64 v) rfl) ?_
  refine WO_v (a_mv (v := .i .i64 d) rfl) ?_
  obtain ⟨x, hx₁, hp⟩ := bd_some hp
  obtain ⟨u₁, k₁, ca₁, rfl, hW₁⟩ := p_grid_Grid_is.ok (h := h)  (hO.box 0 rfl) (hO.sl 1 rfl : Sl e_T_api_Cell h v_g_cells g.cells) hx₁
  refine WO_c (id := 75) (caps := []) rfl (mp_cons (v := .p r_g 0) rfl (mp_cons (v := .i .i64 v) rfl (mp_cons (v := .i .i64 d) rfl mp_nil))) ca₁ ?_
  have hO₁ : Own B h k₁ [eBox r_g [v_g_cells], eSl e_T_api_Cell v_g_cells g.cells] := hO.call hW₁ rfl
  refine WO_v (a_not (t := x) rfl) ?_
  refine WO_v (a_mv (v := .b (!x)) rfl) ?_
  obtain ⟨t, hv₁, hp⟩ := bd_some hp
  refine WO_cut 6 (fun fr' k' => Own B h k' [eBox r_g [v_g_cells], eSl e_T_api_Cell v_g_cells g.cells] ∧ fr' 26 = .b t ∧ fr' 0 = .p r_g 0 ∧ fr' 1 = .i .i64 v ∧ fr' 2 = .i .i64 d ∧ fr' 3 = .i .i64 w ∧ fr' 4 = .i .i64 owner) ?_ ?_
  · clear hp; rcases if_some hv₁ with ⟨b₁, hp⟩ | ⟨b₁, hp⟩
    · skip
      refine WO_off rfl b₁ ?_
      refine WO_off rfl b₁ ?_
      refine WO_off rfl b₁ ?_
      refine WO_off rfl b₁ ?_
      refine WO_off rfl b₁ ?_
      refine WO_v (a_pickT (t := (!x)) (v := .b t) rfl b₁ (Eq.trans (b := V.b true) rfl (congrArg V.b (Option.some.inj hp)))) ?_
      refine WO_end ?_
      exact ⟨hO₁.pick [0, 1] rfl (by decide), rfl, rfl, rfl, rfl, rfl, rfl⟩
    · skip
      refine WO_on rfl b₁ ?_
      refine WO_v (a_mv (v := .p r_g 0) rfl) ?_
      refine WO_on rfl b₁ ?_
      refine WO_v (a_mv (v := .i .i64 w) rfl) ?_
      refine WO_on rfl b₁ ?_
      refine WO_v (a_mv (v := .i .i64 d) rfl) ?_
      refine WO_on rfl b₁ ?_
      obtain ⟨x1, hx₂, hp⟩ := bd_some hp
      obtain ⟨u₂, k₂, ca₂, rfl, hW₂⟩ := p_grid_Grid_is.ok (h := k₁)  (hO₁.box 0 rfl) (hO₁.sl 1 rfl : Sl e_T_api_Cell k₁ v_g_cells g.cells) hx₂
      refine WO_c (id := 75) (caps := []) rfl (mp_cons (v := .p r_g 0) rfl (mp_cons (v := .i .i64 w) rfl (mp_cons (v := .i .i64 d) rfl mp_nil))) ca₂ ?_
      have hO₂ : Own B h k₂ [eBox r_g [v_g_cells], eSl e_T_api_Cell v_g_cells g.cells] := hO₁.call hW₂ rfl
      refine WO_on rfl b₁ ?_
      refine WO_v (a_not (t := x1) rfl) ?_
      refine WO_v (a_pickF (t := (!x)) (v := .b t) rfl b₁ (Eq.trans (b := V.b (!x1)) rfl (congrArg V.b (Option.some.inj hp)))) ?_
      refine WO_end ?_
      exact ⟨hO₂.pick [0, 1] rfl (by decide), rfl, rfl, rfl, rfl, rfl, rfl⟩
  rintro frg₁ k₃ ⟨hO₃, g₁_26, g₁_0, g₁_1, g₁_2, g₁_3, g₁_4⟩
  refine WO_v (a_mv (v := .b t) g₁_26) ?_
  refine WO_cut 4 (fun fr' k' => k₃ = k' ∧ fr' 31 = .b (t || (decide (v = w))) ∧ fr' 0 = .p r_g 0 ∧ fr' 1 = .i .i64 v ∧ fr' 2 = .i .i64 d ∧ fr' 3 = .i .i64 w ∧ fr' 4 = .i .i64 owner) ?_ ?_
  · rcases bc t with b₂ | b₂
    · skip
      refine WO_off rfl b₂ ?_
      refine WO_off rfl b₂ ?_
      refine WO_off rfl b₂ ?_
      refine WO_v (a_pickT (t := t) (v := .b (t || (decide (v = w)))) rfl b₂ (Eq.trans (b := V.b true) rfl (or_off b₂))) ?_
      refine WO_end ?_
      exact ⟨rfl, rfl, g₁_0, g₁_1, g₁_2, g₁_3, g₁_4⟩
    · skip
      refine WO_on rfl b₂ ?_
      refine WO_v (a_mv (v := .i .i64 v) g₁_1) ?_
      refine WO_on rfl b₂ ?_
      refine WO_v (a_mv (v := .i .i64 w) g₁_3) ?_
      refine WO_on rfl b₂ ?_
      refine WO_v (a_eqI (a := v) (b := w) rfl rfl) ?_
      refine WO_v (a_pickF (t := t) (v := .b (t || (decide (v = w)))) rfl b₂ (Eq.trans (b := V.b (decide (v = w))) rfl (or_on b₂))) ?_
      refine WO_end ?_
      exact ⟨rfl, rfl, g₁_0, g₁_1, g₁_2, g₁_3, g₁_4⟩
  rintro frg₂ _ ⟨rfl, g₂_31, g₂_0, g₂_1, g₂_2, g₂_3, g₂_4⟩
  refine WO_v (a_mv (v := .b (t || (decide (v = w)))) g₂_31) ?_
  refine WO_cut 3 (fun fr' k' => k₃ = k' ∧ fr' 35 = .b ((t || (decide (v = w))) || (decide (owner < (-2)))) ∧ fr' 0 = .p r_g 0 ∧ fr' 1 = .i .i64 v ∧ fr' 2 = .i .i64 d ∧ fr' 3 = .i .i64 w ∧ fr' 4 = .i .i64 owner) ?_ ?_
  · rcases bc (t || (decide (v = w))) with b₃ | b₃
    · skip
      refine WO_off rfl b₃ ?_
      refine WO_off rfl b₃ ?_
      refine WO_v (a_pickT (t := (t || (decide (v = w)))) (v := .b ((t || (decide (v = w))) || (decide (owner < (-2))))) rfl b₃ (Eq.trans (b := V.b true) rfl (or_off b₃))) ?_
      refine WO_end ?_
      exact ⟨rfl, rfl, g₂_0, g₂_1, g₂_2, g₂_3, g₂_4⟩
    · skip
      refine WO_on rfl b₃ ?_
      refine WO_v (a_mv (v := .i .i64 owner) g₂_4) ?_
      refine WO_on rfl b₃ ?_
      refine WO_v (a_lss (a := owner) (b := (-2)) rfl rfl) ?_
      refine WO_v (a_pickF (t := (t || (decide (v = w)))) (v := .b ((t || (decide (v = w))) || (decide (owner < (-2))))) rfl b₃ (Eq.trans (b := V.b (decide (owner < (-2)))) rfl (or_on b₃))) ?_
      refine WO_end ?_
      exact ⟨rfl, rfl, g₂_0, g₂_1, g₂_2, g₂_3, g₂_4⟩
  rintro frg₃ _ ⟨rfl, g₃_35, g₃_0, g₃_1, g₃_2, g₃_3, g₃_4⟩
  refine WO_v (a_mv (v := .b ((t || (decide (v = w))) || (decide (owner < (-2))))) g₃_35) ?_
  refine WO_end ?_
  refine then_n ?_
  rcases if_some hp with ⟨b₄, hp⟩ | ⟨b₄, hp⟩
  · refine W_cT (t := ((t || (decide (v = w))) || (decide (owner < (-2))))) rfl b₄ ?_
    refine W_sq ?_
    refine W_rg ?_
    refine WO_v (a_mv (v := .i .i64 2) rfl) ?_
    refine WO_end ?_
    refine then_n ?_
    refine W_rt ?_
    refine blk_r ?_
    refine then_r ?_
    refine Ret_r (rs_t (n := 10) (v := .i .i64 2) rfl rs_nil) ?_
    have hp := Option.some.inj hp; subst hp
    exact (Exists.intro v_g_cells (And.intro rfl (hO₃.pick [0, 1] rfl (by decide))))
  · refine W_cF (t := ((t || (decide (v = w))) || (decide (owner < (-2))))) rfl b₄ ?_
    refine W_sq ?_
    obtain ⟨o₁, ho₁, hp⟩ := bd_some hp
    refine W.mono (Q := fun e fr k => match (generalizing := false) o₁ with
        | x2 => e = .normal ∧ fr 0 = .p r_g 0 ∧ fr 1 = .i .i64 v ∧ fr 2 = .i .i64 d ∧ fr 3 = .i .i64 w ∧ fr 4 = .i .i64 owner ∧ fr 36 = .b x2 ∧ Own B h k [eBox r_g [v_g_cells], eSl e_T_api_Cell v_g_cells g.cells]) ?_ ?_
    · clear hp; have hp := ho₁; clear ho₁
      refine W_dr ?_
      have hW := hO₃.bump 26
      have fr₁ := Fresh.start k₃ 26
      have nb₁ : ∀ {i : Nat}, h.n ≤ k₃.n + i := Nat.le_trans hO₃.n (Nat.le_add_right _ _)
      have hO₅ : Own B h (k₃.bump 26) [eBox r_g [v_g_cells], eSl e_T_api_Cell v_g_cells g.cells] := hW
      refine WD_v (a_mv (v := .p r_g 0) g₃_0) ?_
      refine WD_v (a_nilp (r := r_g) (o := 0) rfl) ?_
      refine WD_v (a_fa (r := r_g) (o := 0) (o' := 0) rfl rfl) ?_
      refine WD_v (a_ldb (cs := [v_g_cells]) (v := v_g_cells) (hO₅.box 0 rfl) rfl rfl) ?_
      refine WD_v (a_mv (v := .i .i64 v) g₃_1) ?_
      refine WD_v (a_mv (v := .i .i64 d) g₃_2) ?_
      obtain ⟨c₁, hp⟩ := ck_some hp
      refine WD_v (a_ixa (E := e_T_api_Cell) (z := v) (hO₅.sl 1 rfl : Sl e_T_api_Cell (k₃.bump 26) v_g_cells g.cells) rfl rfl c₁) ?_
      refine WD_v (a_faE (off' := 0) (off2 := 0) (hO₅.sl 1 rfl : Sl e_T_api_Cell (k₃.bump 26) v_g_cells g.cells) (toNat_lt c₁) rfl rfl) ?_
      obtain ⟨c₂, hp⟩ := ck_some hp
      refine WD_v (a_ixaaE (off := 0) (off2 := (0 + (d : Int).toNat * 1)) (z := d) (hO₅.sl 1 rfl : Sl e_T_api_Cell (k₃.bump 26) v_g_cells g.cells) (toNat_lt c₁) rfl rfl c₂ rfl) ?_
      refine WD_v (a_ldE (w := .i .i64 (((gi g.cells (v : Int).toNat).Next).get d)) (hO₅.sl 1 rfl : Sl e_T_api_Cell (k₃.bump 26) v_g_cells g.cells) rfl (toNat_lt c₁) (ld_T_api_Cell_Next c₂)) ?_
      refine WD_v (a_neI (a := (((gi g.cells (v : Int).toNat).Next).get d)) (b := (-1)) rfl rfl) ?_
      refine WD_v (a_mv (v := .b (!(decide (((gi g.cells (v : Int).toNat).Next).get d = (-1))))) rfl) ?_
      rcases if_some hp with ⟨b₅, hp⟩ | ⟨b₅, hp⟩
      · skip
        refine WD_off rfl b₅ ?_
        refine WD_off rfl b₅ ?_
        refine WD_off rfl b₅ ?_
        refine WD_off rfl b₅ ?_
        refine WD_off rfl b₅ ?_
        refine WD_off rfl b₅ ?_
        refine WD_off rfl b₅ ?_
        refine WD_off rfl b₅ ?_
        refine WD_off rfl b₅ ?_
        refine WD_off rfl b₅ ?_
        refine WD_off rfl b₅ ?_
        refine WD_off rfl b₅ ?_
        refine WD_v (a_pickT (t := (!(decide (((gi g.cells (v : Int).toNat).Next).get d = (-1))))) (v := .b true) rfl b₅ rfl) ?_
        refine WD_v (a_mv (v := .b true) rfl) ?_
        refine WD_end ?_
        refine And.intro ?_ ?_
        · intro q hq
          simp only [List.mem_cons, List.not_mem_nil, or_false] at hq
          rcases hq with rfl
          · exact ap_n1
        have hp := Option.some.inj hp; subst hp
        exact (And.intro rfl (And.intro (g₃_0) (And.intro (g₃_1) (And.intro (g₃_2) (And.intro (g₃_3) (And.intro (g₃_4) (And.intro (rfl) (hO₅.pick [0, 1] rfl (by decide)))))))))
      · skip
        refine WD_on rfl b₅ ?_
        refine WD_v (a_mv (v := .p r_g 0) g₃_0) ?_
        refine WD_on rfl b₅ ?_
        refine WD_v (a_nilp (r := r_g) (o := 0) rfl) ?_
        refine WD_on rfl b₅ ?_
        refine WD_v (a_fa (r := r_g) (o := 0) (o' := 0) rfl rfl) ?_
        refine WD_on rfl b₅ ?_
        refine WD_v (a_ldb (cs := [v_g_cells]) (v := v_g_cells) (hO₅.box 0 rfl) rfl rfl) ?_
        refine WD_on rfl b₅ ?_
        refine WD_v (a_mv (v := .i .i64 w) g₃_3) ?_
        refine WD_on rfl b₅ ?_
        refine WD_v (a_mv (v := .i .i64 d) g₃_2) ?_
        refine WD_on rfl b₅ ?_
        obtain ⟨x3, hx₃, hp⟩ := bd_some hp
        obtain ⟨u₃, k₆, ca₃, rfl, hW₃⟩ := p_compass_Left.ok (h := (k₃.bump 26))   hx₃
        refine WD_c (id := 77) (caps := []) rfl (mp_cons (v := .i .i64 d) rfl (mp_cons (v := .i .i64 2) rfl mp_nil)) ca₃ ?_
        have fr₂ := fr₁.call hW₃
        have hO₆ : Own B h k₆ [eBox r_g [v_g_cells], eSl e_T_api_Cell v_g_cells g.cells] := hO₅.call hW₃ rfl
        refine WD_on rfl b₅ ?_
        obtain ⟨c₃, hp⟩ := ck_some hp
        refine WD_v (a_ixa (E := e_T_api_Cell) (z := w) (hO₆.sl 1 rfl : Sl e_T_api_Cell k₆ v_g_cells g.cells) rfl rfl c₃) ?_
        refine WD_on rfl b₅ ?_
        refine WD_v (a_faE (off' := 0) (off2 := 0) (hO₆.sl 1 rfl : Sl e_T_api_Cell k₆ v_g_cells g.cells) (toNat_lt c₃) rfl rfl) ?_
        refine WD_on rfl b₅ ?_
        obtain ⟨c₄, hp⟩ := ck_some hp
        refine WD_v (a_ixaaE (off := 0) (off2 := (0 + (x3 : Int).toNat * 1)) (z := x3) (hO₆.sl 1 rfl : Sl e_T_api_Cell k₆ v_g_cells g.cells) (toNat_lt c₃) rfl rfl c₄ rfl) ?_
        refine WD_on rfl b₅ ?_
        refine WD_v (a_ldE (w := .i .i64 (((gi g.cells (w : Int).toNat).Next).get x3)) (hO₆.sl 1 rfl : Sl e_T_api_Cell k₆ v_g_cells g.cells) rfl (toNat_lt c₃) (ld_T_api_Cell_Next c₄)) ?_
        refine WD_on rfl b₅ ?_
        refine WD_v (a_neI (a := (((gi g.cells (w : Int).toNat).Next).get x3)) (b := (-1)) rfl rfl) ?_
        refine WD_v (a_pickF (t := (!(decide (((gi g.cells (v : Int).toNat).Next).get d = (-1))))) (v := .b (!(decide (((gi g.cells (w : Int).toNat).Next).get x3 = (-1))))) rfl b₅ rfl) ?_
        refine WD_v (a_mv (v := .b (!(decide (((gi g.cells (w : Int).toNat).Next).get x3 = (-1))))) rfl) ?_
        refine WD_end ?_
        refine And.intro ?_ ?_
        · intro q hq
          simp only [List.mem_cons, List.not_mem_nil, or_false] at hq
          rcases hq with rfl
          · refine ap_ol rfl rfl ?_
            · exact (fun r hm hc => hc (hW₃.base r (Nat.lt_of_lt_of_le (hO₃.ltAt 0 rfl _ (tch (v := V.p r_g 0) (ld_el hm) rfl)) (Nat.le_trans (Nat.le_add_right _ _) fr₁.n))))
        have hp := Option.some.inj hp; subst hp
        exact (And.intro rfl (And.intro (g₃_0) (And.intro (g₃_1) (And.intro (g₃_2) (And.intro (g₃_3) (And.intro (g₃_4) (And.intro (rfl) (hO₆.pick [0, 1] rfl (by decide)))))))))
    intro e₁ q₁ k₄ hJ₁
    obtain ⟨x2, rfl⟩ : ∃ x, x = o₁ := ⟨_, rfl⟩
    obtain ⟨rfl, q₁_0, q₁_1, q₁_2, q₁_3, q₁_4, q₁_36, hO₄⟩ := hJ₁
    refine then_n ?_
    rcases if_some hp with ⟨b₆, hp⟩ | ⟨b₆, hp⟩
    · refine W_cT (t := x2) q₁_36 b₆ ?_
      refine W_sq ?_
      refine W_rg ?_
      refine WO_v (a_mv (v := .i .i64 9) rfl) ?_
      refine WO_end ?_
      refine then_n ?_
      refine W_rt ?_
      refine blk_r ?_
      refine then_r ?_
      refine Ret_r (rs_t (n := 10) (v := .i .i64 9) rfl rs_nil) ?_
      have hp := Option.some.inj hp; subst hp
      exact (Exists.intro v_g_cells (And.intro rfl (hO₄.pick [0, 1] rfl (by decide))))
    · refine W_cF (t := x2) q₁_36 b₆ ?_
      refine W_sk ?_
      refine blk_n ?_
      refine then_n ?_
      refine W_sq ?_
      refine W_rg ?_
      refine WO_v (a_mv (v := .p r_g 0) q₁_0) ?_
      refine WO_v (a_mv (v := .i .i64 v) q₁_1) ?_
      refine WO_v (a_mv (v := .i .i64 d) q₁_2) ?_
      refine WO_v (a_mv (v := .i .i64 w) q₁_3) ?_
      refine WO_v (a_mv (v := .i .i64 owner) q₁_4) ?_
      obtain ⟨m, hx₄, hp⟩ := bd_some hp
      obtain ⟨u₄, k₇, ca₄, v₂, rfl, hW₄⟩ := p_grid_Grid_lay.ok (h := k₄) (g := g) (v := v) (d := d) (w := w) (owner := owner) (hO₄.toM [0, 1] rfl (by decide))  hx₄
      refine WO_c (id := 76) (caps := []) rfl (mp_cons (v := .p r_g 0) rfl (mp_cons (v := .i .i64 v) rfl (mp_cons (v := .i .i64 d) rfl (mp_cons (v := .i .i64 w) rfl (mp_cons (v := .i .i64 owner) rfl mp_nil))))) ca₄ ?_
      have hO₇ : Own B h k₇ [eBox r_g [v₂], eSl e_T_api_Cell v₂ m.cells] := (hO₄.callM [0, 1] [] rfl rfl (by decide) hW₄ rfl).pick [0, 1] rfl (by decide)
      refine WO_end ?_
      refine then_n ?_
      refine W_sq ?_
      refine W_rg ?_
      refine WO_v (a_mv (v := .i .i64 0) rfl) ?_
      refine WO_end ?_
      refine then_n ?_
      refine W_rt ?_
      refine Ret_r (rs_t (n := 10) (v := .i .i64 0) rfl rs_nil) ?_
      have hp := Option.some.inj hp; subst hp
      exact (Exists.intro v₂ (And.intro rfl (hO₇.pick [0, 1] rfl (by decide))))

theorem p_grid_Grid_Next.ok {h : Hp} {g : T_grid_Grid} {v : Int} {d : Int} {r_g : Nat} {v_g_cells : V} {w_g : Bool} (b_g : h.m r_g = some (.cells w_g [v_g_cells])) (s_g_cells : Sl e_T_api_Cell h v_g_cells g.cells) {r : Int × Int × Bool} (hp : p_grid_Grid_Next g v d = some r) :
    ∃ u k', Is G 54 [.p r_g 0, .i .i64 v, .i .i64 d] h u k' ∧ V.tu [.i .i64 r.1, .i .i64 r.2.1, .b r.2.2] = u ∧ Own (fun r => r < h.n) h k' [] := by
  refine WC.is (WC_of G_F_grid_Grid_Next ?_)
  unfold p_grid_Grid_Next at hp
  let B : Nat → Prop := (fun r => r < h.n)
  have hO : Own B h h [] := Own.start0 h
  refine W_sq ?_
  refine W_rg ?_
  refine WO_v (a_mv (v := .i .i64 0) rfl) ?_
  refine WO_v (a_mv (v := .i .i64 0) rfl) ?_
  refine WO_v (a_mv (v := .b false) rfl) ?_
  refine WO_end ?_
  refine then_n ?_
  refine W_sq ?_
  refine W_sq ?_
  refine W_rg ?_
  refine WO_v (a_mv (v := .p r_g 0) rfl) ?_
  refine WO_v (a_mv (v := .i .i64 v) rfl) ?_
  refine WO_v (a_mv (v := .i .i64 d) rfl) ?_
  obtain ⟨x, hx₁, hp⟩ := bd_some hp
  obtain ⟨u₁, k₁, ca₁, rfl, hW₁⟩ := p_grid_Grid_is.ok (h := h)  (hO.rdB0 (RdB.of b_g)).choose_spec (hO.rd0 s_g_cells.rd : Sl e_T_api_Cell h v_g_cells g.cells) hx₁
  refine WO_c (id := 75) (caps := []) rfl (mp_cons (v := .p r_g 0) rfl (mp_cons (v := .i .i64 v) rfl (mp_cons (v := .i .i64 d) rfl mp_nil))) ca₁ ?_
  have hO₁ : Own B h k₁ [] := hO.call hW₁ rfl
  refine WO_v (a_not (t := x) rfl) ?_
  refine WO_v (a_mv (v := .b (!x)) rfl) ?_
  obtain ⟨t, hv₁, hp⟩ := bd_some hp
  refine WO_cut 12 (fun fr' k' => k₁ = k' ∧ fr' 26 = .b t ∧ fr' 0 = .p r_g 0 ∧ fr' 1 = .i .i64 v ∧ fr' 2 = .i .i64 d) ?_ ?_
  · clear hp; rcases if_some hv₁ with ⟨b₁, hp⟩ | ⟨b₁, hp⟩
    · skip
      refine WO_off rfl b₁ ?_
      refine WO_off rfl b₁ ?_
      refine WO_off rfl b₁ ?_
      refine WO_off rfl b₁ ?_
      refine WO_off rfl b₁ ?_
      refine WO_off rfl b₁ ?_
      refine WO_off rfl b₁ ?_
      refine WO_off rfl b₁ ?_
      refine WO_off rfl b₁ ?_
      refine WO_off rfl b₁ ?_
      refine WO_off rfl b₁ ?_
      refine WO_v (a_pickT (t := (!x)) (v := .b t) rfl b₁ (Eq.trans (b := V.b true) rfl (congrArg V.b (Option.some.inj hp)))) ?_
      refine WO_end ?_
      exact ⟨rfl, rfl, rfl, rfl, rfl⟩
    · skip
      refine WO_on rfl b₁ ?_
      refine WO_v (a_mv (v := .p r_g 0) rfl) ?_
      refine WO_on rfl b₁ ?_
      refine WO_v (a_nilp (r := r_g) (o := 0) rfl) ?_
      refine WO_on rfl b₁ ?_
      refine WO_v (a_fa (r := r_g) (o := 0) (o' := 0) rfl rfl) ?_
      refine WO_on rfl b₁ ?_
      refine WO_v (a_ldb (cs := [v_g_cells]) (v := v_g_cells) (hO₁.rdB0 (RdB.of b_g)).choose_spec rfl rfl) ?_
      refine WO_on rfl b₁ ?_
      refine WO_v (a_mv (v := .i .i64 v) rfl) ?_
      refine WO_on rfl b₁ ?_
      refine WO_v (a_mv (v := .i .i64 d) rfl) ?_
      refine WO_on rfl b₁ ?_
      obtain ⟨c₁, hp⟩ := ck_some hp
      refine WO_v (a_ixa (E := e_T_api_Cell) (z := v) (hO₁.rd0 s_g_cells.rd : Sl e_T_api_Cell k₁ v_g_cells g.cells) rfl rfl c₁) ?_
      refine WO_on rfl b₁ ?_
      refine WO_v (a_faE (off' := 0) (off2 := 0) (hO₁.rd0 s_g_cells.rd : Sl e_T_api_Cell k₁ v_g_cells g.cells) (toNat_lt c₁) rfl rfl) ?_
      refine WO_on rfl b₁ ?_
      obtain ⟨c₂, hp⟩ := ck_some hp
      refine WO_v (a_ixaaE (off := 0) (off2 := (0 + (d : Int).toNat * 1)) (z := d) (hO₁.rd0 s_g_cells.rd : Sl e_T_api_Cell k₁ v_g_cells g.cells) (toNat_lt c₁) rfl rfl c₂ rfl) ?_
      refine WO_on rfl b₁ ?_
      refine WO_v (a_ldE (w := .i .i64 (((gi g.cells (v : Int).toNat).Next).get d)) (hO₁.rd0 s_g_cells.rd : Sl e_T_api_Cell k₁ v_g_cells g.cells) rfl (toNat_lt c₁) (ld_T_api_Cell_Next c₂)) ?_
      refine WO_on rfl b₁ ?_
      refine WO_v (a_eqI (a := (((gi g.cells (v : Int).toNat).Next).get d)) (b := (-1)) rfl rfl) ?_
      refine WO_v (a_pickF (t := (!x)) (v := .b t) rfl b₁ (Eq.trans (b := V.b (decide (((gi g.cells (v : Int).toNat).Next).get d = (-1)))) rfl (congrArg V.b (Option.some.inj hp)))) ?_
      refine WO_end ?_
      exact ⟨rfl, rfl, rfl, rfl, rfl⟩
  rintro frg₁ _ ⟨rfl, g₁_26, g₁_0, g₁_1, g₁_2⟩
  refine WO_end ?_
  refine then_n ?_
  rcases if_some hp with ⟨b₂, hp⟩ | ⟨b₂, hp⟩
  · refine W_cT (t := t) g₁_26 b₂ ?_
    refine W_sq ?_
    refine W_rg ?_
    refine WO_v (a_mv (v := .i .i64 0) rfl) ?_
    refine WO_v (a_mv (v := .i .i64 0) rfl) ?_
    refine WO_v (a_mv (v := .b false) rfl) ?_
    refine WO_end ?_
    refine then_n ?_
    refine W_rt ?_
    refine then_r ?_
    refine Ret_r (rs_t (n := 6) (v := .i .i64 0) rfl (rs_t (n := 7) (v := .i .i64 0) rfl (rs_t (n := 8) (v := .b false) rfl rs_nil))) ?_
    have hp := Option.some.inj hp; subst hp
    exact (And.intro rfl (hO₁.pick [] rfl (by decide)))
  · refine W_cF (t := t) g₁_26 b₂ ?_
    refine W_sk ?_
    refine then_n ?_
    refine W_sq ?_
    refine W_qd ?_
    have hW := hO₁.bump 23
    have hO₂ : Own B h (k₁.bump 23) [] := hW
    refine WQ_v rfl (a_mv (v := .p r_g 0) g₁_0) ?_
    refine WQ_v rfl (a_nilp (r := r_g) (o := 0) rfl) ?_
    refine WQ_v rfl (a_fa (r := r_g) (o := 0) (o' := 0) rfl rfl) ?_
    refine WQ_v rfl (a_ldb (cs := [v_g_cells]) (v := v_g_cells) (hO₂.rdB0 (RdB.of b_g)).choose_spec rfl rfl) ?_
    refine WQ_v rfl (a_mv (v := .i .i64 v) g₁_1) ?_
    refine WQ_v rfl (a_mv (v := .i .i64 d) g₁_2) ?_
    obtain ⟨c₃, hp⟩ := ck_some hp
    refine WQ_v rfl (a_ixa (E := e_T_api_Cell) (z := v) (hO₂.rd0 s_g_cells.rd : Sl e_T_api_Cell (k₁.bump 23) v_g_cells g.cells) rfl rfl c₃) ?_
    refine WQ_v rfl (a_faE (off' := 0) (off2 := 0) (hO₂.rd0 s_g_cells.rd : Sl e_T_api_Cell (k₁.bump 23) v_g_cells g.cells) (toNat_lt c₃) rfl rfl) ?_
    obtain ⟨c₄, hp⟩ := ck_some hp
    refine WQ_v rfl (a_ixaaE (off := 0) (off2 := (0 + (d : Int).toNat * 1)) (z := d) (hO₂.rd0 s_g_cells.rd : Sl e_T_api_Cell (k₁.bump 23) v_g_cells g.cells) (toNat_lt c₃) rfl rfl c₄ rfl) ?_
    refine WQ_v rfl (a_ldE (w := .i .i64 (((gi g.cells (v : Int).toNat).Next).get d)) (hO₂.rd0 s_g_cells.rd : Sl e_T_api_Cell (k₁.bump 23) v_g_cells g.cells) rfl (toNat_lt c₃) (ld_T_api_Cell_Next c₄)) ?_
    refine WQ_v rfl (a_mv (v := .p r_g 0) g₁_0) ?_
    refine WQ_v rfl (a_nilp (r := r_g) (o := 0) rfl) ?_
    refine WQ_v rfl (a_fa (r := r_g) (o := 0) (o' := 0) rfl rfl) ?_
    refine WQ_v rfl (a_ldb (cs := [v_g_cells]) (v := v_g_cells) (hO₂.rdB0 (RdB.of b_g)).choose_spec rfl rfl) ?_
    refine WQ_v rfl (a_mv (v := .i .i64 v) g₁_1) ?_
    refine WQ_v rfl (a_mv (v := .i .i64 d) g₁_2) ?_
    refine WQ_v rfl (a_ixa (E := e_T_api_Cell) (z := v) (hO₂.rd0 s_g_cells.rd : Sl e_T_api_Cell (k₁.bump 23) v_g_cells g.cells) rfl rfl c₃) ?_
    refine WQ_v rfl (a_faE (off' := 0) (off2 := 4) (hO₂.rd0 s_g_cells.rd : Sl e_T_api_Cell (k₁.bump 23) v_g_cells g.cells) (toNat_lt c₃) rfl rfl) ?_
    refine WQ_v rfl (a_ixaaE (off := 4) (off2 := (4 + (d : Int).toNat * 1)) (z := d) (hO₂.rd0 s_g_cells.rd : Sl e_T_api_Cell (k₁.bump 23) v_g_cells g.cells) (toNat_lt c₃) rfl rfl c₄ rfl) ?_
    refine WQ_v rfl (a_ldE (w := .i .i64 (((gi g.cells (v : Int).toNat).Owner).get d)) (hO₂.rd0 s_g_cells.rd : Sl e_T_api_Cell (k₁.bump 23) v_g_cells g.cells) rfl (toNat_lt c₃) (ld_T_api_Cell_Owner c₄)) ?_
    refine WQ_v rfl (a_mv (v := .i .i64 (((gi g.cells (v : Int).toNat).Next).get d)) rfl) ?_
    refine WQ_v rfl (a_mv (v := .i .i64 (((gi g.cells (v : Int).toNat).Owner).get d)) rfl) ?_
    refine WQ_v rfl (a_mv (v := .b true) rfl) ?_
    refine WQ_end ?_
    refine then_n ?_
    refine W_rt ?_
    refine Ret_r (rs_t (n := 6) (v := .i .i64 (((gi g.cells (v : Int).toNat).Next).get d)) rfl (rs_t (n := 7) (v := .i .i64 (((gi g.cells (v : Int).toNat).Owner).get d)) rfl (rs_t (n := 8) (v := .b true) rfl rs_nil))) ?_
    have hp := Option.some.inj hp; subst hp
    exact (And.intro rfl (hO₂.pick [] rfl (by decide)))

theorem p_grid_Grid_Split.ok {h : Hp} {g : T_grid_Grid} {v : Int} {d : Int} {r_g : Nat} {v_g_cells : V} (H : Own (Bm h [eBox r_g [v_g_cells], eSl e_T_api_Cell v_g_cells g.cells]) h h [eBox r_g [v_g_cells], eSl e_T_api_Cell v_g_cells g.cells]) {r : Int × Int × T_grid_Grid} (hp : p_grid_Grid_Split g v d = some r) :
    ∃ u k', Is G 48 [.p r_g 0, .i .i64 v, .i .i64 d] h u k' ∧ ∃ (v₁ : V), V.tu [.i .i64 r.1, .i .i64 r.2.1] = u ∧ Own (Bm h [eBox r_g [v_g_cells], eSl e_T_api_Cell v_g_cells g.cells]) h k' [eBox r_g [v₁], eSl e_T_api_Cell v₁ r.2.2.cells] := by
  refine WC.is (WC_of G_F_grid_Grid_Split ?_)
  unfold p_grid_Grid_Split at hp
  let B : Nat → Prop := (Bm h [eBox r_g [v_g_cells], eSl e_T_api_Cell v_g_cells g.cells])
  have hO : Own B h h [eBox r_g [v_g_cells], eSl e_T_api_Cell v_g_cells g.cells] := H
  refine W_sq ?_
  refine W_rg ?_
  refine WO_v (a_mv (v := .i .i64 0) rfl) ?_
  refine WO_v (a_mv (v := .i .i64 0) rfl) ?_
  refine WO_end ?_
  refine then_n ?_
  refine W_sq ?_
  refine W_bl ?_
  refine W_sq ?_
  refine W_rg ?_
  refine WO_v (a_mv (v := .p r_g 0) rfl) ?_
  refine WO_v (a_eqP rfl rfl) ?_
  refine WO_v (a_mv (v := .b false) rfl) ?_
  refine WO_end ?_
  refine then_n ?_
  refine W_cF (t := false) rfl rfl ?_
  refine W_sq ?_
  refine W_rg ?_
  refine WO_v (a_mv (v := .p r_g 0) rfl) ?_
  refine WO_v (a_mv (v := .i .i64 v) rfl) ?_
  refine WO_v (a_mv (v := .i .i64 d) rfl) ?_
  obtain ⟨x, hx₁, hp⟩ := bd_some hp
  obtain ⟨u₁, k₁, ca₁, rfl, hW₁⟩ := p_grid_Grid_is.ok (h := h)  (hO.box 0 rfl) (hO.sl 1 rfl : Sl e_T_api_Cell h v_g_cells g.cells) hx₁
  refine WO_c (id := 75) (caps := []) rfl (mp_cons (v := .p r_g 0) rfl (mp_cons (v := .i .i64 v) rfl (mp_cons (v := .i .i64 d) rfl mp_nil))) ca₁ ?_
  have hO₁ : Own B h k₁ [eBox r_g [v_g_cells], eSl e_T_api_Cell v_g_cells g.cells] := hO.call hW₁ rfl
  refine WO_v (a_not (t := x) rfl) ?_
  refine WO_v (a_mv (v := .b (!x)) rfl) ?_
  refine WO_end ?_
  refine then_n ?_
  rcases if_some hp with ⟨b₁, hp⟩ | ⟨b₁, hp⟩
  · refine W_cT (t := (!x)) rfl b₁ ?_
    refine W_sq ?_
    refine W_rg ?_
    refine WO_v (a_mv (v := .i .i64 0) rfl) ?_
    refine WO_v (a_mv (v := .i .i64 2) rfl) ?_
    refine WO_end ?_
    refine then_n ?_
    refine W_rt ?_
    refine blk_r ?_
    refine then_r ?_
    refine Ret_r (rs_t (n := 6) (v := .i .i64 0) rfl (rs_t (n := 7) (v := .i .i64 2) rfl rs_nil)) ?_
    have hp := Option.some.inj hp; subst hp
    exact (Exists.intro v_g_cells (And.intro rfl (hO₁.pick [0, 1] rfl (by decide))))
  · refine W_cF (t := (!x)) rfl b₁ ?_
    refine W_sk ?_
    refine blk_n ?_
    refine then_n ?_
    refine W_sq ?_
    refine W_rg ?_
    refine WO_v (a_mv (v := .p r_g 0) rfl) ?_
    refine WO_v (a_mv (v := .i .i64 v) rfl) ?_
    refine WO_v (a_mv (v := .i .i64 d) rfl) ?_
    obtain ⟨⟨x1, x2, x3⟩, hx₂, hp⟩ := bd_some hp
    obtain ⟨u₂, k₂, ca₂, rfl, hW₂⟩ := p_grid_Grid_Next.ok (h := k₁)  (hO₁.box 0 rfl) (hO₁.sl 1 rfl : Sl e_T_api_Cell k₁ v_g_cells g.cells) hx₂
    refine WO_c (id := 54) (caps := []) rfl (mp_cons (v := .p r_g 0) rfl (mp_cons (v := .i .i64 v) rfl (mp_cons (v := .i .i64 d) rfl mp_nil))) ca₂ ?_
    have hO₂ : Own B h k₂ [eBox r_g [v_g_cells], eSl e_T_api_Cell v_g_cells g.cells] := hO₁.call hW₂ rfl
    refine WO_v (a_mv (v := .tu [.i .i64 x1, .i .i64 x2, .b x3]) rfl) ?_
    refine WO_v (a_ext (vs := [.i .i64 x1, .i .i64 x2, .b x3]) (v := .i .i64 x1) rfl rfl) ?_
    refine WO_v (a_ext (vs := [.i .i64 x1, .i .i64 x2, .b x3]) (v := .i .i64 x2) rfl rfl) ?_
    refine WO_v (a_ext (vs := [.i .i64 x1, .i .i64 x2, .b x3]) (v := .b x3) rfl rfl) ?_
    refine WO_v (a_mv (v := .i .i64 x1) rfl) ?_
    refine WO_v (a_mv (v := .i .i64 x2) rfl) ?_
    refine WO_v (a_mv (v := .b x3) rfl) ?_
    refine WO_end ?_
    refine then_n ?_
    refine W_sq ?_
    refine W_sq ?_
    refine W_rg ?_
    refine WO_v (a_mv (v := .b x3) rfl) ?_
    refine WO_v (a_not (t := x3) rfl) ?_
    refine WO_end ?_
    refine then_n ?_
    rcases if_some hp with ⟨b₂, hp⟩ | ⟨b₂, hp⟩
    · refine W_cT (t := (!x3)) rfl b₂ ?_
      refine W_sq ?_
      refine W_rg ?_
      refine WO_v (a_mv (v := .i .i64 0) rfl) ?_
      refine WO_v (a_mv (v := .i .i64 9) rfl) ?_
      refine WO_end ?_
      refine then_n ?_
      refine W_rt ?_
      refine then_r ?_
      refine Ret_r (rs_t (n := 6) (v := .i .i64 0) rfl (rs_t (n := 7) (v := .i .i64 9) rfl rs_nil)) ?_
      have hp := Option.some.inj hp; subst hp
      exact (Exists.intro v_g_cells (And.intro rfl (hO₂.pick [0, 1] rfl (by decide))))
    · refine W_cF (t := (!x3)) rfl b₂ ?_
      refine W_sk ?_
      refine then_n ?_
      refine W_sq ?_
      refine W_rg ?_
      refine WO_v (a_mv (v := .p r_g 0) rfl) ?_
      obtain ⟨⟨x4, x5, m⟩, hx₃, hp⟩ := bd_some hp
      obtain ⟨u₃, k₃, ca₃, v₂, rfl, hW₃⟩ := p_grid_Grid_Add.ok (h := k₂) (g := g) (hO₂.toM [0, 1] rfl (by decide))  hx₃
      refine WO_c (id := 50) (caps := []) rfl (mp_cons (v := .p r_g 0) rfl mp_nil) ca₃ ?_
      have hO₃ : Own B h k₃ [eBox r_g [v₂], eSl e_T_api_Cell v₂ m.cells] := (hO₂.callM [0, 1] [] rfl rfl (by decide) hW₃ rfl).pick [0, 1] rfl (by decide)
      refine WO_v (a_mv (v := .tu [.i .i64 x4, .i .i64 x5]) rfl) ?_
      refine WO_v (a_ext (vs := [.i .i64 x4, .i .i64 x5]) (v := .i .i64 x4) rfl rfl) ?_
      refine WO_v (a_ext (vs := [.i .i64 x4, .i .i64 x5]) (v := .i .i64 x5) rfl rfl) ?_
      refine WO_v (a_mv (v := .i .i64 x4) rfl) ?_
      refine WO_v (a_mv (v := .i .i64 x5) rfl) ?_
      refine WO_end ?_
      refine then_n ?_
      refine W_sq ?_
      refine W_sq ?_
      refine W_rg ?_
      refine WO_v (a_mv (v := .i .i64 x5) rfl) ?_
      refine WO_v (a_neI (a := x5) (b := 0) rfl rfl) ?_
      refine WO_end ?_
      refine then_n ?_
      rcases if_some hp with ⟨b₃, hp⟩ | ⟨b₃, hp⟩
      · refine W_cT (t := (!(decide (x5 = 0)))) rfl b₃ ?_
        refine W_sq ?_
        refine W_rg ?_
        refine WO_v (a_mv (v := .i .i64 x5) rfl) ?_
        refine WO_v (a_mv (v := .i .i64 0) rfl) ?_
        refine WO_v (a_mv (v := .i .i64 x5) rfl) ?_
        refine WO_end ?_
        refine then_n ?_
        refine W_rt ?_
        refine then_r ?_
        refine Ret_r (rs_t (n := 6) (v := .i .i64 0) rfl (rs_t (n := 7) (v := .i .i64 x5) rfl rs_nil)) ?_
        have hp := Option.some.inj hp; subst hp
        exact (Exists.intro v₂ (And.intro rfl (hO₃.pick [0, 1] rfl (by decide))))
      · refine W_cF (t := (!(decide (x5 = 0)))) rfl b₃ ?_
        refine W_sk ?_
        refine then_n ?_
        refine W_sq ?_
        refine W_rg ?_
        refine WO_v (a_mv (v := .p r_g 0) rfl) ?_
        refine WO_v (a_mv (v := .i .i64 v) rfl) ?_
        refine WO_v (a_mv (v := .i .i64 d) rfl) ?_
        refine WO_v (a_mv (v := .i .i64 x4) rfl) ?_
        refine WO_v (a_mv (v := .i .i64 x2) rfl) ?_
        obtain ⟨m1, hx₄, hp⟩ := bd_some hp
        obtain ⟨u₄, k₄, ca₄, v₃, rfl, hW₄⟩ := p_grid_Grid_lay.ok (h := k₃) (g := m) (v := v) (d := d) (w := x4) (owner := x2) (hO₃.toM [0, 1] rfl (by decide))  hx₄
        refine WO_c (id := 76) (caps := []) rfl (mp_cons (v := .p r_g 0) rfl (mp_cons (v := .i .i64 v) rfl (mp_cons (v := .i .i64 d) rfl (mp_cons (v := .i .i64 x4) rfl (mp_cons (v := .i .i64 x2) rfl mp_nil))))) ca₄ ?_
        have hO₄ : Own B h k₄ [eBox r_g [v₃], eSl e_T_api_Cell v₃ m1.cells] := (hO₃.callM [0, 1] [] rfl rfl (by decide) hW₄ rfl).pick [0, 1] rfl (by decide)
        refine WO_end ?_
        refine then_n ?_
        refine W_sq ?_
        refine W_rg ?_
        refine WO_v (a_mv (v := .p r_g 0) rfl) ?_
        refine WO_v (a_mv (v := .i .i64 x4) rfl) ?_
        refine WO_v (a_mv (v := .i .i64 d) rfl) ?_
        refine WO_v (a_mv (v := .i .i64 x1) rfl) ?_
        refine WO_v (a_mv (v := .i .i64 x2) rfl) ?_
        obtain ⟨m2, hx₅, hp⟩ := bd_some hp
        obtain ⟨u₅, k₅, ca₅, v₄, rfl, hW₅⟩ := p_grid_Grid_lay.ok (h := k₄) (g := m1) (v := x4) (d := d) (w := x1) (owner := x2) (hO₄.toM [0, 1] rfl (by decide))  hx₅
        refine WO_c (id := 76) (caps := []) rfl (mp_cons (v := .p r_g 0) rfl (mp_cons (v := .i .i64 x4) rfl (mp_cons (v := .i .i64 d) rfl (mp_cons (v := .i .i64 x1) rfl (mp_cons (v := .i .i64 x2) rfl mp_nil))))) ca₅ ?_
        have hO₅ : Own B h k₅ [eBox r_g [v₄], eSl e_T_api_Cell v₄ m2.cells] := (hO₄.callM [0, 1] [] rfl rfl (by decide) hW₅ rfl).pick [0, 1] rfl (by decide)
        refine WO_end ?_
        refine then_n ?_
        refine W_sq ?_
        refine W_rg ?_
        refine WO_v (a_mv (v := .i .i64 x4) rfl) ?_
        refine WO_v (a_mv (v := .i .i64 x4) rfl) ?_
        refine WO_v (a_mv (v := .i .i64 0) rfl) ?_
        refine WO_end ?_
        refine then_n ?_
        refine W_rt ?_
        refine Ret_r (rs_t (n := 6) (v := .i .i64 x4) rfl (rs_t (n := 7) (v := .i .i64 0) rfl rs_nil)) ?_
        have hp := Option.some.inj hp; subst hp
        exact (Exists.intro v₄ (And.intro rfl (hO₅.pick [0, 1] rfl (by decide))))

theorem p_grid_side.ok {h : Hp} {cells : List T_api_Cell} {v : Int} {d : Int} {v_cells : V} (s_cells : Sl e_T_api_Cell h v_cells cells) {r : Int} (hp : p_grid_side cells v d = some r) :
    ∃ u k', Is G 82 [v_cells, .i .i64 v, .i .i64 d] h u k' ∧ V.i .i64 r = u ∧ Own (fun r => r < h.n) h k' [] := by
  refine WC.is (WC_of G_F_grid_side ?_)
  unfold p_grid_side at hp
  let B : Nat → Prop := (fun r => r < h.n)
  have hO : Own B h h [] := Own.start0 h
  refine W_sq ?_
  refine W_rg ?_
  refine WO_v (a_mv (v := .i .i64 0) rfl) ?_
  refine WO_end ?_
  refine then_n ?_
  refine W_sq ?_
  refine W_qd ?_
  have hW := hO.bump 16
  have hO₁ : Own B h (h.bump 16) [] := hW
  refine WQ_v rfl (a_mv (v := v_cells) rfl) ?_
  refine WQ_v rfl (a_mv (v := .i .i64 v) rfl) ?_
  refine WQ_v rfl (a_mv (v := .i .i64 d) rfl) ?_
  obtain ⟨c₁, hp⟩ := ck_some hp
  refine WQ_v rfl (a_ixa (E := e_T_api_Cell) (z := v) (hO₁.rd0 s_cells.rd : Sl e_T_api_Cell (h.bump 16) v_cells cells) rfl rfl c₁) ?_
  refine WQ_v rfl (a_faE (off' := 0) (off2 := 0) (hO₁.rd0 s_cells.rd : Sl e_T_api_Cell (h.bump 16) v_cells cells) (toNat_lt c₁) rfl rfl) ?_
  obtain ⟨c₂, hp⟩ := ck_some hp
  refine WQ_v rfl (a_ixaaE (off := 0) (off2 := (0 + (d : Int).toNat * 1)) (z := d) (hO₁.rd0 s_cells.rd : Sl e_T_api_Cell (h.bump 16) v_cells cells) (toNat_lt c₁) rfl rfl c₂ rfl) ?_
  refine WQ_v rfl (a_ldE (w := .i .i64 (((gi cells (v : Int).toNat).Next).get d)) (hO₁.rd0 s_cells.rd : Sl e_T_api_Cell (h.bump 16) v_cells cells) rfl (toNat_lt c₁) (ld_T_api_Cell_Next c₂)) ?_
  refine WQ_v rfl (a_mv (v := v_cells) rfl) ?_
  refine WQ_v rfl (a_mv (v := .i .i64 v) rfl) ?_
  refine WQ_v rfl (a_mv (v := .i .i64 d) rfl) ?_
  refine WQ_v rfl (a_ixa (E := e_T_api_Cell) (z := v) (hO₁.rd0 s_cells.rd : Sl e_T_api_Cell (h.bump 16) v_cells cells) rfl rfl c₁) ?_
  refine WQ_v rfl (a_faE (off' := 0) (off2 := 4) (hO₁.rd0 s_cells.rd : Sl e_T_api_Cell (h.bump 16) v_cells cells) (toNat_lt c₁) rfl rfl) ?_
  refine WQ_v rfl (a_ixaaE (off := 4) (off2 := (4 + (d : Int).toNat * 1)) (z := d) (hO₁.rd0 s_cells.rd : Sl e_T_api_Cell (h.bump 16) v_cells cells) (toNat_lt c₁) rfl rfl c₂ rfl) ?_
  refine WQ_v rfl (a_ldE (w := .i .i64 (((gi cells (v : Int).toNat).Owner).get d)) (hO₁.rd0 s_cells.rd : Sl e_T_api_Cell (h.bump 16) v_cells cells) rfl (toNat_lt c₁) (ld_T_api_Cell_Owner c₂)) ?_
  refine WQ_v rfl (a_mv (v := .i .i64 (((gi cells (v : Int).toNat).Next).get d)) rfl) ?_
  refine WQ_v rfl (a_mv (v := .i .i64 (((gi cells (v : Int).toNat).Owner).get d)) rfl) ?_
  refine WQ_end ?_
  refine then_n ?_
  refine W_sq ?_
  refine W_sq ?_
  refine W_rg ?_
  refine WO_v (a_mv (v := .i .i64 (((gi cells (v : Int).toNat).Next).get d)) rfl) ?_
  refine WO_v (a_eqI (a := (((gi cells (v : Int).toNat).Next).get d)) (b := (-1)) rfl rfl) ?_
  refine WO_end ?_
  refine then_n ?_
  rcases if_some hp with ⟨b₁, hp⟩ | ⟨b₁, hp⟩
  · refine W_cT (t := (decide (((gi cells (v : Int).toNat).Next).get d = (-1)))) rfl b₁ ?_
    refine W_sq ?_
    refine W_sq ?_
    refine W_rg ?_
    refine WO_v (a_mv (v := .i .i64 (((gi cells (v : Int).toNat).Owner).get d)) rfl) ?_
    refine WO_v (a_neI (a := (((gi cells (v : Int).toNat).Owner).get d)) (b := 0) rfl rfl) ?_
    refine WO_end ?_
    refine then_n ?_
    rcases if_some hp with ⟨b₂, hp⟩ | ⟨b₂, hp⟩
    · refine W_cT (t := (!(decide (((gi cells (v : Int).toNat).Owner).get d = 0)))) rfl b₂ ?_
      refine W_sq ?_
      refine W_rg ?_
      refine WO_v (a_mv (v := .i .i64 9) rfl) ?_
      refine WO_end ?_
      refine then_n ?_
      refine W_rt ?_
      refine then_r ?_
      refine then_r ?_
      refine Ret_r (rs_t (n := 6) (v := .i .i64 9) rfl rs_nil) ?_
      have hp := Option.some.inj hp; subst hp
      exact (And.intro rfl (hO₁.pick [] rfl (by decide)))
    · refine W_cF (t := (!(decide (((gi cells (v : Int).toNat).Owner).get d = 0)))) rfl b₂ ?_
      refine W_sk ?_
      refine then_n ?_
      refine W_sq ?_
      refine W_rg ?_
      refine WO_v (a_mv (v := .i .i64 0) rfl) ?_
      refine WO_end ?_
      refine then_n ?_
      refine W_rt ?_
      refine then_r ?_
      refine Ret_r (rs_t (n := 6) (v := .i .i64 0) rfl rs_nil) ?_
      have hp := Option.some.inj hp; subst hp
      exact (And.intro rfl (hO₁.pick [] rfl (by decide)))
  · refine W_cF (t := (decide (((gi cells (v : Int).toNat).Next).get d = (-1)))) rfl b₁ ?_
    refine W_sk ?_
    refine then_n ?_
    refine W_sq ?_
    refine W_sq ?_
    refine W_rg ?_
    refine WO_v (a_mv (v := .i .i64 (((gi cells (v : Int).toNat).Next).get d)) rfl) ?_
    refine WO_v (a_lss (a := (((gi cells (v : Int).toNat).Next).get d)) (b := 0) rfl rfl) ?_
    refine WO_v (a_mv (v := .b (decide ((((gi cells (v : Int).toNat).Next).get d) < 0))) rfl) ?_
    refine WO_cut 5 (fun fr' k' => (h.bump 16) = k' ∧ fr' 35 = .b ((decide ((((gi cells (v : Int).toNat).Next).get d) < 0)) || (decide ((cells.length : Int) ≤ (((gi cells (v : Int).toNat).Next).get d)))) ∧ fr' 0 = v_cells ∧ fr' 1 = .i .i64 v ∧ fr' 2 = .i .i64 d ∧ fr' 7 = .i .i64 (((gi cells (v : Int).toNat).Next).get d) ∧ fr' 8 = .i .i64 (((gi cells (v : Int).toNat).Owner).get d)) ?_ ?_
    · rcases bc (decide ((((gi cells (v : Int).toNat).Next).get d) < 0)) with b₃ | b₃
      · skip
        refine WO_off rfl b₃ ?_
        refine WO_off rfl b₃ ?_
        refine WO_off rfl b₃ ?_
        refine WO_off rfl b₃ ?_
        refine WO_v (a_pickT (t := (decide ((((gi cells (v : Int).toNat).Next).get d) < 0))) (v := .b ((decide ((((gi cells (v : Int).toNat).Next).get d) < 0)) || (decide ((cells.length : Int) ≤ (((gi cells (v : Int).toNat).Next).get d))))) rfl b₃ (Eq.trans (b := V.b true) rfl (or_off b₃))) ?_
        refine WO_end ?_
        exact ⟨rfl, rfl, rfl, rfl, rfl, rfl, rfl⟩
      · skip
        refine WO_on rfl b₃ ?_
        refine WO_v (a_mv (v := .i .i64 (((gi cells (v : Int).toNat).Next).get d)) rfl) ?_
        refine WO_on rfl b₃ ?_
        refine WO_v (a_mv (v := v_cells) rfl) ?_
        refine WO_on rfl b₃ ?_
        refine WO_v (a_len (hO₁.rd0 s_cells.rd : Sl e_T_api_Cell (h.bump 16) v_cells cells) rfl) ?_
        refine WO_on rfl b₃ ?_
        refine WO_v (a_geq (a := (((gi cells (v : Int).toNat).Next).get d)) (b := (cells.length : Int)) rfl rfl) ?_
        refine WO_v (a_pickF (t := (decide ((((gi cells (v : Int).toNat).Next).get d) < 0))) (v := .b ((decide ((((gi cells (v : Int).toNat).Next).get d) < 0)) || (decide ((cells.length : Int) ≤ (((gi cells (v : Int).toNat).Next).get d))))) rfl b₃ (Eq.trans (b := V.b (decide ((cells.length : Int) ≤ (((gi cells (v : Int).toNat).Next).get d)))) rfl (or_on b₃))) ?_
        refine WO_end ?_
        exact ⟨rfl, rfl, rfl, rfl, rfl, rfl, rfl⟩
    rintro frg₁ _ ⟨rfl, g₁_35, g₁_0, g₁_1, g₁_2, g₁_7, g₁_8⟩
    refine WO_v (a_mv (v := .b ((decide ((((gi cells (v : Int).toNat).Next).get d) < 0)) || (decide ((cells.length : Int) ≤ (((gi cells (v : Int).toNat).Next).get d))))) g₁_35) ?_
    refine WO_cut 4 (fun fr' k' => (h.bump 16) = k' ∧ fr' 40 = .b (((decide ((((gi cells (v : Int).toNat).Next).get d) < 0)) || (decide ((cells.length : Int) ≤ (((gi cells (v : Int).toNat).Next).get d)))) || (decide (((gi cells (v : Int).toNat).Next).get d = v))) ∧ fr' 0 = v_cells ∧ fr' 1 = .i .i64 v ∧ fr' 2 = .i .i64 d ∧ fr' 7 = .i .i64 (((gi cells (v : Int).toNat).Next).get d) ∧ fr' 8 = .i .i64 (((gi cells (v : Int).toNat).Owner).get d)) ?_ ?_
    · rcases bc ((decide ((((gi cells (v : Int).toNat).Next).get d) < 0)) || (decide ((cells.length : Int) ≤ (((gi cells (v : Int).toNat).Next).get d)))) with b₄ | b₄
      · skip
        refine WO_off rfl b₄ ?_
        refine WO_off rfl b₄ ?_
        refine WO_off rfl b₄ ?_
        refine WO_v (a_pickT (t := ((decide ((((gi cells (v : Int).toNat).Next).get d) < 0)) || (decide ((cells.length : Int) ≤ (((gi cells (v : Int).toNat).Next).get d))))) (v := .b (((decide ((((gi cells (v : Int).toNat).Next).get d) < 0)) || (decide ((cells.length : Int) ≤ (((gi cells (v : Int).toNat).Next).get d)))) || (decide (((gi cells (v : Int).toNat).Next).get d = v)))) rfl b₄ (Eq.trans (b := V.b true) rfl (or_off b₄))) ?_
        refine WO_end ?_
        exact ⟨rfl, rfl, g₁_0, g₁_1, g₁_2, g₁_7, g₁_8⟩
      · skip
        refine WO_on rfl b₄ ?_
        refine WO_v (a_mv (v := .i .i64 (((gi cells (v : Int).toNat).Next).get d)) g₁_7) ?_
        refine WO_on rfl b₄ ?_
        refine WO_v (a_mv (v := .i .i64 v) g₁_1) ?_
        refine WO_on rfl b₄ ?_
        refine WO_v (a_eqI (a := (((gi cells (v : Int).toNat).Next).get d)) (b := v) rfl rfl) ?_
        refine WO_v (a_pickF (t := ((decide ((((gi cells (v : Int).toNat).Next).get d) < 0)) || (decide ((cells.length : Int) ≤ (((gi cells (v : Int).toNat).Next).get d))))) (v := .b (((decide ((((gi cells (v : Int).toNat).Next).get d) < 0)) || (decide ((cells.length : Int) ≤ (((gi cells (v : Int).toNat).Next).get d)))) || (decide (((gi cells (v : Int).toNat).Next).get d = v)))) rfl b₄ (Eq.trans (b := V.b (decide (((gi cells (v : Int).toNat).Next).get d = v))) rfl (or_on b₄))) ?_
        refine WO_end ?_
        exact ⟨rfl, rfl, g₁_0, g₁_1, g₁_2, g₁_7, g₁_8⟩
    rintro frg₂ _ ⟨rfl, g₂_40, g₂_0, g₂_1, g₂_2, g₂_7, g₂_8⟩
    refine WO_end ?_
    refine then_n ?_
    rcases if_some hp with ⟨b₅, hp⟩ | ⟨b₅, hp⟩
    · refine W_cT (t := (((decide ((((gi cells (v : Int).toNat).Next).get d) < 0)) || (decide ((cells.length : Int) ≤ (((gi cells (v : Int).toNat).Next).get d)))) || (decide (((gi cells (v : Int).toNat).Next).get d = v)))) g₂_40 b₅ ?_
      refine W_sq ?_
      refine W_rg ?_
      refine WO_v (a_mv (v := .i .i64 3) rfl) ?_
      refine WO_end ?_
      refine then_n ?_
      refine W_rt ?_
      refine then_r ?_
      refine Ret_r (rs_t (n := 6) (v := .i .i64 3) rfl rs_nil) ?_
      have hp := Option.some.inj hp; subst hp
      exact (And.intro rfl (hO₁.pick [] rfl (by decide)))
    · refine W_cF (t := (((decide ((((gi cells (v : Int).toNat).Next).get d) < 0)) || (decide ((cells.length : Int) ≤ (((gi cells (v : Int).toNat).Next).get d)))) || (decide (((gi cells (v : Int).toNat).Next).get d = v)))) g₂_40 b₅ ?_
      refine W_sk ?_
      refine then_n ?_
      refine W_sq ?_
      refine W_rg ?_
      refine WO_v (a_mv (v := .i .i64 d) g₂_2) ?_
      obtain ⟨x, hx₁, hp⟩ := bd_some hp
      obtain ⟨u₁, k₂, ca₁, rfl, hW₁⟩ := p_compass_Left.ok (h := (h.bump 16))   hx₁
      refine WO_c (id := 77) (caps := []) rfl (mp_cons (v := .i .i64 d) rfl (mp_cons (v := .i .i64 2) rfl mp_nil)) ca₁ ?_
      have hO₂ : Own B h k₂ [] := hO₁.call hW₁ rfl
      refine WO_v (a_mv (v := .i .i64 x) rfl) ?_
      refine WO_end ?_
      refine then_n ?_
      refine W_sq ?_
      refine W_sq ?_
      refine W_rg ?_
      refine WO_v (a_mv (v := v_cells) g₂_0) ?_
      refine WO_v (a_mv (v := .i .i64 (((gi cells (v : Int).toNat).Next).get d)) g₂_7) ?_
      refine WO_v (a_mv (v := .i .i64 x) rfl) ?_
      obtain ⟨c₃, hp⟩ := ck_some hp
      refine WO_v (a_ixa (E := e_T_api_Cell) (z := (((gi cells (v : Int).toNat).Next).get d)) (hO₂.rd0 s_cells.rd : Sl e_T_api_Cell k₂ v_cells cells) rfl rfl c₃) ?_
      refine WO_v (a_faE (off' := 0) (off2 := 0) (hO₂.rd0 s_cells.rd : Sl e_T_api_Cell k₂ v_cells cells) (toNat_lt c₃) rfl rfl) ?_
      obtain ⟨c₄, hp⟩ := ck_some hp
      refine WO_v (a_ixaaE (off := 0) (off2 := (0 + (x : Int).toNat * 1)) (z := x) (hO₂.rd0 s_cells.rd : Sl e_T_api_Cell k₂ v_cells cells) (toNat_lt c₃) rfl rfl c₄ rfl) ?_
      refine WO_v (a_ldE (w := .i .i64 (((gi cells (((gi cells (v : Int).toNat).Next).get d : Int).toNat).Next).get x)) (hO₂.rd0 s_cells.rd : Sl e_T_api_Cell k₂ v_cells cells) rfl (toNat_lt c₃) (ld_T_api_Cell_Next c₄)) ?_
      refine WO_v (a_mv (v := .i .i64 v) g₂_1) ?_
      refine WO_v (a_neI (a := (((gi cells (((gi cells (v : Int).toNat).Next).get d : Int).toNat).Next).get x)) (b := v) rfl rfl) ?_
      refine WO_v (a_mv (v := .b (!(decide (((gi cells (((gi cells (v : Int).toNat).Next).get d : Int).toNat).Next).get x = v)))) rfl) ?_
      refine WO_cut 10 (fun fr' k' => k₂ = k' ∧ fr' 62 = .b ((!(decide (((gi cells (((gi cells (v : Int).toNat).Next).get d : Int).toNat).Next).get x = v))) || (!(decide (((gi cells (((gi cells (v : Int).toNat).Next).get d : Int).toNat).Owner).get x = ((gi cells (v : Int).toNat).Owner).get d)))) ∧ fr' 8 = .i .i64 (((gi cells (v : Int).toNat).Owner).get d)) ?_ ?_
      · rcases bc (!(decide (((gi cells (((gi cells (v : Int).toNat).Next).get d : Int).toNat).Next).get x = v))) with b₆ | b₆
        · skip
          refine WO_off rfl b₆ ?_
          refine WO_off rfl b₆ ?_
          refine WO_off rfl b₆ ?_
          refine WO_off rfl b₆ ?_
          refine WO_off rfl b₆ ?_
          refine WO_off rfl b₆ ?_
          refine WO_off rfl b₆ ?_
          refine WO_off rfl b₆ ?_
          refine WO_off rfl b₆ ?_
          refine WO_v (a_pickT (t := (!(decide (((gi cells (((gi cells (v : Int).toNat).Next).get d : Int).toNat).Next).get x = v)))) (v := .b ((!(decide (((gi cells (((gi cells (v : Int).toNat).Next).get d : Int).toNat).Next).get x = v))) || (!(decide (((gi cells (((gi cells (v : Int).toNat).Next).get d : Int).toNat).Owner).get x = ((gi cells (v : Int).toNat).Owner).get d))))) rfl b₆ (Eq.trans (b := V.b true) rfl (or_off b₆))) ?_
          refine WO_end ?_
          exact ⟨rfl, rfl, g₂_8⟩
        · skip
          refine WO_on rfl b₆ ?_
          refine WO_v (a_mv (v := v_cells) g₂_0) ?_
          refine WO_on rfl b₆ ?_
          refine WO_v (a_mv (v := .i .i64 (((gi cells (v : Int).toNat).Next).get d)) g₂_7) ?_
          refine WO_on rfl b₆ ?_
          refine WO_v (a_mv (v := .i .i64 x) rfl) ?_
          refine WO_on rfl b₆ ?_
          refine WO_v (a_ixa (E := e_T_api_Cell) (z := (((gi cells (v : Int).toNat).Next).get d)) (hO₂.rd0 s_cells.rd : Sl e_T_api_Cell k₂ v_cells cells) rfl rfl c₃) ?_
          refine WO_on rfl b₆ ?_
          refine WO_v (a_faE (off' := 0) (off2 := 4) (hO₂.rd0 s_cells.rd : Sl e_T_api_Cell k₂ v_cells cells) (toNat_lt c₃) rfl rfl) ?_
          refine WO_on rfl b₆ ?_
          refine WO_v (a_ixaaE (off := 4) (off2 := (4 + (x : Int).toNat * 1)) (z := x) (hO₂.rd0 s_cells.rd : Sl e_T_api_Cell k₂ v_cells cells) (toNat_lt c₃) rfl rfl c₄ rfl) ?_
          refine WO_on rfl b₆ ?_
          refine WO_v (a_ldE (w := .i .i64 (((gi cells (((gi cells (v : Int).toNat).Next).get d : Int).toNat).Owner).get x)) (hO₂.rd0 s_cells.rd : Sl e_T_api_Cell k₂ v_cells cells) rfl (toNat_lt c₃) (ld_T_api_Cell_Owner c₄)) ?_
          refine WO_on rfl b₆ ?_
          refine WO_v (a_mv (v := .i .i64 (((gi cells (v : Int).toNat).Owner).get d)) g₂_8) ?_
          refine WO_on rfl b₆ ?_
          refine WO_v (a_neI (a := (((gi cells (((gi cells (v : Int).toNat).Next).get d : Int).toNat).Owner).get x)) (b := (((gi cells (v : Int).toNat).Owner).get d)) rfl rfl) ?_
          refine WO_v (a_pickF (t := (!(decide (((gi cells (((gi cells (v : Int).toNat).Next).get d : Int).toNat).Next).get x = v)))) (v := .b ((!(decide (((gi cells (((gi cells (v : Int).toNat).Next).get d : Int).toNat).Next).get x = v))) || (!(decide (((gi cells (((gi cells (v : Int).toNat).Next).get d : Int).toNat).Owner).get x = ((gi cells (v : Int).toNat).Owner).get d))))) rfl b₆ (Eq.trans (b := V.b (!(decide (((gi cells (((gi cells (v : Int).toNat).Next).get d : Int).toNat).Owner).get x = ((gi cells (v : Int).toNat).Owner).get d)))) rfl (or_on b₆))) ?_
          refine WO_end ?_
          exact ⟨rfl, rfl, g₂_8⟩
      rintro frg₃ _ ⟨rfl, g₃_62, g₃_8⟩
      refine WO_v (a_mv (v := .b ((!(decide (((gi cells (((gi cells (v : Int).toNat).Next).get d : Int).toNat).Next).get x = v))) || (!(decide (((gi cells (((gi cells (v : Int).toNat).Next).get d : Int).toNat).Owner).get x = ((gi cells (v : Int).toNat).Owner).get d))))) g₃_62) ?_
      refine WO_cut 3 (fun fr' k' => k₂ = k' ∧ fr' 66 = .b (((!(decide (((gi cells (((gi cells (v : Int).toNat).Next).get d : Int).toNat).Next).get x = v))) || (!(decide (((gi cells (((gi cells (v : Int).toNat).Next).get d : Int).toNat).Owner).get x = ((gi cells (v : Int).toNat).Owner).get d)))) || (decide ((((gi cells (v : Int).toNat).Owner).get d) < (-2))))) ?_ ?_
      · rcases bc ((!(decide (((gi cells (((gi cells (v : Int).toNat).Next).get d : Int).toNat).Next).get x = v))) || (!(decide (((gi cells (((gi cells (v : Int).toNat).Next).get d : Int).toNat).Owner).get x = ((gi cells (v : Int).toNat).Owner).get d)))) with b₇ | b₇
        · skip
          refine WO_off rfl b₇ ?_
          refine WO_off rfl b₇ ?_
          refine WO_v (a_pickT (t := ((!(decide (((gi cells (((gi cells (v : Int).toNat).Next).get d : Int).toNat).Next).get x = v))) || (!(decide (((gi cells (((gi cells (v : Int).toNat).Next).get d : Int).toNat).Owner).get x = ((gi cells (v : Int).toNat).Owner).get d))))) (v := .b (((!(decide (((gi cells (((gi cells (v : Int).toNat).Next).get d : Int).toNat).Next).get x = v))) || (!(decide (((gi cells (((gi cells (v : Int).toNat).Next).get d : Int).toNat).Owner).get x = ((gi cells (v : Int).toNat).Owner).get d)))) || (decide ((((gi cells (v : Int).toNat).Owner).get d) < (-2))))) rfl b₇ (Eq.trans (b := V.b true) rfl (or_off b₇))) ?_
          refine WO_end ?_
          exact ⟨rfl, rfl⟩
        · skip
          refine WO_on rfl b₇ ?_
          refine WO_v (a_mv (v := .i .i64 (((gi cells (v : Int).toNat).Owner).get d)) g₃_8) ?_
          refine WO_on rfl b₇ ?_
          refine WO_v (a_lss (a := (((gi cells (v : Int).toNat).Owner).get d)) (b := (-2)) rfl rfl) ?_
          refine WO_v (a_pickF (t := ((!(decide (((gi cells (((gi cells (v : Int).toNat).Next).get d : Int).toNat).Next).get x = v))) || (!(decide (((gi cells (((gi cells (v : Int).toNat).Next).get d : Int).toNat).Owner).get x = ((gi cells (v : Int).toNat).Owner).get d))))) (v := .b (((!(decide (((gi cells (((gi cells (v : Int).toNat).Next).get d : Int).toNat).Next).get x = v))) || (!(decide (((gi cells (((gi cells (v : Int).toNat).Next).get d : Int).toNat).Owner).get x = ((gi cells (v : Int).toNat).Owner).get d)))) || (decide ((((gi cells (v : Int).toNat).Owner).get d) < (-2))))) rfl b₇ (Eq.trans (b := V.b (decide ((((gi cells (v : Int).toNat).Owner).get d) < (-2)))) rfl (or_on b₇))) ?_
          refine WO_end ?_
          exact ⟨rfl, rfl⟩
      rintro frg₄ _ ⟨rfl, g₄_66⟩
      refine WO_end ?_
      refine then_n ?_
      rcases if_some hp with ⟨b₈, hp⟩ | ⟨b₈, hp⟩
      · refine W_cT (t := (((!(decide (((gi cells (((gi cells (v : Int).toNat).Next).get d : Int).toNat).Next).get x = v))) || (!(decide (((gi cells (((gi cells (v : Int).toNat).Next).get d : Int).toNat).Owner).get x = ((gi cells (v : Int).toNat).Owner).get d)))) || (decide ((((gi cells (v : Int).toNat).Owner).get d) < (-2))))) g₄_66 b₈ ?_
        refine W_sq ?_
        refine W_rg ?_
        refine WO_v (a_mv (v := .i .i64 9) rfl) ?_
        refine WO_end ?_
        refine then_n ?_
        refine W_rt ?_
        refine then_r ?_
        refine Ret_r (rs_t (n := 6) (v := .i .i64 9) rfl rs_nil) ?_
        have hp := Option.some.inj hp; subst hp
        exact (And.intro rfl (hO₂.pick [] rfl (by decide)))
      · refine W_cF (t := (((!(decide (((gi cells (((gi cells (v : Int).toNat).Next).get d : Int).toNat).Next).get x = v))) || (!(decide (((gi cells (((gi cells (v : Int).toNat).Next).get d : Int).toNat).Owner).get x = ((gi cells (v : Int).toNat).Owner).get d)))) || (decide ((((gi cells (v : Int).toNat).Owner).get d) < (-2))))) g₄_66 b₈ ?_
        refine W_sk ?_
        refine then_n ?_
        refine W_sq ?_
        refine W_rg ?_
        refine WO_v (a_mv (v := .i .i64 0) rfl) ?_
        refine WO_end ?_
        refine then_n ?_
        refine W_rt ?_
        refine Ret_r (rs_t (n := 6) (v := .i .i64 0) rfl rs_nil) ?_
        have hp := Option.some.inj hp; subst hp
        exact (And.intro rfl (hO₂.pick [] rfl (by decide)))

theorem p_grid_Check.ok {h : Hp} {cells : List T_api_Cell} {v_cells : V} (s_cells : Sl e_T_api_Cell h v_cells cells) {r : Int} (hp : p_grid_Check cells = some r) :
    ∃ u k', Is G 66 [v_cells] h u k' ∧ V.i .i64 r = u ∧ Own (fun r => r < h.n) h k' [] := by
  refine WC.is (WC_of G_F_grid_Check ?_)
  unfold p_grid_Check at hp
  let B : Nat → Prop := (fun r => r < h.n)
  have hO : Own B h h [] := Own.start0 h
  refine W_sq ?_
  refine W_rg ?_
  refine WO_v (a_mv (v := .i .i64 0) rfl) ?_
  refine WO_end ?_
  refine then_n ?_
  refine W_sq ?_
  refine W_sq ?_
  refine W_rg ?_
  refine WO_v (a_mv (v := v_cells) rfl) ?_
  refine WO_v (a_len (hO.rd0 s_cells.rd : Sl e_T_api_Cell h v_cells cells) rfl) ?_
  refine WO_v (a_gtr (a := (cells.length : Int)) (b := 4096) rfl rfl) ?_
  refine WO_end ?_
  refine then_n ?_
  rcases if_some hp with ⟨b₁, hp⟩ | ⟨b₁, hp⟩
  · refine W_cT (t := (decide (4096 < (cells.length : Int)))) rfl b₁ ?_
    refine W_sq ?_
    refine W_rg ?_
    refine WO_v (a_mv (v := .i .i64 6) rfl) ?_
    refine WO_end ?_
    refine then_n ?_
    refine W_rt ?_
    refine then_r ?_
    refine Ret_r (rs_t (n := 2) (v := .i .i64 6) rfl rs_nil) ?_
    have hp := Option.some.inj hp; subst hp
    exact (And.intro rfl (hO.pick [] rfl (by decide)))
  · refine W_cF (t := (decide (4096 < (cells.length : Int)))) rfl b₁ ?_
    refine W_sk ?_
    refine then_n ?_
    refine W_sq ?_
    refine W_sq ?_
    refine W_rg ?_
    refine WO_v (a_mv (v := v_cells) rfl) ?_
    refine WO_v (a_len (hO.rd0 s_cells.rd : Sl e_T_api_Cell h v_cells cells) rfl) ?_
    refine WO_v (a_mv (v := .i .i64 0) rfl) ?_
    refine WO_end ?_
    refine then_n ?_
    refine W_bl ?_
    obtain ⟨o₁, ho₁, hp⟩ := bd_some hp
    refine W.mono (Q := fun e fr k => match (generalizing := false) o₁ with
        | .inl _ => e = (.exit 0) ∧ Own B h k []
        | .inr x1 => e = .ret ∧ fr 2 = .i .i64 x1 ∧ Own B h k []) ?_ ?_
    · clear hp
      refine W_loopF (fun st fr k => match st with | x => fr 0 = v_cells ∧ fr 10 = .i .i64 (cells.length : Int) ∧ fr 11 = .i .i64 x ∧ Own B h k []) ho₁ (s := 0) (And.intro (rfl) (And.intro (rfl) (And.intro (rfl) (hO.pick [] rfl (by decide))))) ?_
      rintro x q₂ k₂ ⟨q₂_0, q₂_10, q₂_11, hO₂⟩ o₂ hp
      dsimp only [p_grid_Check.s0] at hp
      refine W_sq ?_
      refine W_rg ?_
      refine WO_v (a_lss (a := x) (b := (cells.length : Int)) q₂_11 q₂_10) ?_
      refine WO_end ?_
      refine then_n ?_
      refine W_sq ?_
      rcases if_some hp with ⟨b₂, hp⟩ | ⟨b₂, hp⟩
      · refine W_cT (t := (decide (x < (cells.length : Int)))) rfl b₂ ?_
        refine W_sk ?_
        refine then_n ?_
        refine W_sq ?_
        refine W_bl ?_
        refine W_sq ?_
        refine W_rg ?_
        refine WO_v (a_mv (v := .i .i64 x) q₂_11) ?_
        refine WO_v (a_mv (v := .i .i64 x) rfl) ?_
        refine WO_end ?_
        refine then_n ?_
        refine W_sq ?_
        refine W_rg ?_
        refine WO_v (a_mv (v := .i .i64 0) rfl) ?_
        refine WO_end ?_
        refine then_n ?_
        refine W_bl ?_
        obtain ⟨o₃, ho₂, hp⟩ := bd_some hp
        refine W.mono (Q := fun e fr k => match (generalizing := false) o₃ with
            | .inl _ => e = (.exit 2) ∧ fr 0 = v_cells ∧ fr 10 = .i .i64 (cells.length : Int) ∧ fr 11 = .i .i64 x ∧ Own B h k []
            | .inr x3 => e = .ret ∧ fr 2 = .i .i64 x3 ∧ Own B h k []) ?_ ?_
        · clear hp
          refine W_loopF (fun st fr k => match st with | x2 => fr 0 = v_cells ∧ fr 3 = .i .i64 x ∧ fr 10 = .i .i64 (cells.length : Int) ∧ fr 11 = .i .i64 x ∧ fr 14 = .i .i64 x2 ∧ Own B h k []) ho₂ (s := 0) (And.intro (q₂_0) (And.intro (rfl) (And.intro (q₂_10) (And.intro (q₂_11) (And.intro (rfl) (hO₂.pick [] rfl (by decide))))))) ?_
          rintro x2 q₄ k₄ ⟨q₄_0, q₄_3, q₄_10, q₄_11, q₄_14, hO₄⟩ o₄ hp
          dsimp only [p_grid_Check.s1] at hp
          refine W_sq ?_
          refine W_rg ?_
          refine WO_v (a_lss (a := x2) (b := 4) q₄_14 rfl) ?_
          refine WO_end ?_
          refine then_n ?_
          refine W_sq ?_
          rcases if_some hp with ⟨b₃, hp⟩ | ⟨b₃, hp⟩
          · refine W_cT (t := (decide (x2 < 4))) rfl b₃ ?_
            refine W_sk ?_
            refine then_n ?_
            refine W_sq ?_
            refine W_bl ?_
            refine W_sq ?_
            refine W_rg ?_
            refine WO_v (a_mv (v := .i .i64 x2) q₄_14) ?_
            refine WO_v (a_mv (v := .i .i64 x2) rfl) ?_
            refine WO_end ?_
            refine then_n ?_
            refine W_sq ?_
            refine W_rg ?_
            refine WO_v (a_mv (v := v_cells) q₄_0) ?_
            refine WO_v (a_mv (v := .i .i64 x) q₄_3) ?_
            refine WO_v (a_mv (v := .i .i64 x2) rfl) ?_
            obtain ⟨x4, hx₁, hp⟩ := bd_some hp
            obtain ⟨u₁, k₅, ca₁, rfl, hW₁⟩ := p_grid_side.ok (h := k₄)  (hO₄.rd0 s_cells.rd : Sl e_T_api_Cell k₄ v_cells cells) hx₁
            refine WO_c (id := 82) (caps := []) rfl (mp_cons (v := v_cells) rfl (mp_cons (v := .i .i64 x) rfl (mp_cons (v := .i .i64 x2) rfl mp_nil))) ca₁ ?_
            have hO₅ : Own B h k₅ [] := hO₄.call hW₁ rfl
            refine WO_v (a_mv (v := .i .i64 x4) rfl) ?_
            refine WO_end ?_
            refine then_n ?_
            refine W_sq ?_
            refine W_rg ?_
            refine WO_v (a_mv (v := .i .i64 x4) rfl) ?_
            refine WO_v (a_neI (a := x4) (b := 0) rfl rfl) ?_
            refine WO_end ?_
            refine then_n ?_
            rcases if_some hp with ⟨b₄, hp⟩ | ⟨b₄, hp⟩
            · refine W_cT (t := (!(decide (x4 = 0)))) rfl b₄ ?_
              refine W_sq ?_
              refine W_rg ?_
              refine WO_v (a_mv (v := .i .i64 x4) rfl) ?_
              refine WO_v (a_mv (v := .i .i64 x4) rfl) ?_
              refine WO_end ?_
              refine then_n ?_
              refine W_rt ?_
              refine blk_r ?_
              refine then_r ?_
              have hp := Option.some.inj hp; subst hp
              refine (Or.inr (Exists.intro (.inr x4) (And.intro rfl (And.intro (fun h => nomatch h) (fun he => ?_)))))
              subst he; exact (And.intro rfl (And.intro (rfl) (hO₅.pick [] rfl (by decide))))
            · refine W_cF (t := (!(decide (x4 = 0)))) rfl b₄ ?_
              refine W_sk ?_
              refine blk_n ?_
              refine then_n ?_
              refine W_rg ?_
              obtain ⟨c₁, hp⟩ := ck_some hp
              refine WO_v (a_add (a := x2) (b := 1) q₄_14 rfl c₁) ?_
              refine WO_v (a_mv (v := .i .i64 (x2 + 1)) rfl) ?_
              refine WO_end ?_
              have hp := Option.some.inj hp; subst hp
              exact (Or.inl (Exists.intro (x2 + 1) (And.intro rfl (And.intro rfl (And.intro (q₄_0) (And.intro (q₄_3) (And.intro (q₄_10) (And.intro (q₄_11) (And.intro (rfl) (hO₅.pick [] rfl (by decide)))))))))))
          · refine W_cF (t := (decide (x2 < 4))) rfl b₃ ?_
            refine W_ex ?_
            refine then_e ?_
            have hp := Option.some.inj hp; subst hp
            refine (Or.inr (Exists.intro (.inl ()) (And.intro rfl (And.intro (fun h => nomatch h) (fun he => ?_)))))
            subst he; exact (And.intro rfl (And.intro (q₄_0) (And.intro (q₄_10) (And.intro (q₄_11) (hO₄.pick [] rfl (by decide))))))
        intro e₂ q₃ k₃ hJ₂
        rcases o₃ with _ | x3
        · obtain ⟨rfl, q₃_0, q₃_10, q₃_11, hO₃⟩ := hJ₂
          refine blk_i ?_
          refine blk_n ?_
          refine then_n ?_
          refine W_rg ?_
          obtain ⟨c₂, hp⟩ := ck_some hp
          refine WO_v (a_add (a := x) (b := 1) q₃_11 rfl c₂) ?_
          refine WO_v (a_mv (v := .i .i64 (x + 1)) rfl) ?_
          refine WO_end ?_
          have hp := Option.some.inj hp; subst hp
          exact (Or.inl (Exists.intro (x + 1) (And.intro rfl (And.intro rfl (And.intro (q₃_0) (And.intro (q₃_10) (And.intro (rfl) (hO₃.pick [] rfl (by decide)))))))))
        · obtain ⟨rfl, q₃_2, hO₃⟩ := hJ₂
          refine blk_r ?_
          refine blk_r ?_
          refine then_r ?_
          have hp := Option.some.inj hp; subst hp
          refine (Or.inr (Exists.intro (.inr x3) (And.intro rfl (And.intro (fun h => nomatch h) (fun he => ?_)))))
          subst he; exact (And.intro rfl (And.intro (q₃_2) (hO₃.pick [] rfl (by decide))))
      · refine W_cF (t := (decide (x < (cells.length : Int)))) rfl b₂ ?_
        refine W_ex ?_
        refine then_e ?_
        have hp := Option.some.inj hp; subst hp
        refine (Or.inr (Exists.intro (.inl ()) (And.intro rfl (And.intro (fun h => nomatch h) (fun he => ?_)))))
        subst he; exact (And.intro rfl (hO₂.pick [] rfl (by decide)))
    intro e₁ q₁ k₁ hJ₁
    rcases o₁ with _ | x1
    · obtain ⟨rfl, hO₁⟩ := hJ₁
      refine blk_i ?_
      refine then_n ?_
      refine W_sq ?_
      refine W_rg ?_
      refine WO_v (a_mv (v := .i .i64 0) rfl) ?_
      refine WO_end ?_
      refine then_n ?_
      refine W_rt ?_
      refine Ret_r (rs_t (n := 2) (v := .i .i64 0) rfl rs_nil) ?_
      have hp := Option.some.inj hp; subst hp
      exact (And.intro rfl (hO₁.pick [] rfl (by decide)))
    · obtain ⟨rfl, q₁_2, hO₁⟩ := hJ₁
      refine blk_r ?_
      refine then_r ?_
      refine Ret_r (rs_t (n := 2) (v := .i .i64 x1) q₁_2 rs_nil) ?_
      have hp := Option.some.inj hp; subst hp
      exact (And.intro rfl (hO₁.pick [] rfl (by decide)))

theorem p_muntinlaw10_wakes.ok {h : Hp}    {r : Bool} (hp : p_muntinlaw10_wakes  = some r) :
    ∃ u k', Is G 47 [] h u k' ∧ V.b r = u ∧ Own (fun r => r < h.n) h k' [] := by
  refine WC.is (WC_of G_F_muntinlaw10_wakes ?_)
  unfold p_muntinlaw10_wakes at hp
  let B : Nat → Prop := (fun r => r < h.n)
  have hO : Own B h h [] := Own.start0 h
  refine W_sq ?_
  refine W_rg ?_
  refine WO_v (a_mv (v := .b false) rfl) ?_
  refine WO_end ?_
  refine then_n ?_
  refine W_sq ?_
  refine W_rg ?_
  obtain ⟨⟨x, x1⟩, hx₁, hp⟩ := bd_some hp
  obtain ⟨u₁, k₁, ca₁, r₁, v₁, rfl, hW₁⟩ := p_grid_New.ok (h := h)   hx₁
  refine WO_c (id := 45) (caps := []) rfl (mp_cons (v := .i .i64 2) rfl mp_nil) ca₁ ?_
  have hO₁ : Own B h k₁ [eIf (x).isSome (eBox r₁ [v₁]), eIf (x).isSome (eSl e_T_api_Cell v₁ ((x.getD default).cells))] := hO.call hW₁ rfl
  refine WO_v (a_mv (v := .tu [(if (x).isSome = true then V.p r₁ 0 else V.pn), .i .i64 x1]) rfl) ?_
  refine WO_v (a_ext (vs := [(if (x).isSome = true then V.p r₁ 0 else V.pn), .i .i64 x1]) (v := (if (x).isSome = true then V.p r₁ 0 else V.pn)) rfl rfl) ?_
  refine WO_v (a_ext (vs := [(if (x).isSome = true then V.p r₁ 0 else V.pn), .i .i64 x1]) (v := .i .i64 x1) rfl rfl) ?_
  refine WO_v (a_mv (v := (if (x).isSome = true then V.p r₁ 0 else V.pn)) rfl) ?_
  refine WO_v (a_mv (v := .i .i64 x1) rfl) ?_
  refine WO_end ?_
  refine then_n ?_
  refine W_sq ?_
  refine W_rg ?_
  refine WO_v (a_mv (v := (if (x).isSome = true then V.p r₁ 0 else V.pn)) rfl) ?_
  obtain ⟨g, hg₁, hp⟩ := bd_some hp
  replace hg₁ : x = some g := hg₁
  have hO₂ : Own B h k₁ [eBox r₁ [v₁], eSl e_T_api_Cell v₁ g.cells] := by have hq := hO₁; rw [hg₁] at hq; exact hq
  obtain ⟨⟨x2, m⟩, hx₂, hp⟩ := bd_some hp
  obtain ⟨u₂, k₂, ca₂, v₂, rfl, hW₂⟩ := p_grid_Grid_Join.ok (h := k₁) (g := g) (v := 0) (d := 0) (w := 1) (owner := 0) (hO₂.toM [0, 1] rfl (by decide))  hx₂
  refine WO_c (id := 52) (caps := []) rfl (mp_cons (v := .p r₁ 0) (unw hg₁) (mp_cons (v := .i .i64 0) rfl (mp_cons (v := .i .i64 0) rfl (mp_cons (v := .i .i64 1) rfl (mp_cons (v := .i .i64 0) rfl mp_nil))))) ca₂ ?_
  have hO₃ : Own B h k₂ [eBox r₁ [v₂], eSl e_T_api_Cell v₂ m.cells] := (hO₂.callM [0, 1] [] rfl rfl (by decide) hW₂ rfl).pick [0, 1] rfl (by decide)
  refine WO_v (a_mv (v := .i .i64 x2) rfl) ?_
  refine WO_end ?_
  refine then_n ?_
  refine W_sq ?_
  refine W_rg ?_
  refine WO_v (a_mv (v := .p r₁ 0) (unw hg₁)) ?_
  obtain ⟨⟨x3, x4, m1⟩, hx₃, hp⟩ := bd_some hp
  obtain ⟨u₃, k₃, ca₃, v₃, rfl, hW₃⟩ := p_grid_Grid_Split.ok (h := k₂) (g := m) (v := 0) (d := 0) (hO₃.toM [0, 1] rfl (by decide))  hx₃
  refine WO_c (id := 48) (caps := []) rfl (mp_cons (v := .p r₁ 0) rfl (mp_cons (v := .i .i64 0) rfl (mp_cons (v := .i .i64 0) rfl mp_nil))) ca₃ ?_
  have hO₄ : Own B h k₃ [eBox r₁ [v₃], eSl e_T_api_Cell v₃ m1.cells] := (hO₃.callM [0, 1] [] rfl rfl (by decide) hW₃ rfl).pick [0, 1] rfl (by decide)
  refine WO_v (a_mv (v := .tu [.i .i64 x3, .i .i64 x4]) rfl) ?_
  refine WO_v (a_ext (vs := [.i .i64 x3, .i .i64 x4]) (v := .i .i64 x3) rfl rfl) ?_
  refine WO_v (a_ext (vs := [.i .i64 x3, .i .i64 x4]) (v := .i .i64 x4) rfl rfl) ?_
  refine WO_v (a_mv (v := .i .i64 x3) rfl) ?_
  refine WO_v (a_mv (v := .i .i64 x4) rfl) ?_
  refine WO_end ?_
  refine then_n ?_
  refine W_sq ?_
  refine W_rg ?_
  refine WO_v (a_mv (v := .p r₁ 0) (unw hg₁)) ?_
  obtain ⟨⟨x5, x6, x7⟩, hx₄, hp⟩ := bd_some hp
  obtain ⟨u₄, k₄, ca₄, rfl, hW₄⟩ := p_grid_Grid_Next.ok (h := k₃)  (hO₄.box 0 rfl) (hO₄.sl 1 rfl : Sl e_T_api_Cell k₃ v₃ m1.cells) hx₄
  refine WO_c (id := 54) (caps := []) rfl (mp_cons (v := .p r₁ 0) rfl (mp_cons (v := .i .i64 2) rfl (mp_cons (v := .i .i64 0) rfl mp_nil))) ca₄ ?_
  have hO₅ : Own B h k₄ [eBox r₁ [v₃], eSl e_T_api_Cell v₃ m1.cells] := hO₄.call hW₄ rfl
  refine WO_v (a_mv (v := .tu [.i .i64 x5, .i .i64 x6, .b x7]) rfl) ?_
  refine WO_v (a_ext (vs := [.i .i64 x5, .i .i64 x6, .b x7]) (v := .i .i64 x5) rfl rfl) ?_
  refine WO_v (a_ext (vs := [.i .i64 x5, .i .i64 x6, .b x7]) (v := .i .i64 x6) rfl rfl) ?_
  refine WO_v (a_ext (vs := [.i .i64 x5, .i .i64 x6, .b x7]) (v := .b x7) rfl rfl) ?_
  refine WO_v (a_mv (v := .i .i64 x5) rfl) ?_
  refine WO_v (a_mv (v := .i .i64 x6) rfl) ?_
  refine WO_v (a_mv (v := .b x7) rfl) ?_
  refine WO_end ?_
  refine then_n ?_
  refine W_sq ?_
  refine W_rg ?_
  obtain ⟨⟨x8, x9⟩, hx₅, hp⟩ := bd_some hp
  obtain ⟨u₅, k₅, ca₅, r₂, v₄, rfl, hW₅⟩ := p_grid_New.ok (h := k₄)   hx₅
  refine WO_c (id := 45) (caps := []) rfl (mp_cons (v := .i .i64 (-1)) rfl mp_nil) ca₅ ?_
  have hO₆ : Own B h k₅ [eBox r₁ [v₃], eSl e_T_api_Cell v₃ m1.cells, eIf (x8).isSome (eBox r₂ [v₄]), eIf (x8).isSome (eSl e_T_api_Cell v₄ ((x8.getD default).cells))] := hO₅.call hW₅ rfl
  refine WO_v (a_mv (v := .tu [(if (x8).isSome = true then V.p r₂ 0 else V.pn), .i .i64 x9]) rfl) ?_
  refine WO_v (a_ext (vs := [(if (x8).isSome = true then V.p r₂ 0 else V.pn), .i .i64 x9]) (v := (if (x8).isSome = true then V.p r₂ 0 else V.pn)) rfl rfl) ?_
  refine WO_v (a_ext (vs := [(if (x8).isSome = true then V.p r₂ 0 else V.pn), .i .i64 x9]) (v := .i .i64 x9) rfl rfl) ?_
  refine WO_v (a_mv (v := (if (x8).isSome = true then V.p r₂ 0 else V.pn)) rfl) ?_
  refine WO_v (a_mv (v := .i .i64 x9) rfl) ?_
  refine WO_end ?_
  refine then_n ?_
  refine W_sq ?_
  refine W_rg ?_
  refine WO_v (a_mv (v := .i .i64 x1) rfl) ?_
  refine WO_v (a_eqI (a := x1) (b := 0) rfl rfl) ?_
  refine WO_v (a_mv (v := .b (decide (x1 = 0))) rfl) ?_
  refine WO_cut 3 (fun fr' k' => k₅ = k' ∧ fr' 37 = .b ((decide (x1 = 0)) && (decide (x2 = 0))) ∧ fr' 10 = .i .i64 x9 ∧ fr' 4 = .i .i64 x3 ∧ fr' 5 = .i .i64 x4 ∧ fr' 6 = .i .i64 x5 ∧ fr' 7 = .i .i64 x6 ∧ fr' 8 = .b x7) ?_ ?_
  · rcases bc (decide (x1 = 0)) with b₁ | b₁
    · skip
      refine WO_on rfl b₁ ?_
      refine WO_v (a_mv (v := .i .i64 x2) rfl) ?_
      refine WO_on rfl b₁ ?_
      refine WO_v (a_eqI (a := x2) (b := 0) rfl rfl) ?_
      refine WO_v (a_pickT (t := (decide (x1 = 0))) (v := .b ((decide (x1 = 0)) && (decide (x2 = 0)))) rfl b₁ (Eq.trans (b := V.b (decide (x2 = 0))) rfl (and_on b₁))) ?_
      refine WO_end ?_
      exact ⟨rfl, rfl, rfl, rfl, rfl, rfl, rfl, rfl⟩
    · skip
      refine WO_off rfl b₁ ?_
      refine WO_off rfl b₁ ?_
      refine WO_v (a_pickF (t := (decide (x1 = 0))) (v := .b ((decide (x1 = 0)) && (decide (x2 = 0)))) rfl b₁ (Eq.trans (b := V.b false) rfl (and_off b₁))) ?_
      refine WO_end ?_
      exact ⟨rfl, rfl, rfl, rfl, rfl, rfl, rfl, rfl⟩
  rintro frg₁ _ ⟨rfl, g₁_37, g₁_10, g₁_4, g₁_5, g₁_6, g₁_7, g₁_8⟩
  refine WO_v (a_mv (v := .b ((decide (x1 = 0)) && (decide (x2 = 0)))) g₁_37) ?_
  refine WO_cut 3 (fun fr' k' => k₅ = k' ∧ fr' 41 = .b (((decide (x1 = 0)) && (decide (x2 = 0))) && (decide (x3 = 2))) ∧ fr' 10 = .i .i64 x9 ∧ fr' 5 = .i .i64 x4 ∧ fr' 6 = .i .i64 x5 ∧ fr' 7 = .i .i64 x6 ∧ fr' 8 = .b x7) ?_ ?_
  · rcases bc ((decide (x1 = 0)) && (decide (x2 = 0))) with b₂ | b₂
    · skip
      refine WO_on rfl b₂ ?_
      refine WO_v (a_mv (v := .i .i64 x3) g₁_4) ?_
      refine WO_on rfl b₂ ?_
      refine WO_v (a_eqI (a := x3) (b := 2) rfl rfl) ?_
      refine WO_v (a_pickT (t := ((decide (x1 = 0)) && (decide (x2 = 0)))) (v := .b (((decide (x1 = 0)) && (decide (x2 = 0))) && (decide (x3 = 2)))) rfl b₂ (Eq.trans (b := V.b (decide (x3 = 2))) rfl (and_on b₂))) ?_
      refine WO_end ?_
      exact ⟨rfl, rfl, g₁_10, g₁_5, g₁_6, g₁_7, g₁_8⟩
    · skip
      refine WO_off rfl b₂ ?_
      refine WO_off rfl b₂ ?_
      refine WO_v (a_pickF (t := ((decide (x1 = 0)) && (decide (x2 = 0)))) (v := .b (((decide (x1 = 0)) && (decide (x2 = 0))) && (decide (x3 = 2)))) rfl b₂ (Eq.trans (b := V.b false) rfl (and_off b₂))) ?_
      refine WO_end ?_
      exact ⟨rfl, rfl, g₁_10, g₁_5, g₁_6, g₁_7, g₁_8⟩
  rintro frg₂ _ ⟨rfl, g₂_41, g₂_10, g₂_5, g₂_6, g₂_7, g₂_8⟩
  refine WO_v (a_mv (v := .b (((decide (x1 = 0)) && (decide (x2 = 0))) && (decide (x3 = 2)))) g₂_41) ?_
  refine WO_cut 3 (fun fr' k' => k₅ = k' ∧ fr' 45 = .b ((((decide (x1 = 0)) && (decide (x2 = 0))) && (decide (x3 = 2))) && (decide (x4 = 0))) ∧ fr' 10 = .i .i64 x9 ∧ fr' 6 = .i .i64 x5 ∧ fr' 7 = .i .i64 x6 ∧ fr' 8 = .b x7) ?_ ?_
  · rcases bc (((decide (x1 = 0)) && (decide (x2 = 0))) && (decide (x3 = 2))) with b₃ | b₃
    · skip
      refine WO_on rfl b₃ ?_
      refine WO_v (a_mv (v := .i .i64 x4) g₂_5) ?_
      refine WO_on rfl b₃ ?_
      refine WO_v (a_eqI (a := x4) (b := 0) rfl rfl) ?_
      refine WO_v (a_pickT (t := (((decide (x1 = 0)) && (decide (x2 = 0))) && (decide (x3 = 2)))) (v := .b ((((decide (x1 = 0)) && (decide (x2 = 0))) && (decide (x3 = 2))) && (decide (x4 = 0)))) rfl b₃ (Eq.trans (b := V.b (decide (x4 = 0))) rfl (and_on b₃))) ?_
      refine WO_end ?_
      exact ⟨rfl, rfl, g₂_10, g₂_6, g₂_7, g₂_8⟩
    · skip
      refine WO_off rfl b₃ ?_
      refine WO_off rfl b₃ ?_
      refine WO_v (a_pickF (t := (((decide (x1 = 0)) && (decide (x2 = 0))) && (decide (x3 = 2)))) (v := .b ((((decide (x1 = 0)) && (decide (x2 = 0))) && (decide (x3 = 2))) && (decide (x4 = 0)))) rfl b₃ (Eq.trans (b := V.b false) rfl (and_off b₃))) ?_
      refine WO_end ?_
      exact ⟨rfl, rfl, g₂_10, g₂_6, g₂_7, g₂_8⟩
  rintro frg₃ _ ⟨rfl, g₃_45, g₃_10, g₃_6, g₃_7, g₃_8⟩
  refine WO_v (a_mv (v := .b ((((decide (x1 = 0)) && (decide (x2 = 0))) && (decide (x3 = 2))) && (decide (x4 = 0)))) g₃_45) ?_
  refine WO_cut 3 (fun fr' k' => k₅ = k' ∧ fr' 49 = .b (((((decide (x1 = 0)) && (decide (x2 = 0))) && (decide (x3 = 2))) && (decide (x4 = 0))) && (decide (x5 = 1))) ∧ fr' 10 = .i .i64 x9 ∧ fr' 7 = .i .i64 x6 ∧ fr' 8 = .b x7) ?_ ?_
  · rcases bc ((((decide (x1 = 0)) && (decide (x2 = 0))) && (decide (x3 = 2))) && (decide (x4 = 0))) with b₄ | b₄
    · skip
      refine WO_on rfl b₄ ?_
      refine WO_v (a_mv (v := .i .i64 x5) g₃_6) ?_
      refine WO_on rfl b₄ ?_
      refine WO_v (a_eqI (a := x5) (b := 1) rfl rfl) ?_
      refine WO_v (a_pickT (t := ((((decide (x1 = 0)) && (decide (x2 = 0))) && (decide (x3 = 2))) && (decide (x4 = 0)))) (v := .b (((((decide (x1 = 0)) && (decide (x2 = 0))) && (decide (x3 = 2))) && (decide (x4 = 0))) && (decide (x5 = 1)))) rfl b₄ (Eq.trans (b := V.b (decide (x5 = 1))) rfl (and_on b₄))) ?_
      refine WO_end ?_
      exact ⟨rfl, rfl, g₃_10, g₃_7, g₃_8⟩
    · skip
      refine WO_off rfl b₄ ?_
      refine WO_off rfl b₄ ?_
      refine WO_v (a_pickF (t := ((((decide (x1 = 0)) && (decide (x2 = 0))) && (decide (x3 = 2))) && (decide (x4 = 0)))) (v := .b (((((decide (x1 = 0)) && (decide (x2 = 0))) && (decide (x3 = 2))) && (decide (x4 = 0))) && (decide (x5 = 1)))) rfl b₄ (Eq.trans (b := V.b false) rfl (and_off b₄))) ?_
      refine WO_end ?_
      exact ⟨rfl, rfl, g₃_10, g₃_7, g₃_8⟩
  rintro frg₄ _ ⟨rfl, g₄_49, g₄_10, g₄_7, g₄_8⟩
  refine WO_v (a_mv (v := .b (((((decide (x1 = 0)) && (decide (x2 = 0))) && (decide (x3 = 2))) && (decide (x4 = 0))) && (decide (x5 = 1)))) g₄_49) ?_
  refine WO_cut 3 (fun fr' k' => k₅ = k' ∧ fr' 53 = .b ((((((decide (x1 = 0)) && (decide (x2 = 0))) && (decide (x3 = 2))) && (decide (x4 = 0))) && (decide (x5 = 1))) && (decide (x6 = 0))) ∧ fr' 10 = .i .i64 x9 ∧ fr' 8 = .b x7) ?_ ?_
  · rcases bc (((((decide (x1 = 0)) && (decide (x2 = 0))) && (decide (x3 = 2))) && (decide (x4 = 0))) && (decide (x5 = 1))) with b₅ | b₅
    · skip
      refine WO_on rfl b₅ ?_
      refine WO_v (a_mv (v := .i .i64 x6) g₄_7) ?_
      refine WO_on rfl b₅ ?_
      refine WO_v (a_eqI (a := x6) (b := 0) rfl rfl) ?_
      refine WO_v (a_pickT (t := (((((decide (x1 = 0)) && (decide (x2 = 0))) && (decide (x3 = 2))) && (decide (x4 = 0))) && (decide (x5 = 1)))) (v := .b ((((((decide (x1 = 0)) && (decide (x2 = 0))) && (decide (x3 = 2))) && (decide (x4 = 0))) && (decide (x5 = 1))) && (decide (x6 = 0)))) rfl b₅ (Eq.trans (b := V.b (decide (x6 = 0))) rfl (and_on b₅))) ?_
      refine WO_end ?_
      exact ⟨rfl, rfl, g₄_10, g₄_8⟩
    · skip
      refine WO_off rfl b₅ ?_
      refine WO_off rfl b₅ ?_
      refine WO_v (a_pickF (t := (((((decide (x1 = 0)) && (decide (x2 = 0))) && (decide (x3 = 2))) && (decide (x4 = 0))) && (decide (x5 = 1)))) (v := .b ((((((decide (x1 = 0)) && (decide (x2 = 0))) && (decide (x3 = 2))) && (decide (x4 = 0))) && (decide (x5 = 1))) && (decide (x6 = 0)))) rfl b₅ (Eq.trans (b := V.b false) rfl (and_off b₅))) ?_
      refine WO_end ?_
      exact ⟨rfl, rfl, g₄_10, g₄_8⟩
  rintro frg₅ _ ⟨rfl, g₅_53, g₅_10, g₅_8⟩
  refine WO_v (a_mv (v := .b ((((((decide (x1 = 0)) && (decide (x2 = 0))) && (decide (x3 = 2))) && (decide (x4 = 0))) && (decide (x5 = 1))) && (decide (x6 = 0)))) g₅_53) ?_
  refine WO_cut 2 (fun fr' k' => k₅ = k' ∧ fr' 56 = .b (((((((decide (x1 = 0)) && (decide (x2 = 0))) && (decide (x3 = 2))) && (decide (x4 = 0))) && (decide (x5 = 1))) && (decide (x6 = 0))) && x7) ∧ fr' 10 = .i .i64 x9) ?_ ?_
  · rcases bc ((((((decide (x1 = 0)) && (decide (x2 = 0))) && (decide (x3 = 2))) && (decide (x4 = 0))) && (decide (x5 = 1))) && (decide (x6 = 0))) with b₆ | b₆
    · skip
      refine WO_on rfl b₆ ?_
      refine WO_v (a_mv (v := .b x7) g₅_8) ?_
      refine WO_v (a_pickT (t := ((((((decide (x1 = 0)) && (decide (x2 = 0))) && (decide (x3 = 2))) && (decide (x4 = 0))) && (decide (x5 = 1))) && (decide (x6 = 0)))) (v := .b (((((((decide (x1 = 0)) && (decide (x2 = 0))) && (decide (x3 = 2))) && (decide (x4 = 0))) && (decide (x5 = 1))) && (decide (x6 = 0))) && x7)) rfl b₆ (Eq.trans (b := V.b x7) rfl (and_on b₆))) ?_
      refine WO_end ?_
      exact ⟨rfl, rfl, g₅_10⟩
    · skip
      refine WO_off rfl b₆ ?_
      refine WO_v (a_pickF (t := ((((((decide (x1 = 0)) && (decide (x2 = 0))) && (decide (x3 = 2))) && (decide (x4 = 0))) && (decide (x5 = 1))) && (decide (x6 = 0)))) (v := .b (((((((decide (x1 = 0)) && (decide (x2 = 0))) && (decide (x3 = 2))) && (decide (x4 = 0))) && (decide (x5 = 1))) && (decide (x6 = 0))) && x7)) rfl b₆ (Eq.trans (b := V.b false) rfl (and_off b₆))) ?_
      refine WO_end ?_
      exact ⟨rfl, rfl, g₅_10⟩
  rintro frg₆ _ ⟨rfl, g₆_56, g₆_10⟩
  refine WO_v (a_mv (v := .b (((((((decide (x1 = 0)) && (decide (x2 = 0))) && (decide (x3 = 2))) && (decide (x4 = 0))) && (decide (x5 = 1))) && (decide (x6 = 0))) && x7)) g₆_56) ?_
  refine WO_cut 3 (fun fr' k' => k₅ = k' ∧ fr' 60 = .b ((((((((decide (x1 = 0)) && (decide (x2 = 0))) && (decide (x3 = 2))) && (decide (x4 = 0))) && (decide (x5 = 1))) && (decide (x6 = 0))) && x7) && (decide (x9 = 2)))) ?_ ?_
  · rcases bc (((((((decide (x1 = 0)) && (decide (x2 = 0))) && (decide (x3 = 2))) && (decide (x4 = 0))) && (decide (x5 = 1))) && (decide (x6 = 0))) && x7) with b₇ | b₇
    · skip
      refine WO_on rfl b₇ ?_
      refine WO_v (a_mv (v := .i .i64 x9) g₆_10) ?_
      refine WO_on rfl b₇ ?_
      refine WO_v (a_eqI (a := x9) (b := 2) rfl rfl) ?_
      refine WO_v (a_pickT (t := (((((((decide (x1 = 0)) && (decide (x2 = 0))) && (decide (x3 = 2))) && (decide (x4 = 0))) && (decide (x5 = 1))) && (decide (x6 = 0))) && x7)) (v := .b ((((((((decide (x1 = 0)) && (decide (x2 = 0))) && (decide (x3 = 2))) && (decide (x4 = 0))) && (decide (x5 = 1))) && (decide (x6 = 0))) && x7) && (decide (x9 = 2)))) rfl b₇ (Eq.trans (b := V.b (decide (x9 = 2))) rfl (and_on b₇))) ?_
      refine WO_end ?_
      exact ⟨rfl, rfl⟩
    · skip
      refine WO_off rfl b₇ ?_
      refine WO_off rfl b₇ ?_
      refine WO_v (a_pickF (t := (((((((decide (x1 = 0)) && (decide (x2 = 0))) && (decide (x3 = 2))) && (decide (x4 = 0))) && (decide (x5 = 1))) && (decide (x6 = 0))) && x7)) (v := .b ((((((((decide (x1 = 0)) && (decide (x2 = 0))) && (decide (x3 = 2))) && (decide (x4 = 0))) && (decide (x5 = 1))) && (decide (x6 = 0))) && x7) && (decide (x9 = 2)))) rfl b₇ (Eq.trans (b := V.b false) rfl (and_off b₇))) ?_
      refine WO_end ?_
      exact ⟨rfl, rfl⟩
  rintro frg₇ _ ⟨rfl, g₇_60⟩
  refine WO_v (a_mv (v := .b ((((((((decide (x1 = 0)) && (decide (x2 = 0))) && (decide (x3 = 2))) && (decide (x4 = 0))) && (decide (x5 = 1))) && (decide (x6 = 0))) && x7) && (decide (x9 = 2)))) g₇_60) ?_
  obtain ⟨t, hv₁, hp⟩ := bd_some hp
  refine WO_cut 5 (fun fr' k' => Own B h k' [eBox r₁ [v₃], eSl e_T_api_Cell v₃ m1.cells, eIf (x8).isSome (eBox r₂ [v₄]), eIf (x8).isSome (eSl e_T_api_Cell v₄ ((x8.getD default).cells))] ∧ fr' 66 = .b t) ?_ ?_
  · clear hp; rcases if_some hv₁ with ⟨b₈, hp⟩ | ⟨b₈, hp⟩
    · skip
      refine WO_on rfl b₈ ?_
      refine WO_v (a_build (cs := e_T_api_Cell.c (⟨(⟨0, 0, 0, 0⟩ : A4 Int), (⟨0, 0, 0, 0⟩ : A4 Int)⟩ : T_api_Cell)) (by rw [ev_nil]; rfl)) ?_
      refine WO_on rfl b₈ ?_
      refine WO_x (hO₆.bsl (E := e_T_api_Cell) (l := [(⟨(⟨0, 0, 0, 0⟩ : A4 Int), (⟨0, 0, 0, 0⟩ : A4 Int)⟩ : T_api_Cell)]) hO₆.fr (by rw [(ev_cons (v := .ag (e_T_api_Cell.c (⟨(⟨0, 0, 0, 0⟩ : A4 Int), (⟨0, 0, 0, 0⟩ : A4 Int)⟩ : T_api_Cell))) rfl ev_nil)]; rfl) rfl) ?_
      rintro v₅ k₆ ⟨r₃, f₁, hW⟩
      have hO₇ : Own B h k₆ [eBox r₁ [v₃], eSl e_T_api_Cell v₃ m1.cells, eIf (x8).isSome (eBox r₂ [v₄]), eIf (x8).isSome (eSl e_T_api_Cell v₄ ((x8.getD default).cells)), eSl e_T_api_Cell v₅ [(⟨(⟨0, 0, 0, 0⟩ : A4 Int), (⟨0, 0, 0, 0⟩ : A4 Int)⟩ : T_api_Cell)]] := hW
      refine WO_on rfl b₈ ?_
      obtain ⟨x10, hx₆, hp⟩ := bd_some hp
      obtain ⟨u₆, k₇, ca₆, rfl, hW₆⟩ := p_grid_Check.ok (h := k₆)  (hO₇.sl 4 rfl : Sl e_T_api_Cell k₆ v₅ [(⟨(⟨0, 0, 0, 0⟩ : A4 Int), (⟨0, 0, 0, 0⟩ : A4 Int)⟩ : T_api_Cell)]) hx₆
      refine WO_c (id := 66) (caps := []) rfl (mp_cons (v := v₅) rfl mp_nil) ca₆ ?_
      have hO₈ : Own B h k₇ [eBox r₁ [v₃], eSl e_T_api_Cell v₃ m1.cells, eIf (x8).isSome (eBox r₂ [v₄]), eIf (x8).isSome (eSl e_T_api_Cell v₄ ((x8.getD default).cells)), eSl e_T_api_Cell v₅ [(⟨(⟨0, 0, 0, 0⟩ : A4 Int), (⟨0, 0, 0, 0⟩ : A4 Int)⟩ : T_api_Cell)]] := hO₇.call hW₆ rfl
      refine WO_on rfl b₈ ?_
      refine WO_v (a_eqI (a := x10) (b := 3) rfl rfl) ?_
      refine WO_v (a_pickT (t := ((((((((decide (x1 = 0)) && (decide (x2 = 0))) && (decide (x3 = 2))) && (decide (x4 = 0))) && (decide (x5 = 1))) && (decide (x6 = 0))) && x7) && (decide (x9 = 2)))) (v := .b t) rfl b₈ (Eq.trans (b := V.b (decide (x10 = 3))) rfl (congrArg V.b (Option.some.inj hp)))) ?_
      refine WO_end ?_
      exact ⟨hO₈.pick [0, 1, 2, 3] rfl (by decide), rfl⟩
    · skip
      refine WO_off rfl b₈ ?_
      refine WO_off rfl b₈ ?_
      refine WO_off rfl b₈ ?_
      refine WO_off rfl b₈ ?_
      refine WO_v (a_pickF (t := ((((((((decide (x1 = 0)) && (decide (x2 = 0))) && (decide (x3 = 2))) && (decide (x4 = 0))) && (decide (x5 = 1))) && (decide (x6 = 0))) && x7) && (decide (x9 = 2)))) (v := .b t) rfl b₈ (Eq.trans (b := V.b false) rfl (congrArg V.b (Option.some.inj hp)))) ?_
      refine WO_end ?_
      exact ⟨hO₆.pick [0, 1, 2, 3] rfl (by decide), rfl⟩
  rintro frg₈ k₈ ⟨hO₉, g₈_66⟩
  refine WO_v (a_mv (v := .b t) g₈_66) ?_
  refine WO_end ?_
  refine then_n ?_
  refine W_rt ?_
  refine Ret_r (rs_t (n := 0) (v := .b t) rfl rs_nil) ?_
  have hp := Option.some.inj hp; subst hp
  exact (And.intro rfl (hO₉.pick [] rfl (by decide)))

theorem p_grid_Grid_Join_nil0.ok {h : Hp} {v : Int} {d : Int} {w : Int} {owner : Int}   {r : Int} (hp : p_grid_Grid_Join_nil0 v d w owner = some r) :
    ∃ u k', Is G 52 [.pn, .i .i64 v, .i .i64 d, .i .i64 w, .i .i64 owner] h u k' ∧ V.i .i64 r = u ∧ Own (fun r => r < h.n) h k' [] := by
  refine WC.is (WC_of G_F_grid_Grid_Join ?_)
  unfold p_grid_Grid_Join_nil0 at hp
  let B : Nat → Prop := (fun r => r < h.n)
  have hO : Own B h h [] := Own.start0 h
  refine W_sq ?_
  refine W_rg ?_
  refine WO_v (a_mv (v := .i .i64 0) rfl) ?_
  refine WO_end ?_
  refine then_n ?_
  refine W_sq ?_
  refine W_bl ?_
  refine W_sq ?_
  refine W_rg ?_
  refine WO_v (a_mv (v := .pn) rfl) ?_
  refine WO_v (a_eqPn rfl rfl) ?_
  refine WO_v (a_mv (v := .b true) rfl) ?_
  refine WO_end ?_
  refine then_n ?_
  refine W_cT (t := true) rfl rfl ?_
  refine W_sq ?_
  refine W_rg ?_
  refine WO_v (a_mv (v := .i .i64 1) rfl) ?_
  refine WO_end ?_
  refine then_n ?_
  refine W_rt ?_
  refine blk_r ?_
  refine then_r ?_
  refine Ret_r (rs_t (n := 10) (v := .i .i64 1) rfl rs_nil) ?_
  have hp := Option.some.inj hp; subst hp
  exact (And.intro rfl (hO.pick [] rfl (by decide)))

theorem p_grid_Grid_Cells_nil0.ok {h : Hp}    {r : (List T_api_Cell)} (hp : p_grid_Grid_Cells_nil0  = some r) :
    ∃ u k', Is G 57 [.pn] h u k' ∧ ∃ (v₁ : V), v₁ = u ∧ Own (fun r => r < h.n) h k' [eSl e_T_api_Cell v₁ r] := by
  refine WC.is (WC_of G_F_grid_Grid_Cells ?_)
  unfold p_grid_Grid_Cells_nil0 at hp
  let B : Nat → Prop := (fun r => r < h.n)
  have hO : Own B h h [] := Own.start0 h
  refine W_sq ?_
  refine W_rg ?_
  refine WO_v (a_mv (v := .sn) rfl) ?_
  refine WO_end ?_
  refine then_n ?_
  refine W_sq ?_
  refine W_sq ?_
  refine W_rg ?_
  refine WO_v (a_mv (v := .pn) rfl) ?_
  refine WO_v (a_eqPn rfl rfl) ?_
  refine WO_end ?_
  refine then_n ?_
  refine W_cT (t := true) rfl rfl ?_
  refine W_sq ?_
  refine W_rg ?_
  refine WO_v (a_mv (v := .sn) rfl) ?_
  refine WO_end ?_
  refine then_n ?_
  refine W_rt ?_
  refine then_r ?_
  have hO₁ : Own B h h [eSl e_T_api_Cell .sn ([] : List T_api_Cell)] := hO.nil e_T_api_Cell
  refine Ret_r (rs_t (n := 2) (v := .sn) rfl rs_nil) ?_
  have hp := Option.some.inj hp; subst hp
  exact (Exists.intro V.sn (And.intro rfl (hO₁.pick [0] rfl (by decide))))

end Mu
