/- The code comes to what was worked out. -/
import Derived.Test.YtofdeafffbkgbaaMuDf
import Derived.Test.YtofdeafffbkgbaaMuPa
import Derived.Test.YtofdeafffbkgbaaMuC0
set_option linter.unusedVariables false
set_option linter.unnecessarySimpa false
set_option linter.unusedSimpArgs false
set_option maxHeartbeats 2000000
set_option maxRecDepth 10000
namespace Mu
open Go (IntKind BinOp UnOp)
theorem p_muntinlaw10_GridNil.ok {h : Hp} {v : Int} {d : Int} {n : Int}   {r : Bool} (hp : p_muntinlaw10_GridNil v d n = some r) :
    ∃ u k', Is G 100 [.i .i64 v, .i .i64 d, .i .i64 n] h u k' ∧ V.b r = u ∧ Own (fun r => r < h.n) h k' [] := by
  refine WC.is (WC_of G_F_muntinlaw10_GridNil ?_)
  unfold p_muntinlaw10_GridNil at hp
  let B : Nat → Prop := (fun r => r < h.n)
  have hO : Own B h h [] := Own.start0 h
  refine W_sq ?_
  refine W_rg ?_
  refine WO_v (a_mv (v := .b false) rfl) ?_
  refine WO_end ?_
  refine then_n ?_
  refine W_sq ?_
  refine W_rg ?_
  refine WO_v (a_mv (v := .pn) rfl) ?_
  refine WO_end ?_
  refine then_n ?_
  refine W_sq ?_
  refine W_rg ?_
  refine WO_v (a_mv (v := .pn) rfl) ?_
  refine WO_v (a_mv (v := .i .i64 v) rfl) ?_
  refine WO_v (a_mv (v := .i .i64 d) rfl) ?_
  obtain ⟨⟨x, x1, x2⟩, hx₁, hp⟩ := bd_some hp
  obtain ⟨u₁, k₁, ca₁, rfl, hW₁⟩ := p_grid_Grid_Next_nil0.ok (h := h)   hx₁
  refine WO_c (id := 54) (caps := []) rfl (mp_cons (v := .pn) rfl (mp_cons (v := .i .i64 v) rfl (mp_cons (v := .i .i64 d) rfl mp_nil))) ca₁ ?_
  have hO₁ : Own B h k₁ [] := hO.call hW₁ rfl
  refine WO_v (a_mv (v := .tu [.i .i64 x, .i .i64 x1, .b x2]) rfl) ?_
  refine WO_v (a_ext (vs := [.i .i64 x, .i .i64 x1, .b x2]) (v := .i .i64 x) rfl rfl) ?_
  refine WO_v (a_ext (vs := [.i .i64 x, .i .i64 x1, .b x2]) (v := .i .i64 x1) rfl rfl) ?_
  refine WO_v (a_ext (vs := [.i .i64 x, .i .i64 x1, .b x2]) (v := .b x2) rfl rfl) ?_
  refine WO_v (a_mv (v := .i .i64 x) rfl) ?_
  refine WO_v (a_mv (v := .i .i64 x1) rfl) ?_
  refine WO_v (a_mv (v := .b x2) rfl) ?_
  refine WO_end ?_
  refine then_n ?_
  refine W_sq ?_
  refine W_rg ?_
  refine WO_v (a_mv (v := .pn) rfl) ?_
  obtain ⟨⟨x3, x4⟩, hx₂, hp⟩ := bd_some hp
  obtain ⟨u₂, k₂, ca₂, rfl, hW₂⟩ := p_grid_Grid_Add_nil0.ok (h := k₁)   hx₂
  refine WO_c (id := 50) (caps := []) rfl (mp_cons (v := .pn) rfl mp_nil) ca₂ ?_
  have hO₂ : Own B h k₂ [] := hO₁.call hW₂ rfl
  refine WO_v (a_mv (v := .tu [.i .i64 x3, .i .i64 x4]) rfl) ?_
  refine WO_v (a_ext (vs := [.i .i64 x3, .i .i64 x4]) (v := .i .i64 x3) rfl rfl) ?_
  refine WO_v (a_ext (vs := [.i .i64 x3, .i .i64 x4]) (v := .i .i64 x4) rfl rfl) ?_
  refine WO_v (a_mv (v := .i .i64 x3) rfl) ?_
  refine WO_v (a_mv (v := .i .i64 x4) rfl) ?_
  refine WO_end ?_
  refine then_n ?_
  refine W_sq ?_
  refine W_rg ?_
  refine WO_v (a_mv (v := .pn) rfl) ?_
  refine WO_v (a_mv (v := .i .i64 v) rfl) ?_
  refine WO_v (a_mv (v := .i .i64 d) rfl) ?_
  obtain ⟨⟨x5, x6⟩, hx₃, hp⟩ := bd_some hp
  obtain ⟨u₃, k₃, ca₃, rfl, hW₃⟩ := p_grid_Grid_Split_nil0.ok (h := k₂)   hx₃
  refine WO_c (id := 48) (caps := []) rfl (mp_cons (v := .pn) rfl (mp_cons (v := .i .i64 v) rfl (mp_cons (v := .i .i64 d) rfl mp_nil))) ca₃ ?_
  have hO₃ : Own B h k₃ [] := hO₂.call hW₃ rfl
  refine WO_v (a_mv (v := .tu [.i .i64 x5, .i .i64 x6]) rfl) ?_
  refine WO_v (a_ext (vs := [.i .i64 x5, .i .i64 x6]) (v := .i .i64 x5) rfl rfl) ?_
  refine WO_v (a_ext (vs := [.i .i64 x5, .i .i64 x6]) (v := .i .i64 x6) rfl rfl) ?_
  refine WO_v (a_mv (v := .i .i64 x5) rfl) ?_
  refine WO_v (a_mv (v := .i .i64 x6) rfl) ?_
  refine WO_end ?_
  refine then_n ?_
  refine W_sq ?_
  refine W_rg ?_
  refine WO_v (a_mv (v := .i .i64 n) rfl) ?_
  refine WO_v (a_mx (a := 0) (b := n) rfl rfl) ?_
  refine WO_v (a_rem (a := (max 0 n)) (b := 4) rfl rfl (by decide)) ?_
  refine WO_v (a_mv (v := .i .i64 ((max 0 n).tmod 4)) rfl) ?_
  refine WO_end ?_
  refine then_n ?_
  refine W_sq ?_
  refine W_rg ?_
  refine WO_v (a_mv (v := .i .i64 ((max 0 n).tmod 4)) rfl) ?_
  obtain ⟨c₁, hp⟩ := ck_some hp
  refine WO_v (a_sub (a := 4096) (b := ((max 0 n).tmod 4)) rfl rfl c₁) ?_
  obtain ⟨⟨x7, x8⟩, hx₄, hp⟩ := bd_some hp
  obtain ⟨u₄, k₄, ca₄, r₁, v₁, rfl, hW₄⟩ := p_grid_New.ok (h := k₃)   hx₄
  refine WO_c (id := 45) (caps := []) rfl (mp_cons (v := .i .i64 (4096 - ((max 0 n).tmod 4))) rfl mp_nil) ca₄ ?_
  have hO₄ : Own B h k₄ [eIf (x7).isSome (eBox r₁ [v₁]), eIf (x7).isSome (eSl e_T_api_Cell v₁ ((x7.getD default).cells))] := hO₃.call hW₄ rfl
  refine WO_v (a_mv (v := .tu [(if (x7).isSome = true then V.p r₁ 0 else V.pn), .i .i64 x8]) rfl) ?_
  refine WO_v (a_ext (vs := [(if (x7).isSome = true then V.p r₁ 0 else V.pn), .i .i64 x8]) (v := (if (x7).isSome = true then V.p r₁ 0 else V.pn)) rfl rfl) ?_
  refine WO_v (a_ext (vs := [(if (x7).isSome = true then V.p r₁ 0 else V.pn), .i .i64 x8]) (v := .i .i64 x8) rfl rfl) ?_
  refine WO_v (a_mv (v := (if (x7).isSome = true then V.p r₁ 0 else V.pn)) rfl) ?_
  refine WO_v (a_mv (v := .i .i64 x8) rfl) ?_
  refine WO_end ?_
  refine then_n ?_
  refine W_sq ?_
  refine W_sq ?_
  refine W_rg ?_
  refine WO_v (a_mv (v := .i .i64 ((max 0 n).tmod 4)) rfl) ?_
  refine WO_v (a_mv (v := .i .i64 0) rfl) ?_
  refine WO_end ?_
  refine then_n ?_
  refine W_bl ?_
  obtain ⟨g, hg₁, hp⟩ := bd_some hp
  replace hg₁ : x7 = some g := hg₁
  have hO₅ : Own B h k₄ [eBox r₁ [v₁], eSl e_T_api_Cell v₁ g.cells] := by have hq := hO₄; rw [hg₁] at hq; exact hq
  obtain ⟨o₁, ho₁, hp⟩ := bd_some hp
  refine W.mono (Q := fun e fr k => match (generalizing := false) o₁ with
      | full1 => e = (.exit 0) ∧ ∃ (v₃ : V), fr 0 = .i .i64 v ∧ fr 1 = .i .i64 d ∧ fr 2 = .i .i64 n ∧ fr 7 = .pn ∧ fr 10 = .b x2 ∧ fr 12 = .i .i64 x4 ∧ fr 14 = .i .i64 x6 ∧ fr 16 = .p r₁ 0 ∧ fr 17 = .i .i64 x8 ∧ Own B h k [eBox r₁ [v₃], eSl e_T_api_Cell v₃ full1]) ?_ ?_
  · clear hp
    refine W_loopF (fun st fr k => match st with | (full, x9) => ∃ (v₂ : V), fr 0 = .i .i64 v ∧ fr 1 = .i .i64 d ∧ fr 2 = .i .i64 n ∧ fr 7 = .pn ∧ fr 10 = .b x2 ∧ fr 12 = .i .i64 x4 ∧ fr 14 = .i .i64 x6 ∧ fr 16 = .p r₁ 0 ∧ fr 17 = .i .i64 x8 ∧ fr 54 = .i .i64 ((max 0 n).tmod 4) ∧ fr 55 = .i .i64 x9 ∧ Own B h k [eBox r₁ [v₂], eSl e_T_api_Cell v₂ full]) ho₁ (s := (g.cells, 0)) (Exists.intro v₁ (And.intro (rfl) (And.intro (rfl) (And.intro (rfl) (And.intro (rfl) (And.intro (rfl) (And.intro (rfl) (And.intro (rfl) (And.intro ((unw hg₁)) (And.intro (rfl) (And.intro (rfl) (And.intro (rfl) (hO₅.pick [0, 1] rfl (by decide)))))))))))))) ?_
    rintro ⟨full, x9⟩ q₂ k₆ ⟨v₂, q₂_0, q₂_1, q₂_2, q₂_7, q₂_10, q₂_12, q₂_14, q₂_16, q₂_17, q₂_54, q₂_55, hO₇⟩ o₂ hp
    dsimp only [p_muntinlaw10_GridNil.s0] at hp
    refine W_sq ?_
    refine W_rg ?_
    refine WO_v (a_lss (a := x9) (b := ((max 0 n).tmod 4)) q₂_55 q₂_54) ?_
    refine WO_end ?_
    refine then_n ?_
    refine W_sq ?_
    rcases if_some hp with ⟨b₁, hp⟩ | ⟨b₁, hp⟩
    · refine W_cT (t := (decide (x9 < ((max 0 n).tmod 4)))) rfl b₁ ?_
      refine W_sk ?_
      refine then_n ?_
      refine W_sq ?_
      refine W_bl ?_
      refine W_rg ?_
      refine WO_v (a_mv (v := .p r₁ 0) q₂_16) ?_
      obtain ⟨⟨x10, x11, m⟩, hx₅, hp⟩ := bd_some hp
      obtain ⟨u₅, k₇, ca₅, v₄, rfl, hW₅⟩ := p_grid_Grid_Add.ok (h := k₆) (g := (⟨full⟩ : T_grid_Grid)) (hO₇.toM [0, 1] rfl (by decide))  hx₅
      refine WO_c (id := 50) (caps := []) rfl (mp_cons (v := .p r₁ 0) rfl mp_nil) ca₅ ?_
      have hO₈ : Own B h k₇ [eBox r₁ [v₄], eSl e_T_api_Cell v₄ m.cells] := (hO₇.callM [0, 1] [] rfl rfl (by decide) hW₅ rfl).pick [0, 1] rfl (by decide)
      refine WO_end ?_
      refine blk_n ?_
      refine then_n ?_
      refine W_rg ?_
      obtain ⟨c₂, hp⟩ := ck_some hp
      refine WO_v (a_add (a := x9) (b := 1) q₂_55 rfl c₂) ?_
      refine WO_v (a_mv (v := .i .i64 (x9 + 1)) rfl) ?_
      refine WO_end ?_
      have hp := Option.some.inj hp; subst hp
      exact (Or.inl (Exists.intro (m.cells, x9 + 1) (And.intro rfl (And.intro rfl (Exists.intro v₄ (And.intro (q₂_0) (And.intro (q₂_1) (And.intro (q₂_2) (And.intro (q₂_7) (And.intro (q₂_10) (And.intro (q₂_12) (And.intro (q₂_14) (And.intro (q₂_16) (And.intro (q₂_17) (And.intro (q₂_54) (And.intro (rfl) (hO₈.pick [0, 1] rfl (by decide))))))))))))))))))
    · refine W_cF (t := (decide (x9 < ((max 0 n).tmod 4)))) rfl b₁ ?_
      refine W_ex ?_
      refine then_e ?_
      have hp := Option.some.inj hp; subst hp
      refine (Or.inr (Exists.intro full (And.intro rfl (And.intro (fun h => nomatch h) (fun he => ?_)))))
      subst he; exact (And.intro rfl (Exists.intro v₂ (And.intro (q₂_0) (And.intro (q₂_1) (And.intro (q₂_2) (And.intro (q₂_7) (And.intro (q₂_10) (And.intro (q₂_12) (And.intro (q₂_14) (And.intro (q₂_16) (And.intro (q₂_17) (hO₇.pick [0, 1] rfl (by decide)))))))))))))
  intro e₁ q₁ k₅ hJ₁
  obtain ⟨full1, rfl⟩ : ∃ x, x = o₁ := ⟨_, rfl⟩
  obtain ⟨rfl, v₃, q₁_0, q₁_1, q₁_2, q₁_7, q₁_10, q₁_12, q₁_14, q₁_16, q₁_17, hO₆⟩ := hJ₁
  refine blk_i ?_
  refine then_n ?_
  refine W_sq ?_
  refine W_rg ?_
  refine WO_v (a_mv (v := .p r₁ 0) q₁_16) ?_
  obtain ⟨⟨x12, x13, m1⟩, hx₆, hp⟩ := bd_some hp
  obtain ⟨u₆, k₈, ca₆, v₅, rfl, hW₆⟩ := p_grid_Grid_Add.ok (h := k₅) (g := (⟨full1⟩ : T_grid_Grid)) (hO₆.toM [0, 1] rfl (by decide))  hx₆
  refine WO_c (id := 50) (caps := []) rfl (mp_cons (v := .p r₁ 0) rfl mp_nil) ca₆ ?_
  have hO₉ : Own B h k₈ [eBox r₁ [v₅], eSl e_T_api_Cell v₅ m1.cells] := (hO₆.callM [0, 1] [] rfl rfl (by decide) hW₆ rfl).pick [0, 1] rfl (by decide)
  refine WO_v (a_mv (v := .tu [.i .i64 x12, .i .i64 x13]) rfl) ?_
  refine WO_v (a_ext (vs := [.i .i64 x12, .i .i64 x13]) (v := .i .i64 x12) rfl rfl) ?_
  refine WO_v (a_ext (vs := [.i .i64 x12, .i .i64 x13]) (v := .i .i64 x13) rfl rfl) ?_
  refine WO_v (a_mv (v := .i .i64 x12) rfl) ?_
  refine WO_v (a_mv (v := .i .i64 x13) rfl) ?_
  refine WO_end ?_
  refine then_n ?_
  refine W_sq ?_
  refine W_rg ?_
  refine WO_v (a_mv (v := .i .i64 n) q₁_2) ?_
  refine WO_v (a_mx (a := 0) (b := n) rfl rfl) ?_
  refine WO_v (a_rem (a := (max 0 n)) (b := 9) rfl rfl (by decide)) ?_
  obtain ⟨c₃, hp⟩ := ck_some hp
  refine WO_v (a_add (a := 4097) (b := ((max 0 n).tmod 9)) rfl rfl c₃) ?_
  obtain ⟨⟨x14, x15⟩, hx₇, hp⟩ := bd_some hp
  obtain ⟨u₇, k₉, ca₇, r₂, v₆, rfl, hW₇⟩ := p_grid_New.ok (h := k₈)   hx₇
  refine WO_c (id := 45) (caps := []) rfl (mp_cons (v := .i .i64 (4097 + ((max 0 n).tmod 9))) rfl mp_nil) ca₇ ?_
  have hO₁₀ : Own B h k₉ [eBox r₁ [v₅], eSl e_T_api_Cell v₅ m1.cells, eIf (x14).isSome (eBox r₂ [v₆]), eIf (x14).isSome (eSl e_T_api_Cell v₆ ((x14.getD default).cells))] := hO₉.call hW₇ rfl
  refine WO_v (a_mv (v := .tu [(if (x14).isSome = true then V.p r₂ 0 else V.pn), .i .i64 x15]) rfl) ?_
  refine WO_v (a_ext (vs := [(if (x14).isSome = true then V.p r₂ 0 else V.pn), .i .i64 x15]) (v := (if (x14).isSome = true then V.p r₂ 0 else V.pn)) rfl rfl) ?_
  refine WO_v (a_ext (vs := [(if (x14).isSome = true then V.p r₂ 0 else V.pn), .i .i64 x15]) (v := .i .i64 x15) rfl rfl) ?_
  refine WO_v (a_mv (v := (if (x14).isSome = true then V.p r₂ 0 else V.pn)) rfl) ?_
  refine WO_v (a_mv (v := .i .i64 x15) rfl) ?_
  refine WO_end ?_
  refine then_n ?_
  refine W_sq ?_
  refine W_rg ?_
  refine WO_v (a_mv (v := .p r₁ 0) q₁_16) ?_
  obtain ⟨⟨x16, m2⟩, hx₈, hp⟩ := bd_some hp
  obtain ⟨u₈, k₁₀, ca₈, v₇, rfl, hW₈⟩ := p_grid_Grid_Join.ok (h := k₉) (g := m1) (v := 0) (d := 0) (w := 1) (owner := 3) (hO₁₀.toM [0, 1] rfl (by decide))  hx₈
  refine WO_c (id := 52) (caps := []) rfl (mp_cons (v := .p r₁ 0) rfl (mp_cons (v := .i .i64 0) rfl (mp_cons (v := .i .i64 0) rfl (mp_cons (v := .i .i64 1) rfl (mp_cons (v := .i .i64 3) rfl mp_nil))))) ca₈ ?_
  have hO₁₁ : Own B h k₁₀ [eBox r₁ [v₇], eSl e_T_api_Cell v₇ m2.cells, eIf (x14).isSome (eBox r₂ [v₆]), eIf (x14).isSome (eSl e_T_api_Cell v₆ ((x14.getD default).cells))] := (hO₁₀.callM [0, 1] [2, 3] rfl rfl (by decide) hW₈ rfl).pick [2, 3, 0, 1] rfl (by decide)
  refine WO_v (a_mv (v := .i .i64 x16) rfl) ?_
  refine WO_end ?_
  refine then_n ?_
  refine W_sq ?_
  refine W_rg ?_
  refine WO_v (a_mv (v := .p r₁ 0) q₁_16) ?_
  obtain ⟨⟨x17, x18, m3⟩, hx₉, hp⟩ := bd_some hp
  obtain ⟨u₉, k₁₁, ca₉, v₈, rfl, hW₉⟩ := p_grid_Grid_Split.ok (h := k₁₀) (g := m2) (v := 0) (d := 0) (hO₁₁.toM [0, 1] rfl (by decide))  hx₉
  refine WO_c (id := 48) (caps := []) rfl (mp_cons (v := .p r₁ 0) rfl (mp_cons (v := .i .i64 0) rfl (mp_cons (v := .i .i64 0) rfl mp_nil))) ca₉ ?_
  have hO₁₂ : Own B h k₁₁ [eBox r₁ [v₈], eSl e_T_api_Cell v₈ m3.cells, eIf (x14).isSome (eBox r₂ [v₆]), eIf (x14).isSome (eSl e_T_api_Cell v₆ ((x14.getD default).cells))] := (hO₁₁.callM [0, 1] [2, 3] rfl rfl (by decide) hW₉ rfl).pick [2, 3, 0, 1] rfl (by decide)
  refine WO_v (a_mv (v := .tu [.i .i64 x17, .i .i64 x18]) rfl) ?_
  refine WO_v (a_ext (vs := [.i .i64 x17, .i .i64 x18]) (v := .i .i64 x17) rfl rfl) ?_
  refine WO_v (a_ext (vs := [.i .i64 x17, .i .i64 x18]) (v := .i .i64 x18) rfl rfl) ?_
  refine WO_v (a_mv (v := .i .i64 x17) rfl) ?_
  refine WO_v (a_mv (v := .i .i64 x18) rfl) ?_
  refine WO_end ?_
  refine then_n ?_
  refine W_sq ?_
  refine W_rg ?_
  obtain ⟨x19, hx₁₀, hp⟩ := bd_some hp
  obtain ⟨u₁₀, k₁₂, ca₁₀, rfl, hW₁₀⟩ := p_muntinlaw10_wakes.ok (h := k₁₁)   hx₁₀
  refine WO_c (id := 47) (caps := []) rfl mp_nil ca₁₀ ?_
  have hO₁₃ : Own B h k₁₂ [eBox r₁ [v₈], eSl e_T_api_Cell v₈ m3.cells, eIf (x14).isSome (eBox r₂ [v₆]), eIf (x14).isSome (eSl e_T_api_Cell v₆ ((x14.getD default).cells))] := hO₁₂.call hW₁₀ rfl
  refine WO_v (a_mv (v := .b x19) rfl) ?_
  refine WO_cut 3 (fun fr' k' => k₁₂ = k' ∧ fr' 84 = .b (x19 && (!x2)) ∧ fr' 0 = .i .i64 v ∧ fr' 1 = .i .i64 d ∧ fr' 12 = .i .i64 x4 ∧ fr' 14 = .i .i64 x6 ∧ fr' 17 = .i .i64 x8 ∧ fr' 19 = .i .i64 x13 ∧ fr' 2 = .i .i64 n ∧ fr' 21 = .i .i64 x15 ∧ fr' 22 = .i .i64 x16 ∧ fr' 24 = .i .i64 x18 ∧ fr' 7 = .pn) ?_ ?_
  · rcases bc x19 with b₂ | b₂
    · skip
      refine WO_on rfl b₂ ?_
      refine WO_v (a_mv (v := .b x2) q₁_10) ?_
      refine WO_on rfl b₂ ?_
      refine WO_v (a_not (t := x2) rfl) ?_
      refine WO_v (a_pickT (t := x19) (v := .b (x19 && (!x2))) rfl b₂ (Eq.trans (b := V.b (!x2)) rfl (and_on b₂))) ?_
      refine WO_end ?_
      exact ⟨rfl, rfl, q₁_0, q₁_1, q₁_12, q₁_14, q₁_17, rfl, q₁_2, rfl, rfl, rfl, q₁_7⟩
    · skip
      refine WO_off rfl b₂ ?_
      refine WO_off rfl b₂ ?_
      refine WO_v (a_pickF (t := x19) (v := .b (x19 && (!x2))) rfl b₂ (Eq.trans (b := V.b false) rfl (and_off b₂))) ?_
      refine WO_end ?_
      exact ⟨rfl, rfl, q₁_0, q₁_1, q₁_12, q₁_14, q₁_17, rfl, q₁_2, rfl, rfl, rfl, q₁_7⟩
  rintro frg₁ _ ⟨rfl, g₁_84, g₁_0, g₁_1, g₁_12, g₁_14, g₁_17, g₁_19, g₁_2, g₁_21, g₁_22, g₁_24, g₁_7⟩
  refine WO_v (a_mv (v := .b (x19 && (!x2))) g₁_84) ?_
  refine WO_cut 3 (fun fr' k' => k₁₂ = k' ∧ fr' 88 = .b ((x19 && (!x2)) && (decide (x4 = 1))) ∧ fr' 0 = .i .i64 v ∧ fr' 1 = .i .i64 d ∧ fr' 14 = .i .i64 x6 ∧ fr' 17 = .i .i64 x8 ∧ fr' 19 = .i .i64 x13 ∧ fr' 2 = .i .i64 n ∧ fr' 21 = .i .i64 x15 ∧ fr' 22 = .i .i64 x16 ∧ fr' 24 = .i .i64 x18 ∧ fr' 7 = .pn) ?_ ?_
  · rcases bc (x19 && (!x2)) with b₃ | b₃
    · skip
      refine WO_on rfl b₃ ?_
      refine WO_v (a_mv (v := .i .i64 x4) g₁_12) ?_
      refine WO_on rfl b₃ ?_
      refine WO_v (a_eqI (a := x4) (b := 1) rfl rfl) ?_
      refine WO_v (a_pickT (t := (x19 && (!x2))) (v := .b ((x19 && (!x2)) && (decide (x4 = 1)))) rfl b₃ (Eq.trans (b := V.b (decide (x4 = 1))) rfl (and_on b₃))) ?_
      refine WO_end ?_
      exact ⟨rfl, rfl, g₁_0, g₁_1, g₁_14, g₁_17, g₁_19, g₁_2, g₁_21, g₁_22, g₁_24, g₁_7⟩
    · skip
      refine WO_off rfl b₃ ?_
      refine WO_off rfl b₃ ?_
      refine WO_v (a_pickF (t := (x19 && (!x2))) (v := .b ((x19 && (!x2)) && (decide (x4 = 1)))) rfl b₃ (Eq.trans (b := V.b false) rfl (and_off b₃))) ?_
      refine WO_end ?_
      exact ⟨rfl, rfl, g₁_0, g₁_1, g₁_14, g₁_17, g₁_19, g₁_2, g₁_21, g₁_22, g₁_24, g₁_7⟩
  rintro frg₂ _ ⟨rfl, g₂_88, g₂_0, g₂_1, g₂_14, g₂_17, g₂_19, g₂_2, g₂_21, g₂_22, g₂_24, g₂_7⟩
  refine WO_v (a_mv (v := .b ((x19 && (!x2)) && (decide (x4 = 1)))) g₂_88) ?_
  refine WO_cut 3 (fun fr' k' => k₁₂ = k' ∧ fr' 92 = .b (((x19 && (!x2)) && (decide (x4 = 1))) && (decide (x6 = 1))) ∧ fr' 0 = .i .i64 v ∧ fr' 1 = .i .i64 d ∧ fr' 17 = .i .i64 x8 ∧ fr' 19 = .i .i64 x13 ∧ fr' 2 = .i .i64 n ∧ fr' 21 = .i .i64 x15 ∧ fr' 22 = .i .i64 x16 ∧ fr' 24 = .i .i64 x18 ∧ fr' 7 = .pn) ?_ ?_
  · rcases bc ((x19 && (!x2)) && (decide (x4 = 1))) with b₄ | b₄
    · skip
      refine WO_on rfl b₄ ?_
      refine WO_v (a_mv (v := .i .i64 x6) g₂_14) ?_
      refine WO_on rfl b₄ ?_
      refine WO_v (a_eqI (a := x6) (b := 1) rfl rfl) ?_
      refine WO_v (a_pickT (t := ((x19 && (!x2)) && (decide (x4 = 1)))) (v := .b (((x19 && (!x2)) && (decide (x4 = 1))) && (decide (x6 = 1)))) rfl b₄ (Eq.trans (b := V.b (decide (x6 = 1))) rfl (and_on b₄))) ?_
      refine WO_end ?_
      exact ⟨rfl, rfl, g₂_0, g₂_1, g₂_17, g₂_19, g₂_2, g₂_21, g₂_22, g₂_24, g₂_7⟩
    · skip
      refine WO_off rfl b₄ ?_
      refine WO_off rfl b₄ ?_
      refine WO_v (a_pickF (t := ((x19 && (!x2)) && (decide (x4 = 1)))) (v := .b (((x19 && (!x2)) && (decide (x4 = 1))) && (decide (x6 = 1)))) rfl b₄ (Eq.trans (b := V.b false) rfl (and_off b₄))) ?_
      refine WO_end ?_
      exact ⟨rfl, rfl, g₂_0, g₂_1, g₂_17, g₂_19, g₂_2, g₂_21, g₂_22, g₂_24, g₂_7⟩
  rintro frg₃ _ ⟨rfl, g₃_92, g₃_0, g₃_1, g₃_17, g₃_19, g₃_2, g₃_21, g₃_22, g₃_24, g₃_7⟩
  refine WO_v (a_mv (v := .b (((x19 && (!x2)) && (decide (x4 = 1))) && (decide (x6 = 1)))) g₃_92) ?_
  obtain ⟨t, hv₁, hp⟩ := bd_some hp
  refine WO_cut 7 (fun fr' k' => Own B h k' [eBox r₁ [v₈], eSl e_T_api_Cell v₈ m3.cells, eIf (x14).isSome (eBox r₂ [v₆]), eIf (x14).isSome (eSl e_T_api_Cell v₆ ((x14.getD default).cells))] ∧ fr' 100 = .b t ∧ fr' 17 = .i .i64 x8 ∧ fr' 19 = .i .i64 x13 ∧ fr' 21 = .i .i64 x15 ∧ fr' 22 = .i .i64 x16 ∧ fr' 24 = .i .i64 x18 ∧ fr' 7 = .pn) ?_ ?_
  · clear hp; rcases if_some hv₁ with ⟨b₅, hp⟩ | ⟨b₅, hp⟩
    · skip
      refine WO_on rfl b₅ ?_
      refine WO_v (a_mv (v := .pn) g₃_7) ?_
      refine WO_on rfl b₅ ?_
      refine WO_v (a_mv (v := .i .i64 v) g₃_0) ?_
      refine WO_on rfl b₅ ?_
      refine WO_v (a_mv (v := .i .i64 d) g₃_1) ?_
      refine WO_on rfl b₅ ?_
      refine WO_v (a_mv (v := .i .i64 n) g₃_2) ?_
      refine WO_on rfl b₅ ?_
      obtain ⟨x20, hx₁₁, hp⟩ := bd_some hp
      obtain ⟨u₁₁, k₁₃, ca₁₁, rfl, hW₁₁⟩ := p_grid_Grid_Join_nil0.ok (h := k₁₂)   hx₁₁
      refine WO_c (id := 52) (caps := []) rfl (mp_cons (v := .pn) rfl (mp_cons (v := .i .i64 v) rfl (mp_cons (v := .i .i64 d) rfl (mp_cons (v := .i .i64 n) rfl (mp_cons (v := .i .i64 0) rfl mp_nil))))) ca₁₁ ?_
      have hO₁₄ : Own B h k₁₃ [eBox r₁ [v₈], eSl e_T_api_Cell v₈ m3.cells, eIf (x14).isSome (eBox r₂ [v₆]), eIf (x14).isSome (eSl e_T_api_Cell v₆ ((x14.getD default).cells))] := hO₁₃.call hW₁₁ rfl
      refine WO_on rfl b₅ ?_
      refine WO_v (a_eqI (a := x20) (b := 1) rfl rfl) ?_
      refine WO_v (a_pickT (t := (((x19 && (!x2)) && (decide (x4 = 1))) && (decide (x6 = 1)))) (v := .b t) rfl b₅ (Eq.trans (b := V.b (decide (x20 = 1))) rfl (congrArg V.b (Option.some.inj hp)))) ?_
      refine WO_end ?_
      exact ⟨hO₁₄.pick [0, 1, 2, 3] rfl (by decide), rfl, g₃_17, g₃_19, g₃_21, g₃_22, g₃_24, g₃_7⟩
    · skip
      refine WO_off rfl b₅ ?_
      refine WO_off rfl b₅ ?_
      refine WO_off rfl b₅ ?_
      refine WO_off rfl b₅ ?_
      refine WO_off rfl b₅ ?_
      refine WO_off rfl b₅ ?_
      refine WO_v (a_pickF (t := (((x19 && (!x2)) && (decide (x4 = 1))) && (decide (x6 = 1)))) (v := .b t) rfl b₅ (Eq.trans (b := V.b false) rfl (congrArg V.b (Option.some.inj hp)))) ?_
      refine WO_end ?_
      exact ⟨hO₁₃.pick [0, 1, 2, 3] rfl (by decide), rfl, g₃_17, g₃_19, g₃_21, g₃_22, g₃_24, g₃_7⟩
  rintro frg₄ k₁₄ ⟨hO₁₅, g₄_100, g₄_17, g₄_19, g₄_21, g₄_22, g₄_24, g₄_7⟩
  refine WO_v (a_mv (v := .b t) g₄_100) ?_
  obtain ⟨t1, hv₂, hp⟩ := bd_some hp
  refine WO_cut 4 (fun fr' k' => Own B h k' [eBox r₁ [v₈], eSl e_T_api_Cell v₈ m3.cells, eIf (x14).isSome (eBox r₂ [v₆]), eIf (x14).isSome (eSl e_T_api_Cell v₆ ((x14.getD default).cells))] ∧ fr' 105 = .b t1 ∧ fr' 17 = .i .i64 x8 ∧ fr' 19 = .i .i64 x13 ∧ fr' 21 = .i .i64 x15 ∧ fr' 22 = .i .i64 x16 ∧ fr' 24 = .i .i64 x18 ∧ fr' 7 = .pn) ?_ ?_
  · clear hp; rcases if_some hv₂ with ⟨b₆, hp⟩ | ⟨b₆, hp⟩
    · skip
      refine WO_on rfl b₆ ?_
      refine WO_v (a_mv (v := .pn) g₄_7) ?_
      refine WO_on rfl b₆ ?_
      obtain ⟨x21, hx₁₂, hp⟩ := bd_some hp
      obtain ⟨u₁₂, k₁₅, ca₁₂, rfl, hW₁₂⟩ := p_grid_Grid_Len_nil0.ok (h := k₁₄)   hx₁₂
      refine WO_c (id := 55) (caps := []) rfl (mp_cons (v := .pn) rfl mp_nil) ca₁₂ ?_
      have hO₁₆ : Own B h k₁₅ [eBox r₁ [v₈], eSl e_T_api_Cell v₈ m3.cells, eIf (x14).isSome (eBox r₂ [v₆]), eIf (x14).isSome (eSl e_T_api_Cell v₆ ((x14.getD default).cells))] := hO₁₅.call hW₁₂ rfl
      refine WO_on rfl b₆ ?_
      refine WO_v (a_eqI (a := x21) (b := 0) rfl rfl) ?_
      refine WO_v (a_pickT (t := t) (v := .b t1) rfl b₆ (Eq.trans (b := V.b (decide (x21 = 0))) rfl (congrArg V.b (Option.some.inj hp)))) ?_
      refine WO_end ?_
      exact ⟨hO₁₆.pick [0, 1, 2, 3] rfl (by decide), rfl, g₄_17, g₄_19, g₄_21, g₄_22, g₄_24, g₄_7⟩
    · skip
      refine WO_off rfl b₆ ?_
      refine WO_off rfl b₆ ?_
      refine WO_off rfl b₆ ?_
      refine WO_v (a_pickF (t := t) (v := .b t1) rfl b₆ (Eq.trans (b := V.b false) rfl (congrArg V.b (Option.some.inj hp)))) ?_
      refine WO_end ?_
      exact ⟨hO₁₅.pick [0, 1, 2, 3] rfl (by decide), rfl, g₄_17, g₄_19, g₄_21, g₄_22, g₄_24, g₄_7⟩
  rintro frg₅ k₁₆ ⟨hO₁₇, g₅_105, g₅_17, g₅_19, g₅_21, g₅_22, g₅_24, g₅_7⟩
  refine WO_v (a_mv (v := .b t1) g₅_105) ?_
  obtain ⟨t2, hv₃, hp⟩ := bd_some hp
  refine WO_cut 5 (fun fr' k' => Own B h k' [eBox r₁ [v₈], eSl e_T_api_Cell v₈ m3.cells, eIf (x14).isSome (eBox r₂ [v₆]), eIf (x14).isSome (eSl e_T_api_Cell v₆ ((x14.getD default).cells))] ∧ fr' 111 = .b t2 ∧ fr' 17 = .i .i64 x8 ∧ fr' 19 = .i .i64 x13 ∧ fr' 21 = .i .i64 x15 ∧ fr' 22 = .i .i64 x16 ∧ fr' 24 = .i .i64 x18) ?_ ?_
  · clear hp; rcases if_some hv₃ with ⟨b₇, hp⟩ | ⟨b₇, hp⟩
    · skip
      refine WO_on rfl b₇ ?_
      refine WO_v (a_mv (v := .pn) g₅_7) ?_
      refine WO_on rfl b₇ ?_
      obtain ⟨x22, hx₁₃, hp⟩ := bd_some hp
      obtain ⟨u₁₃, k₁₇, ca₁₃, v₉, rfl, hW₁₃⟩ := p_grid_Grid_Cells_nil0.ok (h := k₁₆)   hx₁₃
      refine WO_c (id := 57) (caps := []) rfl (mp_cons (v := .pn) rfl mp_nil) ca₁₃ ?_
      have hO₁₈ : Own B h k₁₇ [eBox r₁ [v₈], eSl e_T_api_Cell v₈ m3.cells, eIf (x14).isSome (eBox r₂ [v₆]), eIf (x14).isSome (eSl e_T_api_Cell v₆ ((x14.getD default).cells)), eSl e_T_api_Cell v₉ x22] := hO₁₇.call hW₁₃ rfl
      refine WO_on rfl b₇ ?_
      refine WO_v (a_len (hO₁₈.sl 4 rfl : Sl e_T_api_Cell k₁₇ v₉ x22) rfl) ?_
      refine WO_on rfl b₇ ?_
      refine WO_v (a_eqI (a := (x22.length : Int)) (b := 0) rfl rfl) ?_
      refine WO_v (a_pickT (t := t1) (v := .b t2) rfl b₇ (Eq.trans (b := V.b (decide ((x22.length : Int) = 0))) rfl (congrArg V.b (Option.some.inj hp)))) ?_
      refine WO_end ?_
      exact ⟨hO₁₈.pick [0, 1, 2, 3] rfl (by decide), rfl, g₅_17, g₅_19, g₅_21, g₅_22, g₅_24⟩
    · skip
      refine WO_off rfl b₇ ?_
      refine WO_off rfl b₇ ?_
      refine WO_off rfl b₇ ?_
      refine WO_off rfl b₇ ?_
      refine WO_v (a_pickF (t := t1) (v := .b t2) rfl b₇ (Eq.trans (b := V.b false) rfl (congrArg V.b (Option.some.inj hp)))) ?_
      refine WO_end ?_
      exact ⟨hO₁₇.pick [0, 1, 2, 3] rfl (by decide), rfl, g₅_17, g₅_19, g₅_21, g₅_22, g₅_24⟩
  rintro frg₆ k₁₈ ⟨hO₁₉, g₆_111, g₆_17, g₆_19, g₆_21, g₆_22, g₆_24⟩
  refine WO_v (a_mv (v := .b t2) g₆_111) ?_
  refine WO_cut 3 (fun fr' k' => k₁₈ = k' ∧ fr' 115 = .b (t2 && (decide (x8 = 0))) ∧ fr' 19 = .i .i64 x13 ∧ fr' 21 = .i .i64 x15 ∧ fr' 22 = .i .i64 x16 ∧ fr' 24 = .i .i64 x18) ?_ ?_
  · rcases bc t2 with b₈ | b₈
    · skip
      refine WO_on rfl b₈ ?_
      refine WO_v (a_mv (v := .i .i64 x8) g₆_17) ?_
      refine WO_on rfl b₈ ?_
      refine WO_v (a_eqI (a := x8) (b := 0) rfl rfl) ?_
      refine WO_v (a_pickT (t := t2) (v := .b (t2 && (decide (x8 = 0)))) rfl b₈ (Eq.trans (b := V.b (decide (x8 = 0))) rfl (and_on b₈))) ?_
      refine WO_end ?_
      exact ⟨rfl, rfl, g₆_19, g₆_21, g₆_22, g₆_24⟩
    · skip
      refine WO_off rfl b₈ ?_
      refine WO_off rfl b₈ ?_
      refine WO_v (a_pickF (t := t2) (v := .b (t2 && (decide (x8 = 0)))) rfl b₈ (Eq.trans (b := V.b false) rfl (and_off b₈))) ?_
      refine WO_end ?_
      exact ⟨rfl, rfl, g₆_19, g₆_21, g₆_22, g₆_24⟩
  rintro frg₇ _ ⟨rfl, g₇_115, g₇_19, g₇_21, g₇_22, g₇_24⟩
  refine WO_v (a_mv (v := .b (t2 && (decide (x8 = 0)))) g₇_115) ?_
  refine WO_cut 3 (fun fr' k' => k₁₈ = k' ∧ fr' 119 = .b ((t2 && (decide (x8 = 0))) && (decide (x13 = 6))) ∧ fr' 21 = .i .i64 x15 ∧ fr' 22 = .i .i64 x16 ∧ fr' 24 = .i .i64 x18) ?_ ?_
  · rcases bc (t2 && (decide (x8 = 0))) with b₉ | b₉
    · skip
      refine WO_on rfl b₉ ?_
      refine WO_v (a_mv (v := .i .i64 x13) g₇_19) ?_
      refine WO_on rfl b₉ ?_
      refine WO_v (a_eqI (a := x13) (b := 6) rfl rfl) ?_
      refine WO_v (a_pickT (t := (t2 && (decide (x8 = 0)))) (v := .b ((t2 && (decide (x8 = 0))) && (decide (x13 = 6)))) rfl b₉ (Eq.trans (b := V.b (decide (x13 = 6))) rfl (and_on b₉))) ?_
      refine WO_end ?_
      exact ⟨rfl, rfl, g₇_21, g₇_22, g₇_24⟩
    · skip
      refine WO_off rfl b₉ ?_
      refine WO_off rfl b₉ ?_
      refine WO_v (a_pickF (t := (t2 && (decide (x8 = 0)))) (v := .b ((t2 && (decide (x8 = 0))) && (decide (x13 = 6)))) rfl b₉ (Eq.trans (b := V.b false) rfl (and_off b₉))) ?_
      refine WO_end ?_
      exact ⟨rfl, rfl, g₇_21, g₇_22, g₇_24⟩
  rintro frg₈ _ ⟨rfl, g₈_119, g₈_21, g₈_22, g₈_24⟩
  refine WO_v (a_mv (v := .b ((t2 && (decide (x8 = 0))) && (decide (x13 = 6)))) g₈_119) ?_
  refine WO_cut 3 (fun fr' k' => k₁₈ = k' ∧ fr' 123 = .b (((t2 && (decide (x8 = 0))) && (decide (x13 = 6))) && (decide (x15 = 6))) ∧ fr' 22 = .i .i64 x16 ∧ fr' 24 = .i .i64 x18) ?_ ?_
  · rcases bc ((t2 && (decide (x8 = 0))) && (decide (x13 = 6))) with b₁₀ | b₁₀
    · skip
      refine WO_on rfl b₁₀ ?_
      refine WO_v (a_mv (v := .i .i64 x15) g₈_21) ?_
      refine WO_on rfl b₁₀ ?_
      refine WO_v (a_eqI (a := x15) (b := 6) rfl rfl) ?_
      refine WO_v (a_pickT (t := ((t2 && (decide (x8 = 0))) && (decide (x13 = 6)))) (v := .b (((t2 && (decide (x8 = 0))) && (decide (x13 = 6))) && (decide (x15 = 6)))) rfl b₁₀ (Eq.trans (b := V.b (decide (x15 = 6))) rfl (and_on b₁₀))) ?_
      refine WO_end ?_
      exact ⟨rfl, rfl, g₈_22, g₈_24⟩
    · skip
      refine WO_off rfl b₁₀ ?_
      refine WO_off rfl b₁₀ ?_
      refine WO_v (a_pickF (t := ((t2 && (decide (x8 = 0))) && (decide (x13 = 6)))) (v := .b (((t2 && (decide (x8 = 0))) && (decide (x13 = 6))) && (decide (x15 = 6)))) rfl b₁₀ (Eq.trans (b := V.b false) rfl (and_off b₁₀))) ?_
      refine WO_end ?_
      exact ⟨rfl, rfl, g₈_22, g₈_24⟩
  rintro frg₉ _ ⟨rfl, g₉_123, g₉_22, g₉_24⟩
  refine WO_v (a_mv (v := .b (((t2 && (decide (x8 = 0))) && (decide (x13 = 6))) && (decide (x15 = 6)))) g₉_123) ?_
  refine WO_cut 3 (fun fr' k' => k₁₈ = k' ∧ fr' 127 = .b ((((t2 && (decide (x8 = 0))) && (decide (x13 = 6))) && (decide (x15 = 6))) && (decide (x16 = 0))) ∧ fr' 24 = .i .i64 x18) ?_ ?_
  · rcases bc (((t2 && (decide (x8 = 0))) && (decide (x13 = 6))) && (decide (x15 = 6))) with b₁₁ | b₁₁
    · skip
      refine WO_on rfl b₁₁ ?_
      refine WO_v (a_mv (v := .i .i64 x16) g₉_22) ?_
      refine WO_on rfl b₁₁ ?_
      refine WO_v (a_eqI (a := x16) (b := 0) rfl rfl) ?_
      refine WO_v (a_pickT (t := (((t2 && (decide (x8 = 0))) && (decide (x13 = 6))) && (decide (x15 = 6)))) (v := .b ((((t2 && (decide (x8 = 0))) && (decide (x13 = 6))) && (decide (x15 = 6))) && (decide (x16 = 0)))) rfl b₁₁ (Eq.trans (b := V.b (decide (x16 = 0))) rfl (and_on b₁₁))) ?_
      refine WO_end ?_
      exact ⟨rfl, rfl, g₉_24⟩
    · skip
      refine WO_off rfl b₁₁ ?_
      refine WO_off rfl b₁₁ ?_
      refine WO_v (a_pickF (t := (((t2 && (decide (x8 = 0))) && (decide (x13 = 6))) && (decide (x15 = 6)))) (v := .b ((((t2 && (decide (x8 = 0))) && (decide (x13 = 6))) && (decide (x15 = 6))) && (decide (x16 = 0)))) rfl b₁₁ (Eq.trans (b := V.b false) rfl (and_off b₁₁))) ?_
      refine WO_end ?_
      exact ⟨rfl, rfl, g₉_24⟩
  rintro frg₁₀ _ ⟨rfl, g₁₀_127, g₁₀_24⟩
  refine WO_v (a_mv (v := .b ((((t2 && (decide (x8 = 0))) && (decide (x13 = 6))) && (decide (x15 = 6))) && (decide (x16 = 0)))) g₁₀_127) ?_
  refine WO_cut 3 (fun fr' k' => k₁₈ = k' ∧ fr' 131 = .b (((((t2 && (decide (x8 = 0))) && (decide (x13 = 6))) && (decide (x15 = 6))) && (decide (x16 = 0))) && (decide (x18 = 6)))) ?_ ?_
  · rcases bc ((((t2 && (decide (x8 = 0))) && (decide (x13 = 6))) && (decide (x15 = 6))) && (decide (x16 = 0))) with b₁₂ | b₁₂
    · skip
      refine WO_on rfl b₁₂ ?_
      refine WO_v (a_mv (v := .i .i64 x18) g₁₀_24) ?_
      refine WO_on rfl b₁₂ ?_
      refine WO_v (a_eqI (a := x18) (b := 6) rfl rfl) ?_
      refine WO_v (a_pickT (t := ((((t2 && (decide (x8 = 0))) && (decide (x13 = 6))) && (decide (x15 = 6))) && (decide (x16 = 0)))) (v := .b (((((t2 && (decide (x8 = 0))) && (decide (x13 = 6))) && (decide (x15 = 6))) && (decide (x16 = 0))) && (decide (x18 = 6)))) rfl b₁₂ (Eq.trans (b := V.b (decide (x18 = 6))) rfl (and_on b₁₂))) ?_
      refine WO_end ?_
      exact ⟨rfl, rfl⟩
    · skip
      refine WO_off rfl b₁₂ ?_
      refine WO_off rfl b₁₂ ?_
      refine WO_v (a_pickF (t := ((((t2 && (decide (x8 = 0))) && (decide (x13 = 6))) && (decide (x15 = 6))) && (decide (x16 = 0)))) (v := .b (((((t2 && (decide (x8 = 0))) && (decide (x13 = 6))) && (decide (x15 = 6))) && (decide (x16 = 0))) && (decide (x18 = 6)))) rfl b₁₂ (Eq.trans (b := V.b false) rfl (and_off b₁₂))) ?_
      refine WO_end ?_
      exact ⟨rfl, rfl⟩
  rintro frg₁₁ _ ⟨rfl, g₁₁_131⟩
  refine WO_v (a_mv (v := .b (((((t2 && (decide (x8 = 0))) && (decide (x13 = 6))) && (decide (x15 = 6))) && (decide (x16 = 0))) && (decide (x18 = 6)))) g₁₁_131) ?_
  obtain ⟨t3, hv₄, hp⟩ := bd_some hp
  refine WO_cut 4 (fun fr' k' => Own B h k' [eBox r₁ [v₈], eSl e_T_api_Cell v₈ m3.cells, eIf (x14).isSome (eBox r₂ [v₆]), eIf (x14).isSome (eSl e_T_api_Cell v₆ ((x14.getD default).cells))] ∧ fr' 136 = .b t3) ?_ ?_
  · clear hp; rcases if_some hv₄ with ⟨b₁₃, hp⟩ | ⟨b₁₃, hp⟩
    · skip
      refine WO_on rfl b₁₃ ?_
      obtain ⟨c₄, hp⟩ := ck_some hp
      refine WO_x (hO₁₉.mks (E := e_T_api_Cell) (y := (⟨⟨0, 0, 0, 0⟩, ⟨0, 0, 0, 0⟩⟩ : T_api_Cell)) (bytes := 64) (z := 4097) hO₁₉.fr rfl rfl rfl c₄ (by decide)) ?_
      rintro v₁₀ k₁₉ ⟨r₃, f₁, hW⟩
      have hO₂₀ : Own B h k₁₉ [eBox r₁ [v₈], eSl e_T_api_Cell v₈ m3.cells, eIf (x14).isSome (eBox r₂ [v₆]), eIf (x14).isSome (eSl e_T_api_Cell v₆ ((x14.getD default).cells)), eSl e_T_api_Cell v₁₀ (List.replicate (4097 : Int).toNat (⟨⟨0, 0, 0, 0⟩, ⟨0, 0, 0, 0⟩⟩ : T_api_Cell))] := hW
      refine WO_on rfl b₁₃ ?_
      obtain ⟨x23, hx₁₄, hp⟩ := bd_some hp
      obtain ⟨u₁₄, k₂₀, ca₁₄, rfl, hW₁₄⟩ := p_grid_Check.ok (h := k₁₉)  (hO₂₀.sl 4 rfl : Sl e_T_api_Cell k₁₉ v₁₀ (List.replicate (4097 : Int).toNat (⟨⟨0, 0, 0, 0⟩, ⟨0, 0, 0, 0⟩⟩ : T_api_Cell))) hx₁₄
      refine WO_c (id := 66) (caps := []) rfl (mp_cons (v := v₁₀) rfl mp_nil) ca₁₄ ?_
      have hO₂₁ : Own B h k₂₀ [eBox r₁ [v₈], eSl e_T_api_Cell v₈ m3.cells, eIf (x14).isSome (eBox r₂ [v₆]), eIf (x14).isSome (eSl e_T_api_Cell v₆ ((x14.getD default).cells)), eSl e_T_api_Cell v₁₀ (List.replicate (4097 : Int).toNat (⟨⟨0, 0, 0, 0⟩, ⟨0, 0, 0, 0⟩⟩ : T_api_Cell))] := hO₂₀.call hW₁₄ rfl
      refine WO_on rfl b₁₃ ?_
      refine WO_v (a_eqI (a := x23) (b := 6) rfl rfl) ?_
      refine WO_v (a_pickT (t := (((((t2 && (decide (x8 = 0))) && (decide (x13 = 6))) && (decide (x15 = 6))) && (decide (x16 = 0))) && (decide (x18 = 6)))) (v := .b t3) rfl b₁₃ (Eq.trans (b := V.b (decide (x23 = 6))) rfl (congrArg V.b (Option.some.inj hp)))) ?_
      refine WO_end ?_
      exact ⟨hO₂₁.pick [0, 1, 2, 3] rfl (by decide), rfl⟩
    · skip
      refine WO_off rfl b₁₃ ?_
      refine WO_off rfl b₁₃ ?_
      refine WO_off rfl b₁₃ ?_
      refine WO_v (a_pickF (t := (((((t2 && (decide (x8 = 0))) && (decide (x13 = 6))) && (decide (x15 = 6))) && (decide (x16 = 0))) && (decide (x18 = 6)))) (v := .b t3) rfl b₁₃ (Eq.trans (b := V.b false) rfl (congrArg V.b (Option.some.inj hp)))) ?_
      refine WO_end ?_
      exact ⟨hO₁₉.pick [0, 1, 2, 3] rfl (by decide), rfl⟩
  rintro frg₁₂ k₂₁ ⟨hO₂₂, g₁₂_136⟩
  refine WO_v (a_mv (v := .b t3) g₁₂_136) ?_
  refine WO_end ?_
  refine then_n ?_
  refine W_rt ?_
  refine Ret_r (rs_t (n := 6) (v := .b t3) rfl rs_nil) ?_
  have hp := Option.some.inj hp; subst hp
  exact (And.intro rfl (hO₂₂.pick [] rfl (by decide)))

end Mu
