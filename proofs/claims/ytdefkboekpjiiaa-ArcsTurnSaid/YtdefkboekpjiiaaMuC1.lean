/- The code comes to what was worked out. -/
import Derived.Test.YtdefkboekpjiiaaMuDf
import Derived.Test.YtdefkboekpjiiaaMuPa
import Derived.Test.YtdefkboekpjiiaaMuC0
set_option linter.unusedVariables false
set_option linter.unnecessarySimpa false
set_option linter.unusedSimpArgs false
set_option maxHeartbeats 2000000
set_option maxRecDepth 10000
namespace Mu
open Go (IntKind BinOp UnOp)
theorem p_arcs_Length.ok {h : Hp} {cells : List T_api_Cell} {at_ : List T_api_Point} {v_cells : V} {v_at_ : V} (s_cells : Sl e_T_api_Cell h v_cells cells) (s_at_ : Sl e_T_api_Point h v_at_ at_) {r : Int × Int} (hp : p_arcs_Length cells at_ = some r) :
    ∃ u k', Is G 133 [v_cells, v_at_] h u k' ∧ V.tu [.i .i64 r.1, .i .i64 r.2] = u ∧ Own (fun r => r < h.n) h k' [] := by
  refine WC.is (WC_of G_F_arcs_Length ?_)
  unfold p_arcs_Length at hp
  let B : Nat → Prop := (fun r => r < h.n)
  have hO : Own B h h [] := Own.start0 h
  refine W_sq ?_
  refine W_rg ?_
  refine WO_v (a_mv (v := .i .i64 0) rfl) ?_
  refine WO_v (a_mv (v := .i .i64 0) rfl) ?_
  refine WO_end ?_
  refine then_n ?_
  refine W_sq ?_
  refine W_sq ?_
  refine W_rg ?_
  refine WO_v (a_mv (v := v_cells) rfl) ?_
  obtain ⟨x, hx₁, hp⟩ := bd_some hp
  obtain ⟨u₁, k₁, ca₁, rfl, hW₁⟩ := p_grid_Check.ok (h := h)  (hO.rd0 s_cells.rd : Sl e_T_api_Cell h v_cells cells) hx₁
  refine WO_c (id := 66) (caps := []) rfl (mp_cons (v := v_cells) rfl mp_nil) ca₁ ?_
  have hO₁ : Own B h k₁ [] := hO.call hW₁ rfl
  refine WO_v (a_mv (v := .i .i64 x) rfl) ?_
  refine WO_end ?_
  refine then_n ?_
  refine W_sq ?_
  refine W_rg ?_
  refine WO_v (a_mv (v := .i .i64 x) rfl) ?_
  refine WO_v (a_neI (a := x) (b := 0) rfl rfl) ?_
  refine WO_end ?_
  refine then_n ?_
  rcases if_some hp with ⟨b₁, hp⟩ | ⟨b₁, hp⟩
  · refine W_cT (t := (!(decide (x = 0)))) rfl b₁ ?_
    refine W_sq ?_
    refine W_rg ?_
    refine WO_v (a_mv (v := .i .i64 x) rfl) ?_
    refine WO_v (a_mv (v := .i .i64 0) rfl) ?_
    refine WO_v (a_mv (v := .i .i64 x) rfl) ?_
    refine WO_end ?_
    refine then_n ?_
    refine W_rt ?_
    refine then_r ?_
    refine Ret_r (rs_t (n := 4) (v := .i .i64 0) rfl (rs_t (n := 5) (v := .i .i64 x) rfl rs_nil)) ?_
    have hp := Option.some.inj hp; subst hp
    exact (And.intro rfl (hO₁.pick [] rfl (by decide)))
  · refine W_cF (t := (!(decide (x = 0)))) rfl b₁ ?_
    refine W_sk ?_
    refine then_n ?_
    refine W_sq ?_
    refine W_sq ?_
    refine W_rg ?_
    refine WO_v (a_mv (v := v_at_) rfl) ?_
    refine WO_v (a_len (hO₁.rd0 s_at_.rd : Sl e_T_api_Point k₁ v_at_ at_) rfl) ?_
    refine WO_v (a_mv (v := v_cells) rfl) ?_
    refine WO_v (a_len (hO₁.rd0 s_cells.rd : Sl e_T_api_Cell k₁ v_cells cells) rfl) ?_
    refine WO_v (a_neI (a := (at_.length : Int)) (b := (cells.length : Int)) rfl rfl) ?_
    refine WO_v (a_mv (v := .b (!(decide ((at_.length : Int) = (cells.length : Int))))) rfl) ?_
    obtain ⟨t, hv₁, hp⟩ := bd_some hp
    refine WO_cut 3 (fun fr' k' => Own B h k' [] ∧ fr' 28 = .b t ∧ fr' 0 = v_cells ∧ fr' 1 = v_at_) ?_ ?_
    · clear hp; rcases if_some hv₁ with ⟨b₂, hp⟩ | ⟨b₂, hp⟩
      · skip
        refine WO_off rfl b₂ ?_
        refine WO_off rfl b₂ ?_
        refine WO_v (a_pickT (t := (!(decide ((at_.length : Int) = (cells.length : Int))))) (v := .b t) rfl b₂ (Eq.trans (b := V.b true) rfl (congrArg V.b (Option.some.inj hp)))) ?_
        refine WO_end ?_
        exact ⟨hO₁.pick [] rfl (by decide), rfl, rfl, rfl⟩
      · skip
        refine WO_on rfl b₂ ?_
        refine WO_v (a_mv (v := v_at_) rfl) ?_
        refine WO_on rfl b₂ ?_
        obtain ⟨x1, hx₂, hp⟩ := bd_some hp
        obtain ⟨u₂, k₂, ca₂, rfl, hW₂⟩ := p_slices_ContainsFunc_api_Point.ok (h := k₁)  (hO₁.rd0 s_at_.rd : Sl e_T_api_Point k₁ v_at_ at_) (fun k z0 y hk hx => p_arcs_far.ok (h := k)  hx) hx₂
        refine WO_c (id := 146) (caps := []) rfl (mp_cons (v := v_at_) rfl (mp_cons (v := .f 147 []) rfl mp_nil)) ca₂ ?_
        have hO₂ : Own B h k₂ [] := hO₁.call hW₂ rfl
        refine WO_v (a_pickF (t := (!(decide ((at_.length : Int) = (cells.length : Int))))) (v := .b t) rfl b₂ (Eq.trans (b := V.b x1) rfl (congrArg V.b (Option.some.inj hp)))) ?_
        refine WO_end ?_
        exact ⟨hO₂.pick [] rfl (by decide), rfl, rfl, rfl⟩
    rintro frg₁ k₃ ⟨hO₃, g₁_28, g₁_0, g₁_1⟩
    refine WO_end ?_
    refine then_n ?_
    rcases if_some hp with ⟨b₃, hp⟩ | ⟨b₃, hp⟩
    · refine W_cT (t := t) g₁_28 b₃ ?_
      refine W_sq ?_
      refine W_rg ?_
      refine WO_v (a_mv (v := .i .i64 0) rfl) ?_
      refine WO_v (a_mv (v := .i .i64 2) rfl) ?_
      refine WO_end ?_
      refine then_n ?_
      refine W_rt ?_
      refine then_r ?_
      refine Ret_r (rs_t (n := 4) (v := .i .i64 0) rfl (rs_t (n := 5) (v := .i .i64 2) rfl rs_nil)) ?_
      have hp := Option.some.inj hp; subst hp
      exact (And.intro rfl (hO₃.pick [] rfl (by decide)))
    · refine W_cF (t := t) g₁_28 b₃ ?_
      refine W_sk ?_
      refine then_n ?_
      refine W_sq ?_
      refine W_rg ?_
      refine WO_v (a_mv (v := .i .i64 0) rfl) ?_
      refine WO_end ?_
      refine then_n ?_
      refine W_sq ?_
      refine W_sq ?_
      refine W_rg ?_
      refine WO_v (a_mv (v := v_cells) g₁_0) ?_
      refine WO_v (a_len (hO₃.rd0 s_cells.rd : Sl e_T_api_Cell k₃ v_cells cells) rfl) ?_
      refine WO_v (a_mv (v := .i .i64 0) rfl) ?_
      refine WO_end ?_
      refine then_n ?_
      refine W_bl ?_
      obtain ⟨o₁, ho₁, hp⟩ := bd_some hp
      refine W.mono (Q := fun e fr k => match (generalizing := false) o₁ with
          | .inl sum1 => e = (.exit 0) ∧ fr 7 = .i .i64 sum1 ∧ Own B h k []
          | .inr _ => e = .ret ∧ fr 4 = .i .i64 0 ∧ fr 5 = .i .i64 15 ∧ Own B h k []) ?_ ?_
      · clear hp
        refine W_loopF (fun st fr k => match st with | (sum, x2) => fr 1 = v_at_ ∧ fr 7 = .i .i64 sum ∧ fr 29 = v_cells ∧ fr 30 = .i .i64 (cells.length : Int) ∧ fr 31 = .i .i64 x2 ∧ Own B h k []) ho₁ (s := (0, 0)) (And.intro (g₁_1) (And.intro (rfl) (And.intro (rfl) (And.intro (rfl) (And.intro (rfl) (hO₃.pick [] rfl (by decide))))))) ?_
        rintro ⟨sum, x2⟩ q₂ k₅ ⟨q₂_1, q₂_7, q₂_29, q₂_30, q₂_31, hO₅⟩ o₂ hp
        dsimp only [p_arcs_Length.s0] at hp
        refine W_sq ?_
        refine W_rg ?_
        refine WO_v (a_lss (a := x2) (b := (cells.length : Int)) q₂_31 q₂_30) ?_
        refine WO_end ?_
        refine then_n ?_
        refine W_sq ?_
        rcases if_some hp with ⟨b₄, hp⟩ | ⟨b₄, hp⟩
        · refine W_cT (t := (decide (x2 < (cells.length : Int)))) rfl b₄ ?_
          refine W_sk ?_
          refine then_n ?_
          refine W_sq ?_
          refine W_bl ?_
          refine W_sq ?_
          refine W_rg ?_
          refine WO_v (a_mv (v := .i .i64 x2) q₂_31) ?_
          obtain ⟨c₁, hp⟩ := ck_some hp
          refine WO_v (a_ixa (E := e_T_api_Cell) (z := x2) (hO₅.rd0 s_cells.rd : Sl e_T_api_Cell k₅ v_cells cells) q₂_29 q₂_31 c₁) ?_
          refine WO_v (a_ldA (E := e_T_api_Cell) (hO₅.rd0 s_cells.rd : Sl e_T_api_Cell k₅ v_cells cells) rfl (toNat_lt c₁)) ?_
          refine WO_x (hO₅.alloc (cs := e_T_api_Cell.c (⟨⟨0, 0, 0, 0⟩, ⟨0, 0, 0, 0⟩⟩ : T_api_Cell)) hO₅.fr) ?_
          rintro _ k₆ ⟨r₁, rfl, n₁, f₁, hW⟩
          have hO₆ : Own B h k₆ [eBox r₁ (e_T_api_Cell.c (⟨⟨0, 0, 0, 0⟩, ⟨0, 0, 0, 0⟩⟩ : T_api_Cell))] := hW
          refine WO_v (a_mv (v := .i .i64 x2) rfl) ?_
          refine WO_x (hO₆.stb (ws := e_T_api_Cell.c (gi cells (x2 : Int).toNat)) (cs' := e_T_api_Cell.c (gi cells (x2 : Int).toNat)) (v := .ag (e_T_api_Cell.c (gi cells (x2 : Int).toNat))) 0 rfl rfl rfl rfl ⟨rfl, Nat.le_of_ble_eq_true rfl, rfl⟩ rfl) ?_
          rintro _ k₇ ⟨rfl, f₂, m₁, hW⟩
          have hO₇ : Own B h k₇ [eBox r₁ (e_T_api_Cell.c (gi cells (x2 : Int).toNat))] := hW
          refine WO_end ?_
          refine then_n ?_
          refine W_sq ?_
          refine W_rg ?_
          refine WO_x (hO₇.bsl (E := eInt) (l := ([0, 1] : List Int)) hO₇.fr (by rw [(ev_cons (v := .i .i64 0) rfl (ev_cons (v := .i .i64 1) rfl ev_nil))]; rfl) rfl) ?_
          rintro v₁ k₈ ⟨r₂, f₃, hW⟩
          have hO₈ : Own B h k₈ [eBox r₁ (e_T_api_Cell.c (gi cells (x2 : Int).toNat)), eSl eInt v₁ ([0, 1] : List Int)] := hW
          refine WO_v (a_len (hO₈.sl 1 rfl : Sl eInt k₈ v₁ ([0, 1] : List Int)) rfl) ?_
          refine WO_v (a_mv (v := .i .i64 0) rfl) ?_
          refine WO_end ?_
          refine then_n ?_
          refine W_bl ?_
          obtain ⟨o₃, ho₂, hp⟩ := bd_some hp
          refine W.mono (Q := fun e fr k => match (generalizing := false) o₃ with
              | .inl sum3 => e = (.exit 2) ∧ fr 1 = v_at_ ∧ fr 7 = .i .i64 sum3 ∧ fr 29 = v_cells ∧ fr 30 = .i .i64 (cells.length : Int) ∧ fr 31 = .i .i64 x2 ∧ Own B h k []
              | .inr _ => e = .ret ∧ fr 4 = .i .i64 0 ∧ fr 5 = .i .i64 15 ∧ Own B h k []) ?_ ?_
          · clear hp
            refine W_loopF (fun st fr k => match st with | (sum2, x3) => fr 1 = v_at_ ∧ fr 7 = .i .i64 sum2 ∧ fr 8 = .i .i64 x2 ∧ fr 9 = .p r₁ 0 ∧ fr 29 = v_cells ∧ fr 30 = .i .i64 (cells.length : Int) ∧ fr 31 = .i .i64 x2 ∧ fr 36 = v₁ ∧ fr 37 = .i .i64 (([0, 1] : List Int).length : Int) ∧ fr 38 = .i .i64 x3 ∧ Own B h k [eBox r₁ (e_T_api_Cell.c (gi cells (x2 : Int).toNat)), eSl eInt v₁ ([0, 1] : List Int)]) ho₂ (s := (sum, 0)) (And.intro (q₂_1) (And.intro (q₂_7) (And.intro (rfl) (And.intro (rfl) (And.intro (q₂_29) (And.intro (q₂_30) (And.intro (q₂_31) (And.intro (rfl) (And.intro (rfl) (And.intro (rfl) (hO₈.pick [0, 1] rfl (by decide)))))))))))) ?_
            rintro ⟨sum2, x3⟩ q₄ k₁₀ ⟨q₄_1, q₄_7, q₄_8, q₄_9, q₄_29, q₄_30, q₄_31, q₄_36, q₄_37, q₄_38, hO₁₀⟩ o₄ hp
            dsimp only [p_arcs_Length.s1] at hp
            refine W_sq ?_
            refine W_rg ?_
            refine WO_v (a_lss (a := x3) (b := (([0, 1] : List Int).length : Int)) q₄_38 q₄_37) ?_
            refine WO_end ?_
            refine then_n ?_
            refine W_sq ?_
            rcases if_some hp with ⟨b₅, hp⟩ | ⟨b₅, hp⟩
            · refine W_cT (t := (decide (x3 < (([0, 1] : List Int).length : Int)))) rfl b₅ ?_
              refine W_sk ?_
              refine then_n ?_
              refine W_sq ?_
              refine W_bl ?_
              refine W_sq ?_
              refine W_rg ?_
              obtain ⟨c₂, hp⟩ := ck_some hp
              refine WO_v (a_ixa (E := eInt) (z := x3) (hO₁₀.sl 1 rfl : Sl eInt k₁₀ v₁ ([0, 1] : List Int)) q₄_36 q₄_38 c₂) ?_
              refine WO_v (a_ldE (w := .i .i64 (gi ([0, 1] : List Int) (x3 : Int).toNat)) (hO₁₀.sl 1 rfl : Sl eInt k₁₀ v₁ ([0, 1] : List Int)) rfl (toNat_lt c₂) rfl) ?_
              refine WO_v (a_mv (v := .i .i64 (gi ([0, 1] : List Int) (x3 : Int).toNat)) rfl) ?_
              refine WO_end ?_
              refine then_n ?_
              refine W_sq ?_
              refine W_rg ?_
              refine WO_v (a_mv (v := .i .i64 (gi ([0, 1] : List Int) (x3 : Int).toNat)) rfl) ?_
              refine WO_v (a_fa (r := r₁) (o := 0) (o' := 0) q₄_9 rfl) ?_
              obtain ⟨c₃, hp⟩ := ck_some hp
              refine WO_v (a_ixaa (o := 0) (o' := (0 + (gi ([0, 1] : List Int) (x3 : Int).toNat : Int).toNat * 1)) (z := (gi ([0, 1] : List Int) (x3 : Int).toNat)) rfl rfl c₃ rfl) ?_
              refine WO_v (a_ldb (cs := (e_T_api_Cell.c (gi cells (x2 : Int).toNat))) (v := .i .i64 (((gi cells (x2 : Int).toNat).Next).get (gi ([0, 1] : List Int) (x3 : Int).toNat))) (hO₁₀.box 0 rfl) rfl (ld_T_api_Cell_Next c₃)) ?_
              refine WO_v (a_mv (v := .i .i64 (((gi cells (x2 : Int).toNat).Next).get (gi ([0, 1] : List Int) (x3 : Int).toNat))) rfl) ?_
              refine WO_end ?_
              refine then_n ?_
              refine W_sq ?_
              refine W_sq ?_
              refine W_rg ?_
              refine WO_v (a_mv (v := .i .i64 (((gi cells (x2 : Int).toNat).Next).get (gi ([0, 1] : List Int) (x3 : Int).toNat))) rfl) ?_
              refine WO_v (a_lss (a := (((gi cells (x2 : Int).toNat).Next).get (gi ([0, 1] : List Int) (x3 : Int).toNat))) (b := 0) rfl rfl) ?_
              refine WO_end ?_
              refine then_n ?_
              rcases if_some hp with ⟨b₆, hp⟩ | ⟨b₆, hp⟩
              · refine W_cT (t := (decide ((((gi cells (x2 : Int).toNat).Next).get (gi ([0, 1] : List Int) (x3 : Int).toNat)) < 0))) rfl b₆ ?_
                refine W_ex ?_
                refine then_e ?_
                refine blk_i ?_
                refine then_n ?_
                refine W_rg ?_
                obtain ⟨c₄, hp⟩ := ck_some hp
                refine WO_v (a_add (a := x3) (b := 1) q₄_38 rfl c₄) ?_
                refine WO_v (a_mv (v := .i .i64 (x3 + 1)) rfl) ?_
                refine WO_end ?_
                have hp := Option.some.inj hp; subst hp
                exact (Or.inl (Exists.intro (sum2, x3 + 1) (And.intro rfl (And.intro rfl (And.intro (q₄_1) (And.intro (q₄_7) (And.intro (q₄_8) (And.intro (q₄_9) (And.intro (q₄_29) (And.intro (q₄_30) (And.intro (q₄_31) (And.intro (q₄_36) (And.intro (q₄_37) (And.intro (rfl) (hO₁₀.pick [0, 1] rfl (by decide))))))))))))))))
              · refine W_cF (t := (decide ((((gi cells (x2 : Int).toNat).Next).get (gi ([0, 1] : List Int) (x3 : Int).toNat)) < 0))) rfl b₆ ?_
                refine W_sk ?_
                refine then_n ?_
                refine W_sq ?_
                refine W_sq ?_
                refine W_dr ?_
                have hW := hO₁₀.bump 14
                have fr₁ := Fresh.start k₁₀ 14
                have nb₁ : ∀ {i : Nat}, h.n ≤ k₁₀.n + i := Nat.le_trans hO₁₀.n (Nat.le_add_right _ _)
                have hO₁₁ : Own B h (k₁₀.bump 14) [eBox r₁ (e_T_api_Cell.c (gi cells (x2 : Int).toNat)), eSl eInt v₁ ([0, 1] : List Int)] := hW
                refine WD_v (a_mv (v := v_at_) q₄_1) ?_
                refine WD_v (a_mv (v := .i .i64 x2) q₄_8) ?_
                obtain ⟨c₅, hp⟩ := ck_some hp
                refine WD_v (a_ixa (E := e_T_api_Point) (z := x2) (hO₁₁.rd0 s_at_.rd : Sl e_T_api_Point (k₁₀.bump 14) v_at_ at_) rfl rfl c₅) ?_
                refine WD_v (a_ldA (E := e_T_api_Point) (hO₁₁.rd0 s_at_.rd : Sl e_T_api_Point (k₁₀.bump 14) v_at_ at_) rfl (toNat_lt c₅)) ?_
                refine WD_v (a_mv (v := v_at_) q₄_1) ?_
                refine WD_v (a_mv (v := .i .i64 (((gi cells (x2 : Int).toNat).Next).get (gi ([0, 1] : List Int) (x3 : Int).toNat))) rfl) ?_
                obtain ⟨c₆, hp⟩ := ck_some hp
                refine WD_v (a_ixa (E := e_T_api_Point) (z := (((gi cells (x2 : Int).toNat).Next).get (gi ([0, 1] : List Int) (x3 : Int).toNat))) (hO₁₁.rd0 s_at_.rd : Sl e_T_api_Point (k₁₀.bump 14) v_at_ at_) rfl rfl c₆) ?_
                refine WD_v (a_ldA (E := e_T_api_Point) (hO₁₁.rd0 s_at_.rd : Sl e_T_api_Point (k₁₀.bump 14) v_at_ at_) rfl (toNat_lt c₆)) ?_
                obtain ⟨⟨x4, x5⟩, hx₃, hp⟩ := bd_some hp
                obtain ⟨u₃, k₁₂, ca₃, rfl, hW₃⟩ := p_compass_Between.ok (h := (k₁₀.bump 14))   hx₃
                refine WD_c (id := 148) (caps := []) rfl (mp_cons (v := .ag (e_T_api_Point.c (gi at_ (x2 : Int).toNat))) rfl (mp_cons (v := .ag (e_T_api_Point.c (gi at_ (((gi cells (x2 : Int).toNat).Next).get (gi ([0, 1] : List Int) (x3 : Int).toNat) : Int).toNat))) rfl mp_nil)) ca₃ ?_
                have fr₂ := fr₁.call hW₃
                have hO₁₂ : Own B h k₁₂ [eBox r₁ (e_T_api_Cell.c (gi cells (x2 : Int).toNat)), eSl eInt v₁ ([0, 1] : List Int)] := hO₁₁.call hW₃ rfl
                refine WD_v (a_mv (v := .tu [.i .i64 x4, .b x5]) rfl) ?_
                refine WD_v (a_ext (vs := [.i .i64 x4, .b x5]) (v := .i .i64 x4) rfl rfl) ?_
                refine WD_v (a_ext (vs := [.i .i64 x4, .b x5]) (v := .b x5) rfl rfl) ?_
                refine WD_v (a_mv (v := .i .i64 x4) rfl) ?_
                refine WD_v (a_mv (v := .b x5) rfl) ?_
                refine WD_end ?_
                refine And.intro ?_ ?_
                · intro q hq
                  simp only [List.mem_cons, List.not_mem_nil, or_false] at hq
                  rcases hq with rfl
                  · refine ap_ll ?_ ?_
                    · exact (fun h => nomatch h)
                    · exact (fun h => nomatch h)
                refine then_n ?_
                refine W_sq ?_
                refine W_rg ?_
                refine WO_v (a_mv (v := .b x5) rfl) ?_
                refine WO_v (a_not (t := x5) rfl) ?_
                refine WO_v (a_mv (v := .b (!x5)) rfl) ?_
                refine WO_cut 4 (fun fr' k' => k₁₂ = k' ∧ fr' 66 = .b ((!x5) || (!(decide (x4 = gi ([0, 1] : List Int) (x3 : Int).toNat)))) ∧ fr' 1 = v_at_ ∧ fr' 11 = .i .i64 (gi ([0, 1] : List Int) (x3 : Int).toNat) ∧ fr' 12 = .i .i64 (((gi cells (x2 : Int).toNat).Next).get (gi ([0, 1] : List Int) (x3 : Int).toNat)) ∧ fr' 29 = v_cells ∧ fr' 30 = .i .i64 (cells.length : Int) ∧ fr' 31 = .i .i64 x2 ∧ fr' 36 = v₁ ∧ fr' 37 = .i .i64 (([0, 1] : List Int).length : Int) ∧ fr' 38 = .i .i64 x3 ∧ fr' 7 = .i .i64 sum2 ∧ fr' 8 = .i .i64 x2 ∧ fr' 9 = .p r₁ 0) ?_ ?_
                · rcases bc (!x5) with b₇ | b₇
                  · skip
                    refine WO_off rfl b₇ ?_
                    refine WO_off rfl b₇ ?_
                    refine WO_off rfl b₇ ?_
                    refine WO_v (a_pickT (t := (!x5)) (v := .b ((!x5) || (!(decide (x4 = gi ([0, 1] : List Int) (x3 : Int).toNat))))) rfl b₇ (Eq.trans (b := V.b true) rfl (or_off b₇))) ?_
                    refine WO_end ?_
                    exact ⟨rfl, rfl, q₄_1, rfl, rfl, q₄_29, q₄_30, q₄_31, q₄_36, q₄_37, q₄_38, q₄_7, q₄_8, q₄_9⟩
                  · skip
                    refine WO_on rfl b₇ ?_
                    refine WO_v (a_mv (v := .i .i64 x4) rfl) ?_
                    refine WO_on rfl b₇ ?_
                    refine WO_v (a_mv (v := .i .i64 (gi ([0, 1] : List Int) (x3 : Int).toNat)) rfl) ?_
                    refine WO_on rfl b₇ ?_
                    refine WO_v (a_neI (a := x4) (b := (gi ([0, 1] : List Int) (x3 : Int).toNat)) rfl rfl) ?_
                    refine WO_v (a_pickF (t := (!x5)) (v := .b ((!x5) || (!(decide (x4 = gi ([0, 1] : List Int) (x3 : Int).toNat))))) rfl b₇ (Eq.trans (b := V.b (!(decide (x4 = gi ([0, 1] : List Int) (x3 : Int).toNat)))) rfl (or_on b₇))) ?_
                    refine WO_end ?_
                    exact ⟨rfl, rfl, q₄_1, rfl, rfl, q₄_29, q₄_30, q₄_31, q₄_36, q₄_37, q₄_38, q₄_7, q₄_8, q₄_9⟩
                rintro frg₂ _ ⟨rfl, g₂_66, g₂_1, g₂_11, g₂_12, g₂_29, g₂_30, g₂_31, g₂_36, g₂_37, g₂_38, g₂_7, g₂_8, g₂_9⟩
                refine WO_end ?_
                refine then_n ?_
                rcases if_some hp with ⟨b₈, hp⟩ | ⟨b₈, hp⟩
                · refine W_cT (t := ((!x5) || (!(decide (x4 = gi ([0, 1] : List Int) (x3 : Int).toNat))))) g₂_66 b₈ ?_
                  refine W_sq ?_
                  refine W_rg ?_
                  refine WO_v (a_mv (v := .i .i64 0) rfl) ?_
                  refine WO_v (a_mv (v := .i .i64 15) rfl) ?_
                  refine WO_end ?_
                  refine then_n ?_
                  refine W_rt ?_
                  refine then_r ?_
                  refine blk_r ?_
                  refine then_r ?_
                  have hp := Option.some.inj hp; subst hp
                  refine (Or.inr (Exists.intro (.inr ()) (And.intro rfl (And.intro (fun h => nomatch h) (fun he => ?_)))))
                  subst he; exact (And.intro rfl (And.intro (rfl) (And.intro (rfl) (hO₁₂.pick [] rfl (by decide)))))
                · refine W_cF (t := ((!x5) || (!(decide (x4 = gi ([0, 1] : List Int) (x3 : Int).toNat))))) g₂_66 b₈ ?_
                  refine W_sk ?_
                  refine then_n ?_
                  refine W_dr ?_
                  have hW := hO₁₂.bump 32
                  have fr₃ := Fresh.start k₁₂ 32
                  have nb₂ : ∀ {i : Nat}, h.n ≤ k₁₂.n + i := Nat.le_trans hO₁₂.n (Nat.le_add_right _ _)
                  have hO₁₃ : Own B h (k₁₂.bump 32) [eBox r₁ (e_T_api_Cell.c (gi cells (x2 : Int).toNat)), eSl eInt v₁ ([0, 1] : List Int)] := hW
                  refine WD_v (a_mv (v := .i .i64 sum2) g₂_7) ?_
                  refine WD_v (a_mv (v := .i .i64 (gi ([0, 1] : List Int) (x3 : Int).toNat)) g₂_11) ?_
                  refine WD_v (a_fa (r := r₁) (o := 0) (o' := 4) g₂_9 rfl) ?_
                  refine WD_v (a_ixaa (o := 4) (o' := (4 + (gi ([0, 1] : List Int) (x3 : Int).toNat : Int).toNat * 1)) (z := (gi ([0, 1] : List Int) (x3 : Int).toNat)) rfl rfl c₃ rfl) ?_
                  refine WD_v (a_ldb (cs := (e_T_api_Cell.c (gi cells (x2 : Int).toNat))) (v := .i .i64 (((gi cells (x2 : Int).toNat).Owner).get (gi ([0, 1] : List Int) (x3 : Int).toNat))) (hO₁₃.box 0 rfl) rfl (ld_T_api_Cell_Owner c₃)) ?_
                  obtain ⟨x6, hx₄, hp⟩ := bd_some hp
                  obtain ⟨u₄, k₁₄, ca₄, rfl, hW₄⟩ := p_arcs_weight.ok (h := (k₁₂.bump 32))   hx₄
                  refine WD_c (id := 149) (caps := []) rfl (mp_cons (v := .i .i64 (((gi cells (x2 : Int).toNat).Owner).get (gi ([0, 1] : List Int) (x3 : Int).toNat))) rfl mp_nil) ca₄ ?_
                  have fr₄ := fr₃.call hW₄
                  have hO₁₄ : Own B h k₁₄ [eBox r₁ (e_T_api_Cell.c (gi cells (x2 : Int).toNat)), eSl eInt v₁ ([0, 1] : List Int)] := hO₁₃.call hW₄ rfl
                  refine WD_v (a_mv (v := v_at_) g₂_1) ?_
                  refine WD_v (a_mv (v := .i .i64 (((gi cells (x2 : Int).toNat).Next).get (gi ([0, 1] : List Int) (x3 : Int).toNat))) g₂_12) ?_
                  refine WD_v (a_ixa (E := e_T_api_Point) (z := (((gi cells (x2 : Int).toNat).Next).get (gi ([0, 1] : List Int) (x3 : Int).toNat))) (hO₁₄.rd0 s_at_.rd : Sl e_T_api_Point k₁₄ v_at_ at_) rfl rfl c₆) ?_
                  refine WD_v (a_faE (off' := 0) (off2 := 0) (hO₁₄.rd0 s_at_.rd : Sl e_T_api_Point k₁₄ v_at_ at_) (toNat_lt c₆) rfl rfl) ?_
                  refine WD_v (a_ldE (w := .i .i64 ((gi at_ (((gi cells (x2 : Int).toNat).Next).get (gi ([0, 1] : List Int) (x3 : Int).toNat) : Int).toNat).X)) (hO₁₄.rd0 s_at_.rd : Sl e_T_api_Point k₁₄ v_at_ at_) rfl (toNat_lt c₆) rfl) ?_
                  refine WD_v (a_mv (v := v_at_) g₂_1) ?_
                  refine WD_v (a_mv (v := .i .i64 x2) g₂_8) ?_
                  refine WD_v (a_ixa (E := e_T_api_Point) (z := x2) (hO₁₄.rd0 s_at_.rd : Sl e_T_api_Point k₁₄ v_at_ at_) rfl rfl c₅) ?_
                  refine WD_v (a_faE (off' := 0) (off2 := 0) (hO₁₄.rd0 s_at_.rd : Sl e_T_api_Point k₁₄ v_at_ at_) (toNat_lt c₅) rfl rfl) ?_
                  refine WD_v (a_ldE (w := .i .i64 ((gi at_ (x2 : Int).toNat).X)) (hO₁₄.rd0 s_at_.rd : Sl e_T_api_Point k₁₄ v_at_ at_) rfl (toNat_lt c₅) rfl) ?_
                  obtain ⟨c₇, hp⟩ := ck_some hp
                  refine WD_v (a_sub (a := ((gi at_ (((gi cells (x2 : Int).toNat).Next).get (gi ([0, 1] : List Int) (x3 : Int).toNat) : Int).toNat).X)) (b := ((gi at_ (x2 : Int).toNat).X)) rfl rfl c₇) ?_
                  refine WD_v (a_mv (v := v_at_) g₂_1) ?_
                  refine WD_v (a_mv (v := .i .i64 (((gi cells (x2 : Int).toNat).Next).get (gi ([0, 1] : List Int) (x3 : Int).toNat))) g₂_12) ?_
                  refine WD_v (a_ixa (E := e_T_api_Point) (z := (((gi cells (x2 : Int).toNat).Next).get (gi ([0, 1] : List Int) (x3 : Int).toNat))) (hO₁₄.rd0 s_at_.rd : Sl e_T_api_Point k₁₄ v_at_ at_) rfl rfl c₆) ?_
                  refine WD_v (a_faE (off' := 0) (off2 := 1) (hO₁₄.rd0 s_at_.rd : Sl e_T_api_Point k₁₄ v_at_ at_) (toNat_lt c₆) rfl rfl) ?_
                  refine WD_v (a_ldE (w := .i .i64 ((gi at_ (((gi cells (x2 : Int).toNat).Next).get (gi ([0, 1] : List Int) (x3 : Int).toNat) : Int).toNat).Y)) (hO₁₄.rd0 s_at_.rd : Sl e_T_api_Point k₁₄ v_at_ at_) rfl (toNat_lt c₆) rfl) ?_
                  obtain ⟨c₈, hp⟩ := ck_some hp
                  refine WD_v (a_add (a := (((gi at_ (((gi cells (x2 : Int).toNat).Next).get (gi ([0, 1] : List Int) (x3 : Int).toNat) : Int).toNat).X) - ((gi at_ (x2 : Int).toNat).X))) (b := ((gi at_ (((gi cells (x2 : Int).toNat).Next).get (gi ([0, 1] : List Int) (x3 : Int).toNat) : Int).toNat).Y)) rfl rfl c₈) ?_
                  refine WD_v (a_mv (v := v_at_) g₂_1) ?_
                  refine WD_v (a_mv (v := .i .i64 x2) g₂_8) ?_
                  refine WD_v (a_ixa (E := e_T_api_Point) (z := x2) (hO₁₄.rd0 s_at_.rd : Sl e_T_api_Point k₁₄ v_at_ at_) rfl rfl c₅) ?_
                  refine WD_v (a_faE (off' := 0) (off2 := 1) (hO₁₄.rd0 s_at_.rd : Sl e_T_api_Point k₁₄ v_at_ at_) (toNat_lt c₅) rfl rfl) ?_
                  refine WD_v (a_ldE (w := .i .i64 ((gi at_ (x2 : Int).toNat).Y)) (hO₁₄.rd0 s_at_.rd : Sl e_T_api_Point k₁₄ v_at_ at_) rfl (toNat_lt c₅) rfl) ?_
                  obtain ⟨c₉, hp⟩ := ck_some hp
                  refine WD_v (a_sub (a := ((((gi at_ (((gi cells (x2 : Int).toNat).Next).get (gi ([0, 1] : List Int) (x3 : Int).toNat) : Int).toNat).X) - ((gi at_ (x2 : Int).toNat).X)) + ((gi at_ (((gi cells (x2 : Int).toNat).Next).get (gi ([0, 1] : List Int) (x3 : Int).toNat) : Int).toNat).Y))) (b := ((gi at_ (x2 : Int).toNat).Y)) rfl rfl c₉) ?_
                  obtain ⟨c₁₀, hp⟩ := ck_some hp
                  refine WD_v (a_mul (a := x6) (b := (((((gi at_ (((gi cells (x2 : Int).toNat).Next).get (gi ([0, 1] : List Int) (x3 : Int).toNat) : Int).toNat).X) - ((gi at_ (x2 : Int).toNat).X)) + ((gi at_ (((gi cells (x2 : Int).toNat).Next).get (gi ([0, 1] : List Int) (x3 : Int).toNat) : Int).toNat).Y)) - ((gi at_ (x2 : Int).toNat).Y))) rfl rfl c₁₀) ?_
                  obtain ⟨c₁₁, hp⟩ := ck_some hp
                  refine WD_v (a_add (a := sum2) (b := (x6 * (((((gi at_ (((gi cells (x2 : Int).toNat).Next).get (gi ([0, 1] : List Int) (x3 : Int).toNat) : Int).toNat).X) - ((gi at_ (x2 : Int).toNat).X)) + ((gi at_ (((gi cells (x2 : Int).toNat).Next).get (gi ([0, 1] : List Int) (x3 : Int).toNat) : Int).toNat).Y)) - ((gi at_ (x2 : Int).toNat).Y)))) rfl rfl c₁₁) ?_
                  refine WD_v (a_mv (v := .i .i64 (sum2 + (x6 * (((((gi at_ (((gi cells (x2 : Int).toNat).Next).get (gi ([0, 1] : List Int) (x3 : Int).toNat) : Int).toNat).X) - ((gi at_ (x2 : Int).toNat).X)) + ((gi at_ (((gi cells (x2 : Int).toNat).Next).get (gi ([0, 1] : List Int) (x3 : Int).toNat) : Int).toNat).Y)) - ((gi at_ (x2 : Int).toNat).Y))))) rfl) ?_
                  refine WD_end ?_
                  refine And.intro ?_ ?_
                  · intro q hq
                    simp only [List.mem_cons, List.not_mem_nil, or_false] at hq
                    rcases hq with rfl | rfl | rfl | rfl | rfl | rfl | rfl | rfl | rfl | rfl | rfl | rfl | rfl | rfl
                    · refine ap_ll ?_ ?_
                      · exact (fun h => nomatch h)
                      · exact (fun h => nomatch h)
                    · refine ap_cl rfl ?_
                      · exact (fun r hm hc => hc (hW₄.base r (Nat.lt_of_lt_of_le (Nat.lt_of_lt_of_le (hO₁₂.lo _ (Rd.B s_at_.rd hO₁₂.lo (toNat_lt c₆) _ (refs_elt (tch (v := V.elt v_at_ (((gi cells (x2 : Int).toNat).Next).get (gi ([0, 1] : List Int) (x3 : Int).toNat) : Int).toNat 0) (ld_el hm) rfl)))) hO₁₂.n) (Nat.le_trans (Nat.le_add_right _ _) fr₃.n))))
                    · refine ap_ll ?_ ?_
                      · exact (fun h => nomatch h)
                      · exact (fun h => nomatch h)
                    · refine ap_cl rfl ?_
                      · exact (fun r hm hc => hc (hW₄.base r (Nat.lt_of_lt_of_le (Nat.lt_of_lt_of_le (hO₁₂.lo _ (Rd.B s_at_.rd hO₁₂.lo (toNat_lt c₅) _ (refs_elt (tch (v := V.elt v_at_ (x2 : Int).toNat 0) (ld_el hm) rfl)))) hO₁₂.n) (Nat.le_trans (Nat.le_add_right _ _) fr₃.n))))
                    · refine ap_ll ?_ ?_
                      · exact (fun h => nomatch h)
                      · exact (fun h => nomatch h)
                    · refine ap_ll ?_ ?_
                      · exact (fun h => nomatch h)
                      · exact (fun h => nomatch h)
                    · refine ap_cl rfl ?_
                      · exact (fun r hm hc => hc (hW₄.base r (Nat.lt_of_lt_of_le (Nat.lt_of_lt_of_le (hO₁₂.lo _ (Rd.B s_at_.rd hO₁₂.lo (toNat_lt c₆) _ (refs_elt (tch (v := V.elt v_at_ (((gi cells (x2 : Int).toNat).Next).get (gi ([0, 1] : List Int) (x3 : Int).toNat) : Int).toNat 1) (ld_el hm) rfl)))) hO₁₂.n) (Nat.le_trans (Nat.le_add_right _ _) fr₃.n))))
                    · refine ap_ll ?_ ?_
                      · exact (fun h => nomatch h)
                      · exact (fun h => nomatch h)
                    · refine ap_ll ?_ ?_
                      · exact (fun h => nomatch h)
                      · exact (fun h => nomatch h)
                    · refine ap_ll ?_ ?_
                      · exact (fun h => nomatch h)
                      · exact (fun h => nomatch h)
                    · refine ap_cl rfl ?_
                      · exact (fun r hm hc => hc (hW₄.base r (Nat.lt_of_lt_of_le (Nat.lt_of_lt_of_le (hO₁₂.lo _ (Rd.B s_at_.rd hO₁₂.lo (toNat_lt c₅) _ (refs_elt (tch (v := V.elt v_at_ (x2 : Int).toNat 1) (ld_el hm) rfl)))) hO₁₂.n) (Nat.le_trans (Nat.le_add_right _ _) fr₃.n))))
                    · refine ap_ll ?_ ?_
                      · exact (fun h => nomatch h)
                      · exact (fun h => nomatch h)
                    · refine ap_ll ?_ ?_
                      · exact (fun h => nomatch h)
                      · exact (fun h => nomatch h)
                    · refine ap_ll ?_ ?_
                      · exact (fun h => nomatch h)
                      · exact (fun h => nomatch h)
                  refine blk_n ?_
                  refine then_n ?_
                  refine W_rg ?_
                  obtain ⟨c₁₂, hp⟩ := ck_some hp
                  refine WO_v (a_add (a := x3) (b := 1) g₂_38 rfl c₁₂) ?_
                  refine WO_v (a_mv (v := .i .i64 (x3 + 1)) rfl) ?_
                  refine WO_end ?_
                  have hp := Option.some.inj hp; subst hp
                  exact (Or.inl (Exists.intro (sum2 + (x6 * (((((gi at_ (((gi cells (x2 : Int).toNat).Next).get (gi ([0, 1] : List Int) (x3 : Int).toNat) : Int).toNat).X) - ((gi at_ (x2 : Int).toNat).X)) + ((gi at_ (((gi cells (x2 : Int).toNat).Next).get (gi ([0, 1] : List Int) (x3 : Int).toNat) : Int).toNat).Y)) - ((gi at_ (x2 : Int).toNat).Y))), x3 + 1) (And.intro rfl (And.intro rfl (And.intro (g₂_1) (And.intro (rfl) (And.intro (g₂_8) (And.intro (g₂_9) (And.intro (g₂_29) (And.intro (g₂_30) (And.intro (g₂_31) (And.intro (g₂_36) (And.intro (g₂_37) (And.intro (rfl) (hO₁₄.pick [0, 1] rfl (by decide))))))))))))))))
            · refine W_cF (t := (decide (x3 < (([0, 1] : List Int).length : Int)))) rfl b₅ ?_
              refine W_ex ?_
              refine then_e ?_
              have hp := Option.some.inj hp; subst hp
              refine (Or.inr (Exists.intro (.inl sum2) (And.intro rfl (And.intro (fun h => nomatch h) (fun he => ?_)))))
              subst he; exact (And.intro rfl (And.intro (q₄_1) (And.intro (q₄_7) (And.intro (q₄_29) (And.intro (q₄_30) (And.intro (q₄_31) (hO₁₀.pick [] rfl (by decide))))))))
          intro e₂ q₃ k₉ hJ₂
          rcases o₃ with sum3 | _
          · obtain ⟨rfl, q₃_1, q₃_7, q₃_29, q₃_30, q₃_31, hO₉⟩ := hJ₂
            refine blk_i ?_
            refine blk_n ?_
            refine then_n ?_
            refine W_rg ?_
            obtain ⟨c₁₃, hp⟩ := ck_some hp
            refine WO_v (a_add (a := x2) (b := 1) q₃_31 rfl c₁₃) ?_
            refine WO_v (a_mv (v := .i .i64 (x2 + 1)) rfl) ?_
            refine WO_end ?_
            have hp := Option.some.inj hp; subst hp
            exact (Or.inl (Exists.intro (sum3, x2 + 1) (And.intro rfl (And.intro rfl (And.intro (q₃_1) (And.intro (q₃_7) (And.intro (q₃_29) (And.intro (q₃_30) (And.intro (rfl) (hO₉.pick [] rfl (by decide)))))))))))
          · obtain ⟨rfl, q₃_4, q₃_5, hO₉⟩ := hJ₂
            refine blk_r ?_
            refine blk_r ?_
            refine then_r ?_
            have hp := Option.some.inj hp; subst hp
            refine (Or.inr (Exists.intro (.inr ()) (And.intro rfl (And.intro (fun h => nomatch h) (fun he => ?_)))))
            subst he; exact (And.intro rfl (And.intro (q₃_4) (And.intro (q₃_5) (hO₉.pick [] rfl (by decide)))))
        · refine W_cF (t := (decide (x2 < (cells.length : Int)))) rfl b₄ ?_
          refine W_ex ?_
          refine then_e ?_
          have hp := Option.some.inj hp; subst hp
          refine (Or.inr (Exists.intro (.inl sum) (And.intro rfl (And.intro (fun h => nomatch h) (fun he => ?_)))))
          subst he; exact (And.intro rfl (And.intro (q₂_7) (hO₅.pick [] rfl (by decide))))
      intro e₁ q₁ k₄ hJ₁
      rcases o₁ with sum1 | _
      · obtain ⟨rfl, q₁_7, hO₄⟩ := hJ₁
        refine blk_i ?_
        refine then_n ?_
        refine W_sq ?_
        refine W_rg ?_
        refine WO_v (a_mv (v := .i .i64 sum1) q₁_7) ?_
        refine WO_v (a_mv (v := .i .i64 sum1) rfl) ?_
        refine WO_v (a_mv (v := .i .i64 0) rfl) ?_
        refine WO_end ?_
        refine then_n ?_
        refine W_rt ?_
        refine Ret_r (rs_t (n := 4) (v := .i .i64 sum1) rfl (rs_t (n := 5) (v := .i .i64 0) rfl rs_nil)) ?_
        have hp := Option.some.inj hp; subst hp
        exact (And.intro rfl (hO₄.pick [] rfl (by decide)))
      · obtain ⟨rfl, q₁_4, q₁_5, hO₄⟩ := hJ₁
        refine blk_r ?_
        refine then_r ?_
        refine Ret_r (rs_t (n := 4) (v := .i .i64 0) q₁_4 (rs_t (n := 5) (v := .i .i64 15) q₁_5 rs_nil)) ?_
        have hp := Option.some.inj hp; subst hp
        exact (And.intro rfl (hO₄.pick [] rfl (by decide)))

theorem p_muntinref10_Turned.ok {h : Hp} {l : List T_api_Cell} {v_l : V} (s_l : Sl e_T_api_Cell h v_l l) {r : (List T_api_Cell)} (hp : p_muntinref10_Turned l = some r) :
    ∃ u k', Is G 116 [v_l] h u k' ∧ ∃ (v₁ : V), v₁ = u ∧ Own (fun r => r < h.n) h k' [eSl e_T_api_Cell v₁ r] := by
  refine WC.is (WC_of G_F_muntinref10_Turned ?_)
  unfold p_muntinref10_Turned at hp
  let B : Nat → Prop := (fun r => r < h.n)
  have hO : Own B h h [] := Own.start0 h
  refine W_sq ?_
  refine W_rg ?_
  refine WO_v (a_mv (v := .sn) rfl) ?_
  refine WO_end ?_
  refine then_n ?_
  refine W_sq ?_
  refine W_rg ?_
  refine WO_v (a_mv (v := .sn) rfl) ?_
  refine WO_end ?_
  refine then_n ?_
  refine W_sq ?_
  refine W_sq ?_
  refine W_rg ?_
  refine WO_v (a_mv (v := .i .i64 0) rfl) ?_
  refine WO_end ?_
  refine then_n ?_
  refine W_bl ?_
  obtain ⟨o₁, ho₁, hp⟩ := bd_some hp
  refine W.mono (Q := fun e fr k => match (generalizing := false) o₁ with
      | out1 => e = (.exit 0) ∧ ∃ (v₃ : V), fr 3 = v₃ ∧ Own B h k [eSl e_T_api_Cell v₃ out1]) ?_ ?_
  · clear hp
    have hO₂ : Own B h h [eSl e_T_api_Cell .sn ([] : List T_api_Cell)] := hO.nil e_T_api_Cell
    refine W_loopF (fun st fr k => match st with | (out, v) => ∃ (v₂ : V), fr 0 = v_l ∧ fr 3 = v₂ ∧ fr 4 = .i .i64 v ∧ Own B h k [eSl e_T_api_Cell v₂ out]) ho₁ (s := (([] : List T_api_Cell), 0)) (Exists.intro V.sn (And.intro (rfl) (And.intro (rfl) (And.intro (rfl) (hO₂.pick [0] rfl (by decide)))))) ?_
    rintro ⟨out, v⟩ q₂ k₂ ⟨v₂, q₂_0, q₂_3, q₂_4, hO₃⟩ o₂ hp
    dsimp only [p_muntinref10_Turned.s0] at hp
    refine W_sq ?_
    refine W_sq ?_
    refine W_rg ?_
    refine WO_v (a_mv (v := .i .i64 v) q₂_4) ?_
    refine WO_v (a_mv (v := v_l) q₂_0) ?_
    refine WO_v (a_len (hO₃.rd0 s_l.rd : Sl e_T_api_Cell k₂ v_l l) rfl) ?_
    refine WO_v (a_lss (a := v) (b := (l.length : Int)) rfl rfl) ?_
    refine WO_end ?_
    refine then_n ?_
    rcases if_some hp with ⟨b₁, hp⟩ | ⟨b₁, hp⟩
    · refine W_cT (t := (decide (v < (l.length : Int)))) rfl b₁ ?_
      refine W_sk ?_
      refine then_n ?_
      refine W_sq ?_
      refine W_bl ?_
      refine W_sq ?_
      refine W_rg ?_
      refine WO_v (a_mv (v := v_l) q₂_0) ?_
      refine WO_v (a_mv (v := .i .i64 v) q₂_4) ?_
      obtain ⟨c₁, hp⟩ := ck_some hp
      refine WO_v (a_ixa (E := e_T_api_Cell) (z := v) (hO₃.rd0 s_l.rd : Sl e_T_api_Cell k₂ v_l l) rfl rfl c₁) ?_
      refine WO_v (a_ldA (E := e_T_api_Cell) (hO₃.rd0 s_l.rd : Sl e_T_api_Cell k₂ v_l l) rfl (toNat_lt c₁)) ?_
      refine WO_x (hO₃.alloc (cs := e_T_api_Cell.c (⟨⟨0, 0, 0, 0⟩, ⟨0, 0, 0, 0⟩⟩ : T_api_Cell)) hO₃.fr) ?_
      rintro _ k₃ ⟨r₁, rfl, n₁, f₁, hW⟩
      have hO₄ : Own B h k₃ [eSl e_T_api_Cell v₂ out, eBox r₁ (e_T_api_Cell.c (⟨⟨0, 0, 0, 0⟩, ⟨0, 0, 0, 0⟩⟩ : T_api_Cell))] := hW
      refine WO_x (hO₄.stb (ws := e_T_api_Cell.c (gi l (v : Int).toNat)) (cs' := e_T_api_Cell.c (gi l (v : Int).toNat)) (v := .ag (e_T_api_Cell.c (gi l (v : Int).toNat))) 1 rfl rfl rfl rfl ⟨rfl, Nat.le_of_ble_eq_true rfl, rfl⟩ rfl) ?_
      rintro _ k₄ ⟨rfl, f₂, m₁, hW⟩
      have hO₅ : Own B h k₄ [eSl e_T_api_Cell v₂ out, eBox r₁ (e_T_api_Cell.c (gi l (v : Int).toNat))] := hW
      refine WO_end ?_
      refine then_n ?_
      refine W_sq ?_
      refine W_sq ?_
      refine W_rg ?_
      refine WO_v (a_mv (v := .i .i64 0) rfl) ?_
      refine WO_end ?_
      refine then_n ?_
      refine W_bl ?_
      obtain ⟨o₃, ho₂, hp⟩ := bd_some hp
      refine W.mono (Q := fun e fr k => match (generalizing := false) o₃ with
          | c1 => e = (.exit 2) ∧ fr 0 = v_l ∧ fr 3 = v₂ ∧ fr 4 = .i .i64 v ∧ fr 5 = .p r₁ 0 ∧ Own B h k [eSl e_T_api_Cell v₂ out, eBox r₁ (e_T_api_Cell.c c1)]) ?_ ?_
      · clear hp
        refine W_loopF (fun st fr k => match st with | (c, d) => fr 0 = v_l ∧ fr 3 = v₂ ∧ fr 4 = .i .i64 v ∧ fr 5 = .p r₁ 0 ∧ fr 6 = .i .i64 d ∧ Own B h k [eSl e_T_api_Cell v₂ out, eBox r₁ (e_T_api_Cell.c c)]) ho₂ (s := (gi l (v : Int).toNat, 0)) (And.intro (q₂_0) (And.intro (q₂_3) (And.intro (q₂_4) (And.intro (rfl) (And.intro (rfl) (hO₅.pick [0, 1] rfl (by decide))))))) ?_
        rintro ⟨c, d⟩ q₄ k₆ ⟨q₄_0, q₄_3, q₄_4, q₄_5, q₄_6, hO₇⟩ o₄ hp
        dsimp only [p_muntinref10_Turned.s1] at hp
        refine W_sq ?_
        refine W_sq ?_
        refine W_rg ?_
        refine WO_v (a_mv (v := .i .i64 d) q₄_6) ?_
        refine WO_v (a_lss (a := d) (b := 4) rfl rfl) ?_
        refine WO_end ?_
        refine then_n ?_
        rcases if_some hp with ⟨b₂, hp⟩ | ⟨b₂, hp⟩
        · refine W_cT (t := (decide (d < 4))) rfl b₂ ?_
          refine W_sk ?_
          refine then_n ?_
          refine W_sq ?_
          refine W_bl ?_
          refine W_sq ?_
          refine W_rg ?_
          refine WO_v (a_mv (v := .i .i64 d) q₄_6) ?_
          obtain ⟨c₂, hp⟩ := ck_some hp
          refine WO_v (a_add (a := d) (b := 1) rfl rfl c₂) ?_
          refine WO_v (a_rem (a := (d + 1)) (b := 4) rfl rfl (by decide)) ?_
          refine WO_v (a_mv (v := v_l) q₄_0) ?_
          refine WO_v (a_mv (v := .i .i64 v) q₄_4) ?_
          refine WO_v (a_mv (v := .i .i64 d) q₄_6) ?_
          refine WO_v (a_ixa (E := e_T_api_Cell) (z := v) (hO₇.rd0 s_l.rd : Sl e_T_api_Cell k₆ v_l l) rfl rfl c₁) ?_
          refine WO_v (a_faE (off' := 0) (off2 := 0) (hO₇.rd0 s_l.rd : Sl e_T_api_Cell k₆ v_l l) (toNat_lt c₁) rfl rfl) ?_
          obtain ⟨c₃, hp⟩ := ck_some hp
          refine WO_v (a_ixaaE (off := 0) (off2 := (0 + (d : Int).toNat * 1)) (z := d) (hO₇.rd0 s_l.rd : Sl e_T_api_Cell k₆ v_l l) (toNat_lt c₁) rfl rfl c₃ rfl) ?_
          refine WO_v (a_ldE (w := .i .i64 (((gi l (v : Int).toNat).Next).get d)) (hO₇.rd0 s_l.rd : Sl e_T_api_Cell k₆ v_l l) rfl (toNat_lt c₁) (ld_T_api_Cell_Next c₃)) ?_
          refine WO_v (a_fa (r := r₁) (o := 0) (o' := 0) q₄_5 rfl) ?_
          obtain ⟨c₄, hp⟩ := ck_some hp
          refine WO_v (a_ixaa (o := 0) (o' := (0 + ((d + 1).tmod 4 : Int).toNat * 1)) (z := ((d + 1).tmod 4)) rfl rfl c₄ rfl) ?_
          refine WO_x (hO₇.stb (ws := [.i .i64 (((gi l (v : Int).toNat).Next).get d)]) (cs' := e_T_api_Cell.c ({ c with Next := c.Next.set ((d + 1).tmod 4) (((gi l (v : Int).toNat).Next).get d) })) (v := .i .i64 (((gi l (v : Int).toNat).Next).get d)) 1 rfl rfl rfl rfl ⟨rfl, (by have := c₄; exact (show 0 + ((d + 1).tmod 4 : Int).toNat * 1 + 1 ≤ 8 by omega)), rfl⟩ (st_T_api_Cell_Next c₄)) ?_
          rintro _ k₇ ⟨rfl, f₃, m₂, hW⟩
          have hO₈ : Own B h k₇ [eSl e_T_api_Cell v₂ out, eBox r₁ (e_T_api_Cell.c ({ c with Next := c.Next.set ((d + 1).tmod 4) (((gi l (v : Int).toNat).Next).get d) }))] := hW
          refine WO_end ?_
          refine then_n ?_
          refine W_rg ?_
          refine WO_v (a_mv (v := .i .i64 d) q₄_6) ?_
          refine WO_v (a_add (a := d) (b := 1) rfl rfl c₂) ?_
          refine WO_v (a_rem (a := (d + 1)) (b := 4) rfl rfl (by decide)) ?_
          refine WO_v (a_mv (v := v_l) q₄_0) ?_
          refine WO_v (a_mv (v := .i .i64 v) q₄_4) ?_
          refine WO_v (a_mv (v := .i .i64 d) q₄_6) ?_
          refine WO_v (a_ixa (E := e_T_api_Cell) (z := v) (hO₈.rd0 s_l.rd : Sl e_T_api_Cell k₇ v_l l) rfl rfl c₁) ?_
          refine WO_v (a_faE (off' := 0) (off2 := 4) (hO₈.rd0 s_l.rd : Sl e_T_api_Cell k₇ v_l l) (toNat_lt c₁) rfl rfl) ?_
          refine WO_v (a_ixaaE (off := 4) (off2 := (4 + (d : Int).toNat * 1)) (z := d) (hO₈.rd0 s_l.rd : Sl e_T_api_Cell k₇ v_l l) (toNat_lt c₁) rfl rfl c₃ rfl) ?_
          refine WO_v (a_ldE (w := .i .i64 (((gi l (v : Int).toNat).Owner).get d)) (hO₈.rd0 s_l.rd : Sl e_T_api_Cell k₇ v_l l) rfl (toNat_lt c₁) (ld_T_api_Cell_Owner c₃)) ?_
          refine WO_v (a_fa (r := r₁) (o := 0) (o' := 4) q₄_5 rfl) ?_
          refine WO_v (a_ixaa (o := 4) (o' := (4 + ((d + 1).tmod 4 : Int).toNat * 1)) (z := ((d + 1).tmod 4)) rfl rfl c₄ rfl) ?_
          refine WO_x (hO₈.stb (ws := [.i .i64 (((gi l (v : Int).toNat).Owner).get d)]) (cs' := e_T_api_Cell.c ({ { c with Next := c.Next.set ((d + 1).tmod 4) (((gi l (v : Int).toNat).Next).get d) } with Owner := (({ c with Next := c.Next.set ((d + 1).tmod 4) (((gi l (v : Int).toNat).Next).get d) }).Owner).set ((d + 1).tmod 4) (((gi l (v : Int).toNat).Owner).get d) })) (v := .i .i64 (((gi l (v : Int).toNat).Owner).get d)) 1 rfl rfl rfl rfl ⟨rfl, (by have := c₄; exact (show 4 + ((d + 1).tmod 4 : Int).toNat * 1 + 1 ≤ 8 by omega)), rfl⟩ (st_T_api_Cell_Owner c₄)) ?_
          rintro _ k₈ ⟨rfl, f₄, m₃, hW⟩
          have hO₉ : Own B h k₈ [eSl e_T_api_Cell v₂ out, eBox r₁ (e_T_api_Cell.c ({ { c with Next := c.Next.set ((d + 1).tmod 4) (((gi l (v : Int).toNat).Next).get d) } with Owner := (({ c with Next := c.Next.set ((d + 1).tmod 4) (((gi l (v : Int).toNat).Next).get d) }).Owner).set ((d + 1).tmod 4) (((gi l (v : Int).toNat).Owner).get d) }))] := hW
          refine WO_end ?_
          refine blk_n ?_
          refine then_n ?_
          refine W_rg ?_
          refine WO_v (a_mv (v := .i .i64 d) q₄_6) ?_
          refine WO_v (a_add (a := d) (b := 1) rfl rfl c₂) ?_
          refine WO_v (a_mv (v := .i .i64 (d + 1)) rfl) ?_
          refine WO_end ?_
          have hp := Option.some.inj hp; subst hp
          exact (Or.inl (Exists.intro ({ { c with Next := c.Next.set ((d + 1).tmod 4) (((gi l (v : Int).toNat).Next).get d) } with Owner := (({ c with Next := c.Next.set ((d + 1).tmod 4) (((gi l (v : Int).toNat).Next).get d) }).Owner).set ((d + 1).tmod 4) (((gi l (v : Int).toNat).Owner).get d) }, d + 1) (And.intro rfl (And.intro rfl (And.intro (q₄_0) (And.intro (q₄_3) (And.intro (q₄_4) (And.intro (q₄_5) (And.intro (rfl) (hO₉.pick [0, 1] rfl (by decide)))))))))))
        · refine W_cF (t := (decide (d < 4))) rfl b₂ ?_
          refine W_ex ?_
          refine then_e ?_
          have hp := Option.some.inj hp; subst hp
          refine (Or.inr (Exists.intro c (And.intro rfl (And.intro (fun h => nomatch h) (fun he => ?_)))))
          subst he; exact (And.intro rfl (And.intro (q₄_0) (And.intro (q₄_3) (And.intro (q₄_4) (And.intro (q₄_5) (hO₇.pick [0, 1] rfl (by decide)))))))
      intro e₂ q₃ k₅ hJ₂
      obtain ⟨c1, rfl⟩ : ∃ x, x = o₃ := ⟨_, rfl⟩
      obtain ⟨rfl, q₃_0, q₃_3, q₃_4, q₃_5, hO₆⟩ := hJ₂
      refine blk_i ?_
      refine then_n ?_
      refine W_rg ?_
      refine WO_v (a_mv (v := v₂) q₃_3) ?_
      refine WO_v (a_ldbA (cs := (e_T_api_Cell.c c1)) (ws := e_T_api_Cell.c c1) (hO₆.box 1 rfl) q₃_5 rfl) ?_
      refine WO_x (hO₆.bsl (E := e_T_api_Cell) (l := [c1]) hO₆.fr (by rw [(ev_cons (v := .ag (e_T_api_Cell.c c1)) rfl ev_nil)]; rfl) rfl) ?_
      rintro v₄ k₉ ⟨r₂, f₅, hW⟩
      have hO₁₀ : Own B h k₉ [eSl e_T_api_Cell v₂ out, eBox r₁ (e_T_api_Cell.c c1), eSl e_T_api_Cell v₄ [c1]] := hW
      obtain ⟨c₅, hp⟩ := ck_some hp
      refine WO_x (hO₁₀.app (E := e_T_api_Cell) (bytes := 64) 0 hO₁₀.fr rfl (hO₁₀.sl 2 rfl : Sl e_T_api_Cell k₉ v₄ [c1]) rfl rfl (fun _ => rfl) c₅ (by decide)) ?_
      rintro v₅ k₁₀ ⟨f₆, hW⟩
      have hO₁₁ : Own B h k₁₀ [eSl e_T_api_Cell v₅ (out ++ [c1]), eBox r₁ (e_T_api_Cell.c c1), eSl e_T_api_Cell v₄ [c1]] := hW
      refine WO_v (a_mv (v := v₅) rfl) ?_
      refine WO_end ?_
      refine blk_n ?_
      refine then_n ?_
      refine W_rg ?_
      refine WO_v (a_mv (v := .i .i64 v) q₃_4) ?_
      obtain ⟨c₆, hp⟩ := ck_some hp
      refine WO_v (a_add (a := v) (b := 1) rfl rfl c₆) ?_
      refine WO_v (a_mv (v := .i .i64 (v + 1)) rfl) ?_
      refine WO_end ?_
      have hp := Option.some.inj hp; subst hp
      exact (Or.inl (Exists.intro (out ++ [c1], v + 1) (And.intro rfl (And.intro rfl (Exists.intro v₅ (And.intro (q₃_0) (And.intro (rfl) (And.intro (rfl) (hO₁₁.pick [0] rfl (by decide))))))))))
    · refine W_cF (t := (decide (v < (l.length : Int)))) rfl b₁ ?_
      refine W_ex ?_
      refine then_e ?_
      have hp := Option.some.inj hp; subst hp
      refine (Or.inr (Exists.intro out (And.intro rfl (And.intro (fun h => nomatch h) (fun he => ?_)))))
      subst he; exact (And.intro rfl (Exists.intro v₂ (And.intro (q₂_3) (hO₃.pick [0] rfl (by decide)))))
  intro e₁ q₁ k₁ hJ₁
  obtain ⟨out1, rfl⟩ : ∃ x, x = o₁ := ⟨_, rfl⟩
  obtain ⟨rfl, v₃, q₁_3, hO₁⟩ := hJ₁
  refine blk_i ?_
  refine then_n ?_
  refine W_sq ?_
  refine W_rg ?_
  refine WO_v (a_mv (v := v₃) q₁_3) ?_
  refine WO_v (a_mv (v := v₃) rfl) ?_
  refine WO_end ?_
  refine then_n ?_
  refine W_rt ?_
  refine Ret_r (rs_t (n := 2) (v := v₃) rfl rs_nil) ?_
  have hp := Option.some.inj hp; subst hp
  exact (Exists.intro v₃ (And.intro rfl (hO₁.pick [0] rfl (by decide))))

theorem p_muntinref10_TurnedAt.ok {h : Hp} {at_ : List T_api_Point} {v_at_ : V} (s_at_ : Sl e_T_api_Point h v_at_ at_) {r : (List T_api_Point)} (hp : p_muntinref10_TurnedAt at_ = some r) :
    ∃ u k', Is G 164 [v_at_] h u k' ∧ ∃ (v₁ : V), v₁ = u ∧ Own (fun r => r < h.n) h k' [eSl e_T_api_Point v₁ r] := by
  refine WC.is (WC_of G_F_muntinref10_TurnedAt ?_)
  unfold p_muntinref10_TurnedAt at hp
  let B : Nat → Prop := (fun r => r < h.n)
  have hO : Own B h h [] := Own.start0 h
  refine W_sq ?_
  refine W_rg ?_
  refine WO_v (a_mv (v := .sn) rfl) ?_
  refine WO_end ?_
  refine then_n ?_
  refine W_sq ?_
  refine W_rg ?_
  refine WO_v (a_mv (v := .sn) rfl) ?_
  refine WO_end ?_
  refine then_n ?_
  refine W_sq ?_
  refine W_sq ?_
  refine W_rg ?_
  refine WO_v (a_mv (v := .i .i64 0) rfl) ?_
  refine WO_end ?_
  refine then_n ?_
  refine W_bl ?_
  obtain ⟨o₁, ho₁, hp⟩ := bd_some hp
  refine W.mono (Q := fun e fr k => match (generalizing := false) o₁ with
      | out1 => e = (.exit 0) ∧ ∃ (v₃ : V), fr 3 = v₃ ∧ Own B h k [eSl e_T_api_Point v₃ out1]) ?_ ?_
  · clear hp
    have hO₂ : Own B h h [eSl e_T_api_Point .sn ([] : List T_api_Point)] := hO.nil e_T_api_Point
    refine W_loopF (fun st fr k => match st with | (out, i) => ∃ (v₂ : V), fr 0 = v_at_ ∧ fr 3 = v₂ ∧ fr 4 = .i .i64 i ∧ Own B h k [eSl e_T_api_Point v₂ out]) ho₁ (s := (([] : List T_api_Point), 0)) (Exists.intro V.sn (And.intro (rfl) (And.intro (rfl) (And.intro (rfl) (hO₂.pick [0] rfl (by decide)))))) ?_
    rintro ⟨out, i⟩ q₂ k₂ ⟨v₂, q₂_0, q₂_3, q₂_4, hO₃⟩ o₂ hp
    dsimp only [p_muntinref10_TurnedAt.s0] at hp
    refine W_sq ?_
    refine W_sq ?_
    refine W_rg ?_
    refine WO_v (a_mv (v := .i .i64 i) q₂_4) ?_
    refine WO_v (a_mv (v := v_at_) q₂_0) ?_
    refine WO_v (a_len (hO₃.rd0 s_at_.rd : Sl e_T_api_Point k₂ v_at_ at_) rfl) ?_
    refine WO_v (a_lss (a := i) (b := (at_.length : Int)) rfl rfl) ?_
    refine WO_end ?_
    refine then_n ?_
    rcases if_some hp with ⟨b₁, hp⟩ | ⟨b₁, hp⟩
    · refine W_cT (t := (decide (i < (at_.length : Int)))) rfl b₁ ?_
      refine W_sk ?_
      refine then_n ?_
      refine W_sq ?_
      refine W_bl ?_
      refine W_dr ?_
      have hW := hO₃.bump 16
      have fr₁ := Fresh.start k₂ 16
      have nb₁ : ∀ {i : Nat}, h.n ≤ k₂.n + i := Nat.le_trans hO₃.n (Nat.le_add_right _ _)
      have hO₄ : Own B h (k₂.bump 16) [eSl e_T_api_Point v₂ out] := hW
      refine WD_v (a_mv (v := v₂) q₂_3) ?_
      refine WD_v (a_mv (v := v_at_) q₂_0) ?_
      refine WD_v (a_mv (v := .i .i64 i) q₂_4) ?_
      obtain ⟨c₁, hp⟩ := ck_some hp
      refine WD_v (a_ixa (E := e_T_api_Point) (z := i) (hO₄.rd0 s_at_.rd : Sl e_T_api_Point (k₂.bump 16) v_at_ at_) rfl rfl c₁) ?_
      refine WD_v (a_faE (off' := 0) (off2 := 1) (hO₄.rd0 s_at_.rd : Sl e_T_api_Point (k₂.bump 16) v_at_ at_) (toNat_lt c₁) rfl rfl) ?_
      refine WD_v (a_ldE (w := .i .i64 ((gi at_ (i : Int).toNat).Y)) (hO₄.rd0 s_at_.rd : Sl e_T_api_Point (k₂.bump 16) v_at_ at_) rfl (toNat_lt c₁) rfl) ?_
      obtain ⟨c₂, hp⟩ := ck_some hp
      refine WD_v (a_neg (a := ((gi at_ (i : Int).toNat).Y)) rfl c₂) ?_
      refine WD_v (a_mv (v := v_at_) q₂_0) ?_
      refine WD_v (a_mv (v := .i .i64 i) q₂_4) ?_
      refine WD_v (a_ixa (E := e_T_api_Point) (z := i) (hO₄.rd0 s_at_.rd : Sl e_T_api_Point (k₂.bump 16) v_at_ at_) rfl rfl c₁) ?_
      refine WD_v (a_faE (off' := 0) (off2 := 0) (hO₄.rd0 s_at_.rd : Sl e_T_api_Point (k₂.bump 16) v_at_ at_) (toNat_lt c₁) rfl rfl) ?_
      refine WD_v (a_ldE (w := .i .i64 ((gi at_ (i : Int).toNat).X)) (hO₄.rd0 s_at_.rd : Sl e_T_api_Point (k₂.bump 16) v_at_ at_) rfl (toNat_lt c₁) rfl) ?_
      refine WD_v (a_build (cs := e_T_api_Point.c (⟨-((gi at_ (i : Int).toNat).Y), (gi at_ (i : Int).toNat).X⟩ : T_api_Point)) (by rw [(ev_cons (v := .i .i64 (-((gi at_ (i : Int).toNat).Y))) rfl (ev_cons (v := .i .i64 ((gi at_ (i : Int).toNat).X)) rfl ev_nil))]; rfl)) ?_
      refine WD_x (hO₄.bsl (E := e_T_api_Point) (l := [(⟨-((gi at_ (i : Int).toNat).Y), (gi at_ (i : Int).toNat).X⟩ : T_api_Point)]) ⟨fr₁.m 13 (by decide) (by decide), nb₁⟩ (by rw [(ev_cons (v := .ag (e_T_api_Point.c (⟨-((gi at_ (i : Int).toNat).Y), (gi at_ (i : Int).toNat).X⟩ : T_api_Point))) rfl ev_nil)]; rfl) rfl) ?_
      rintro v₄ k₄ z₁ ⟨r₁, f₁, hW⟩
      have fr₂ := fr₁.kept f₁ (by decide)
      have hO₅ : Own B h k₄ [eSl e_T_api_Point v₂ out, eSl e_T_api_Point v₄ [(⟨-((gi at_ (i : Int).toNat).Y), (gi at_ (i : Int).toNat).X⟩ : T_api_Point)]] := hW
      obtain ⟨c₃, hp⟩ := ck_some hp
      refine WD_x (hO₅.app (E := e_T_api_Point) (bytes := 16) 0 ⟨fr₂.m 14 (by decide) (by decide), nb₁⟩ rfl (hO₅.sl 1 rfl : Sl e_T_api_Point k₄ v₄ [(⟨-((gi at_ (i : Int).toNat).Y), (gi at_ (i : Int).toNat).X⟩ : T_api_Point)]) rfl rfl (fun _ => rfl) c₃ (by decide)) ?_
      rintro v₅ k₅ z₂ ⟨f₂, hW⟩
      have fr₃ := fr₂.kept f₂ (by decide)
      have hO₆ : Own B h k₅ [eSl e_T_api_Point v₅ (out ++ [(⟨-((gi at_ (i : Int).toNat).Y), (gi at_ (i : Int).toNat).X⟩ : T_api_Point)]), eSl e_T_api_Point v₄ [(⟨-((gi at_ (i : Int).toNat).Y), (gi at_ (i : Int).toNat).X⟩ : T_api_Point)]] := hW
      refine WD_v (a_mv (v := v₅) rfl) ?_
      refine WD_end ?_
      refine And.intro ?_ ?_
      · intro q hq
        simp only [List.mem_cons, List.not_mem_nil, or_false] at hq
        rcases hq with rfl
        · refine ap_ll ?_ ?_
          · exact (fun h => nomatch h)
          · exact (fun h => nomatch h)
      refine blk_n ?_
      refine then_n ?_
      refine W_rg ?_
      refine WO_v (a_mv (v := .i .i64 i) q₂_4) ?_
      obtain ⟨c₄, hp⟩ := ck_some hp
      refine WO_v (a_add (a := i) (b := 1) rfl rfl c₄) ?_
      refine WO_v (a_mv (v := .i .i64 (i + 1)) rfl) ?_
      refine WO_end ?_
      have hp := Option.some.inj hp; subst hp
      exact (Or.inl (Exists.intro (out ++ [(⟨-((gi at_ (i : Int).toNat).Y), (gi at_ (i : Int).toNat).X⟩ : T_api_Point)], i + 1) (And.intro rfl (And.intro rfl (Exists.intro v₅ (And.intro (q₂_0) (And.intro (rfl) (And.intro (rfl) (hO₆.pick [0] rfl (by decide))))))))))
    · refine W_cF (t := (decide (i < (at_.length : Int)))) rfl b₁ ?_
      refine W_ex ?_
      refine then_e ?_
      have hp := Option.some.inj hp; subst hp
      refine (Or.inr (Exists.intro out (And.intro rfl (And.intro (fun h => nomatch h) (fun he => ?_)))))
      subst he; exact (And.intro rfl (Exists.intro v₂ (And.intro (q₂_3) (hO₃.pick [0] rfl (by decide)))))
  intro e₁ q₁ k₁ hJ₁
  obtain ⟨out1, rfl⟩ : ∃ x, x = o₁ := ⟨_, rfl⟩
  obtain ⟨rfl, v₃, q₁_3, hO₁⟩ := hJ₁
  refine blk_i ?_
  refine then_n ?_
  refine W_sq ?_
  refine W_rg ?_
  refine WO_v (a_mv (v := v₃) q₁_3) ?_
  refine WO_v (a_mv (v := v₃) rfl) ?_
  refine WO_end ?_
  refine then_n ?_
  refine W_rt ?_
  refine Ret_r (rs_t (n := 2) (v := v₃) rfl rs_nil) ?_
  have hp := Option.some.inj hp; subst hp
  exact (Exists.intro v₃ (And.intro rfl (hO₁.pick [0] rfl (by decide))))

theorem p_slices_Clone_api_Point.ok {h : Hp} {s : List T_api_Point} {v_s : V} (s_s : Sl e_T_api_Point h v_s s) {r : List T_api_Point} (hp : p_slices_Clone_api_Point s = some r) :
    ∃ u k', Is G 165 [v_s] h u k' ∧ ∃ (v : V), v = u ∧ Own (fun r => r < h.n) h k' [eSl e_T_api_Point v r] := by
  refine WC.is (WC_of G_F_slices_Clone_api_Point ?_)
  obtain ⟨c1, hp⟩ := ck_some hp
  have hp := Option.some.inj hp; subst hp
  have hO : Own (fun r => r < h.n) h h [] := Own.start0 h
  refine W_sq ?_
  refine W_rg ?_
  refine WO_v (a_mv (v := .sn) rfl) ?_
  refine WO_end ?_
  refine then_n ?_
  refine W_sq ?_
  refine W_sq ?_
  refine W_rg ?_
  refine WO_v (a_mv (v := v_s) rfl) ?_
  rcases sl_nil s_s with ⟨rfl, rfl⟩ | hn
  · refine WO_v (v := .b true) rfl ?_
    refine WO_end ?_
    refine then_n ?_
    refine W_cT (t := true) rfl rfl ?_
    refine W_sq ?_
    refine W_rg ?_
    refine WO_v (a_mv (v := .sn) rfl) ?_
    refine WO_end ?_
    refine then_n ?_
    refine W_rt ?_
    refine then_r ?_
    refine Ret_r (rs_t (n := 2) (v := .sn) rfl rs_nil) ?_
    exact ⟨.sn, rfl, hO.nil e_T_api_Point⟩
  · refine WO_v (a_eqS (v := v_s) hn rfl rfl) ?_
    refine WO_end ?_
    refine then_n ?_
    refine W_cF (t := false) rfl rfl ?_
    refine W_sk ?_
    refine then_n ?_
    refine W_sq ?_
    refine W_rg ?_
    refine WO_x (hO.bsl (E := e_T_api_Point) (l := []) hO.fr rfl rfl) ?_
    rintro v1 k1 ⟨r1, f1, hW⟩
    have hO1 : Own (fun r => r < h.n) h k1 [eSl e_T_api_Point v1 []] := hW
    refine WO_v (a_mv (v := v_s) rfl) ?_
    refine WO_x (hO1.app (E := e_T_api_Point) (bytes := 16) 0 hO1.fr rfl (hO1.rd0 s_s.rd : Sl e_T_api_Point k1 v_s s) rfl rfl (fun _ => rfl) (by simpa using c1) (by decide)) ?_
    rintro v2 k2 ⟨f2, hW⟩
    have hO2 : Own (fun r => r < h.n) h k2 [eSl e_T_api_Point v2 ([] ++ s)] := hW
    refine WO_v (a_mv (v := v2) rfl) ?_
    refine WO_end ?_
    refine then_n ?_
    refine W_rt ?_
    refine Ret_r (rs_t (n := 2) (v := v2) rfl rs_nil) ?_
    exact ⟨v2, rfl, hO2⟩

theorem p_muntinref10_Join.ok {h : Hp} {l : List T_api_Cell} {v : Int} {d : Int} {w : Int} {o : Int} {v_l : V} (H : Own (Bm h [eSl e_T_api_Cell v_l l]) h h [eSl e_T_api_Cell v_l l]) {r : (List T_api_Cell) × Int} (hp : p_muntinref10_Join l v d w o = some r) :
    ∃ u k', Is G 53 [v_l, .i .i64 v, .i .i64 d, .i .i64 w, .i .i64 o] h u k' ∧ ∃ (v₁ : V), V.tu [v₁, .i .i64 r.2] = u ∧ Own (Bm h [eSl e_T_api_Cell v_l l]) h k' [eSl e_T_api_Cell v₁ r.1] := by
  refine WC.is (WC_of G_F_muntinref10_Join ?_)
  unfold p_muntinref10_Join at hp
  let B : Nat → Prop := (Bm h [eSl e_T_api_Cell v_l l])
  have hO : Own B h h [eSl e_T_api_Cell v_l l] := H
  refine W_sq ?_
  refine W_rg ?_
  refine WO_v (a_mv (v := .sn) rfl) ?_
  refine WO_v (a_mv (v := .i .i64 0) rfl) ?_
  refine WO_end ?_
  refine then_n ?_
  refine W_sq ?_
  refine W_sq ?_
  refine W_rg ?_
  refine WO_v (a_mv (v := .i .i64 v) rfl) ?_
  refine WO_v (a_lss (a := v) (b := 0) rfl rfl) ?_
  refine WO_v (a_mv (v := .b (decide (v < 0))) rfl) ?_
  refine WO_cut 5 (fun fr' k' => h = k' ∧ fr' 20 = .b ((decide (v < 0)) || (decide ((l.length : Int) ≤ v))) ∧ fr' 0 = v_l ∧ fr' 1 = .i .i64 v ∧ fr' 2 = .i .i64 d ∧ fr' 3 = .i .i64 w ∧ fr' 4 = .i .i64 o) ?_ ?_
  · rcases bc (decide (v < 0)) with b₁ | b₁
    · skip
      refine WO_off rfl b₁ ?_
      refine WO_off rfl b₁ ?_
      refine WO_off rfl b₁ ?_
      refine WO_off rfl b₁ ?_
      refine WO_v (a_pickT (t := (decide (v < 0))) (v := .b ((decide (v < 0)) || (decide ((l.length : Int) ≤ v)))) rfl b₁ (Eq.trans (b := V.b true) rfl (or_off b₁))) ?_
      refine WO_end ?_
      exact ⟨rfl, rfl, rfl, rfl, rfl, rfl, rfl⟩
    · skip
      refine WO_on rfl b₁ ?_
      refine WO_v (a_mv (v := .i .i64 v) rfl) ?_
      refine WO_on rfl b₁ ?_
      refine WO_v (a_mv (v := v_l) rfl) ?_
      refine WO_on rfl b₁ ?_
      refine WO_v (a_len (hO.sl 0 rfl : Sl e_T_api_Cell h v_l l) rfl) ?_
      refine WO_on rfl b₁ ?_
      refine WO_v (a_geq (a := v) (b := (l.length : Int)) rfl rfl) ?_
      refine WO_v (a_pickF (t := (decide (v < 0))) (v := .b ((decide (v < 0)) || (decide ((l.length : Int) ≤ v)))) rfl b₁ (Eq.trans (b := V.b (decide ((l.length : Int) ≤ v))) rfl (or_on b₁))) ?_
      refine WO_end ?_
      exact ⟨rfl, rfl, rfl, rfl, rfl, rfl, rfl⟩
  rintro frg₁ _ ⟨rfl, g₁_20, g₁_0, g₁_1, g₁_2, g₁_3, g₁_4⟩
  refine WO_v (a_mv (v := .b ((decide (v < 0)) || (decide ((l.length : Int) ≤ v)))) g₁_20) ?_
  refine WO_cut 3 (fun fr' k' => h = k' ∧ fr' 24 = .b (((decide (v < 0)) || (decide ((l.length : Int) ≤ v))) || (decide (w < 0))) ∧ fr' 0 = v_l ∧ fr' 1 = .i .i64 v ∧ fr' 2 = .i .i64 d ∧ fr' 3 = .i .i64 w ∧ fr' 4 = .i .i64 o) ?_ ?_
  · rcases bc ((decide (v < 0)) || (decide ((l.length : Int) ≤ v))) with b₂ | b₂
    · skip
      refine WO_off rfl b₂ ?_
      refine WO_off rfl b₂ ?_
      refine WO_v (a_pickT (t := ((decide (v < 0)) || (decide ((l.length : Int) ≤ v)))) (v := .b (((decide (v < 0)) || (decide ((l.length : Int) ≤ v))) || (decide (w < 0)))) rfl b₂ (Eq.trans (b := V.b true) rfl (or_off b₂))) ?_
      refine WO_end ?_
      exact ⟨rfl, rfl, g₁_0, g₁_1, g₁_2, g₁_3, g₁_4⟩
    · skip
      refine WO_on rfl b₂ ?_
      refine WO_v (a_mv (v := .i .i64 w) g₁_3) ?_
      refine WO_on rfl b₂ ?_
      refine WO_v (a_lss (a := w) (b := 0) rfl rfl) ?_
      refine WO_v (a_pickF (t := ((decide (v < 0)) || (decide ((l.length : Int) ≤ v)))) (v := .b (((decide (v < 0)) || (decide ((l.length : Int) ≤ v))) || (decide (w < 0)))) rfl b₂ (Eq.trans (b := V.b (decide (w < 0))) rfl (or_on b₂))) ?_
      refine WO_end ?_
      exact ⟨rfl, rfl, g₁_0, g₁_1, g₁_2, g₁_3, g₁_4⟩
  rintro frg₂ _ ⟨rfl, g₂_24, g₂_0, g₂_1, g₂_2, g₂_3, g₂_4⟩
  refine WO_v (a_mv (v := .b (((decide (v < 0)) || (decide ((l.length : Int) ≤ v))) || (decide (w < 0)))) g₂_24) ?_
  refine WO_cut 5 (fun fr' k' => h = k' ∧ fr' 30 = .b ((((decide (v < 0)) || (decide ((l.length : Int) ≤ v))) || (decide (w < 0))) || (decide ((l.length : Int) ≤ w))) ∧ fr' 0 = v_l ∧ fr' 1 = .i .i64 v ∧ fr' 2 = .i .i64 d ∧ fr' 3 = .i .i64 w ∧ fr' 4 = .i .i64 o) ?_ ?_
  · rcases bc (((decide (v < 0)) || (decide ((l.length : Int) ≤ v))) || (decide (w < 0))) with b₃ | b₃
    · skip
      refine WO_off rfl b₃ ?_
      refine WO_off rfl b₃ ?_
      refine WO_off rfl b₃ ?_
      refine WO_off rfl b₃ ?_
      refine WO_v (a_pickT (t := (((decide (v < 0)) || (decide ((l.length : Int) ≤ v))) || (decide (w < 0)))) (v := .b ((((decide (v < 0)) || (decide ((l.length : Int) ≤ v))) || (decide (w < 0))) || (decide ((l.length : Int) ≤ w)))) rfl b₃ (Eq.trans (b := V.b true) rfl (or_off b₃))) ?_
      refine WO_end ?_
      exact ⟨rfl, rfl, g₂_0, g₂_1, g₂_2, g₂_3, g₂_4⟩
    · skip
      refine WO_on rfl b₃ ?_
      refine WO_v (a_mv (v := .i .i64 w) g₂_3) ?_
      refine WO_on rfl b₃ ?_
      refine WO_v (a_mv (v := v_l) g₂_0) ?_
      refine WO_on rfl b₃ ?_
      refine WO_v (a_len (hO.sl 0 rfl : Sl e_T_api_Cell h v_l l) rfl) ?_
      refine WO_on rfl b₃ ?_
      refine WO_v (a_geq (a := w) (b := (l.length : Int)) rfl rfl) ?_
      refine WO_v (a_pickF (t := (((decide (v < 0)) || (decide ((l.length : Int) ≤ v))) || (decide (w < 0)))) (v := .b ((((decide (v < 0)) || (decide ((l.length : Int) ≤ v))) || (decide (w < 0))) || (decide ((l.length : Int) ≤ w)))) rfl b₃ (Eq.trans (b := V.b (decide ((l.length : Int) ≤ w))) rfl (or_on b₃))) ?_
      refine WO_end ?_
      exact ⟨rfl, rfl, g₂_0, g₂_1, g₂_2, g₂_3, g₂_4⟩
  rintro frg₃ _ ⟨rfl, g₃_30, g₃_0, g₃_1, g₃_2, g₃_3, g₃_4⟩
  refine WO_v (a_mv (v := .b ((((decide (v < 0)) || (decide ((l.length : Int) ≤ v))) || (decide (w < 0))) || (decide ((l.length : Int) ≤ w)))) g₃_30) ?_
  refine WO_cut 4 (fun fr' k' => h = k' ∧ fr' 35 = .b (((((decide (v < 0)) || (decide ((l.length : Int) ≤ v))) || (decide (w < 0))) || (decide ((l.length : Int) ≤ w))) || (decide (v = w))) ∧ fr' 0 = v_l ∧ fr' 1 = .i .i64 v ∧ fr' 2 = .i .i64 d ∧ fr' 3 = .i .i64 w ∧ fr' 4 = .i .i64 o) ?_ ?_
  · rcases bc ((((decide (v < 0)) || (decide ((l.length : Int) ≤ v))) || (decide (w < 0))) || (decide ((l.length : Int) ≤ w))) with b₄ | b₄
    · skip
      refine WO_off rfl b₄ ?_
      refine WO_off rfl b₄ ?_
      refine WO_off rfl b₄ ?_
      refine WO_v (a_pickT (t := ((((decide (v < 0)) || (decide ((l.length : Int) ≤ v))) || (decide (w < 0))) || (decide ((l.length : Int) ≤ w)))) (v := .b (((((decide (v < 0)) || (decide ((l.length : Int) ≤ v))) || (decide (w < 0))) || (decide ((l.length : Int) ≤ w))) || (decide (v = w)))) rfl b₄ (Eq.trans (b := V.b true) rfl (or_off b₄))) ?_
      refine WO_end ?_
      exact ⟨rfl, rfl, g₃_0, g₃_1, g₃_2, g₃_3, g₃_4⟩
    · skip
      refine WO_on rfl b₄ ?_
      refine WO_v (a_mv (v := .i .i64 v) g₃_1) ?_
      refine WO_on rfl b₄ ?_
      refine WO_v (a_mv (v := .i .i64 w) g₃_3) ?_
      refine WO_on rfl b₄ ?_
      refine WO_v (a_eqI (a := v) (b := w) rfl rfl) ?_
      refine WO_v (a_pickF (t := ((((decide (v < 0)) || (decide ((l.length : Int) ≤ v))) || (decide (w < 0))) || (decide ((l.length : Int) ≤ w)))) (v := .b (((((decide (v < 0)) || (decide ((l.length : Int) ≤ v))) || (decide (w < 0))) || (decide ((l.length : Int) ≤ w))) || (decide (v = w)))) rfl b₄ (Eq.trans (b := V.b (decide (v = w))) rfl (or_on b₄))) ?_
      refine WO_end ?_
      exact ⟨rfl, rfl, g₃_0, g₃_1, g₃_2, g₃_3, g₃_4⟩
  rintro frg₄ _ ⟨rfl, g₄_35, g₄_0, g₄_1, g₄_2, g₄_3, g₄_4⟩
  refine WO_v (a_mv (v := .b (((((decide (v < 0)) || (decide ((l.length : Int) ≤ v))) || (decide (w < 0))) || (decide ((l.length : Int) ≤ w))) || (decide (v = w)))) g₄_35) ?_
  refine WO_cut 3 (fun fr' k' => h = k' ∧ fr' 39 = .b ((((((decide (v < 0)) || (decide ((l.length : Int) ≤ v))) || (decide (w < 0))) || (decide ((l.length : Int) ≤ w))) || (decide (v = w))) || (decide (d < 0))) ∧ fr' 0 = v_l ∧ fr' 1 = .i .i64 v ∧ fr' 2 = .i .i64 d ∧ fr' 3 = .i .i64 w ∧ fr' 4 = .i .i64 o) ?_ ?_
  · rcases bc (((((decide (v < 0)) || (decide ((l.length : Int) ≤ v))) || (decide (w < 0))) || (decide ((l.length : Int) ≤ w))) || (decide (v = w))) with b₅ | b₅
    · skip
      refine WO_off rfl b₅ ?_
      refine WO_off rfl b₅ ?_
      refine WO_v (a_pickT (t := (((((decide (v < 0)) || (decide ((l.length : Int) ≤ v))) || (decide (w < 0))) || (decide ((l.length : Int) ≤ w))) || (decide (v = w)))) (v := .b ((((((decide (v < 0)) || (decide ((l.length : Int) ≤ v))) || (decide (w < 0))) || (decide ((l.length : Int) ≤ w))) || (decide (v = w))) || (decide (d < 0)))) rfl b₅ (Eq.trans (b := V.b true) rfl (or_off b₅))) ?_
      refine WO_end ?_
      exact ⟨rfl, rfl, g₄_0, g₄_1, g₄_2, g₄_3, g₄_4⟩
    · skip
      refine WO_on rfl b₅ ?_
      refine WO_v (a_mv (v := .i .i64 d) g₄_2) ?_
      refine WO_on rfl b₅ ?_
      refine WO_v (a_lss (a := d) (b := 0) rfl rfl) ?_
      refine WO_v (a_pickF (t := (((((decide (v < 0)) || (decide ((l.length : Int) ≤ v))) || (decide (w < 0))) || (decide ((l.length : Int) ≤ w))) || (decide (v = w)))) (v := .b ((((((decide (v < 0)) || (decide ((l.length : Int) ≤ v))) || (decide (w < 0))) || (decide ((l.length : Int) ≤ w))) || (decide (v = w))) || (decide (d < 0)))) rfl b₅ (Eq.trans (b := V.b (decide (d < 0))) rfl (or_on b₅))) ?_
      refine WO_end ?_
      exact ⟨rfl, rfl, g₄_0, g₄_1, g₄_2, g₄_3, g₄_4⟩
  rintro frg₅ _ ⟨rfl, g₅_39, g₅_0, g₅_1, g₅_2, g₅_3, g₅_4⟩
  refine WO_v (a_mv (v := .b ((((((decide (v < 0)) || (decide ((l.length : Int) ≤ v))) || (decide (w < 0))) || (decide ((l.length : Int) ≤ w))) || (decide (v = w))) || (decide (d < 0)))) g₅_39) ?_
  refine WO_cut 3 (fun fr' k' => h = k' ∧ fr' 43 = .b (((((((decide (v < 0)) || (decide ((l.length : Int) ≤ v))) || (decide (w < 0))) || (decide ((l.length : Int) ≤ w))) || (decide (v = w))) || (decide (d < 0))) || (decide (3 < d))) ∧ fr' 0 = v_l ∧ fr' 1 = .i .i64 v ∧ fr' 2 = .i .i64 d ∧ fr' 3 = .i .i64 w ∧ fr' 4 = .i .i64 o) ?_ ?_
  · rcases bc ((((((decide (v < 0)) || (decide ((l.length : Int) ≤ v))) || (decide (w < 0))) || (decide ((l.length : Int) ≤ w))) || (decide (v = w))) || (decide (d < 0))) with b₆ | b₆
    · skip
      refine WO_off rfl b₆ ?_
      refine WO_off rfl b₆ ?_
      refine WO_v (a_pickT (t := ((((((decide (v < 0)) || (decide ((l.length : Int) ≤ v))) || (decide (w < 0))) || (decide ((l.length : Int) ≤ w))) || (decide (v = w))) || (decide (d < 0)))) (v := .b (((((((decide (v < 0)) || (decide ((l.length : Int) ≤ v))) || (decide (w < 0))) || (decide ((l.length : Int) ≤ w))) || (decide (v = w))) || (decide (d < 0))) || (decide (3 < d)))) rfl b₆ (Eq.trans (b := V.b true) rfl (or_off b₆))) ?_
      refine WO_end ?_
      exact ⟨rfl, rfl, g₅_0, g₅_1, g₅_2, g₅_3, g₅_4⟩
    · skip
      refine WO_on rfl b₆ ?_
      refine WO_v (a_mv (v := .i .i64 d) g₅_2) ?_
      refine WO_on rfl b₆ ?_
      refine WO_v (a_gtr (a := d) (b := 3) rfl rfl) ?_
      refine WO_v (a_pickF (t := ((((((decide (v < 0)) || (decide ((l.length : Int) ≤ v))) || (decide (w < 0))) || (decide ((l.length : Int) ≤ w))) || (decide (v = w))) || (decide (d < 0)))) (v := .b (((((((decide (v < 0)) || (decide ((l.length : Int) ≤ v))) || (decide (w < 0))) || (decide ((l.length : Int) ≤ w))) || (decide (v = w))) || (decide (d < 0))) || (decide (3 < d)))) rfl b₆ (Eq.trans (b := V.b (decide (3 < d))) rfl (or_on b₆))) ?_
      refine WO_end ?_
      exact ⟨rfl, rfl, g₅_0, g₅_1, g₅_2, g₅_3, g₅_4⟩
  rintro frg₆ _ ⟨rfl, g₆_43, g₆_0, g₆_1, g₆_2, g₆_3, g₆_4⟩
  refine WO_v (a_mv (v := .b (((((((decide (v < 0)) || (decide ((l.length : Int) ≤ v))) || (decide (w < 0))) || (decide ((l.length : Int) ≤ w))) || (decide (v = w))) || (decide (d < 0))) || (decide (3 < d)))) g₆_43) ?_
  refine WO_cut 3 (fun fr' k' => h = k' ∧ fr' 47 = .b ((((((((decide (v < 0)) || (decide ((l.length : Int) ≤ v))) || (decide (w < 0))) || (decide ((l.length : Int) ≤ w))) || (decide (v = w))) || (decide (d < 0))) || (decide (3 < d))) || (decide (o < (-2)))) ∧ fr' 0 = v_l ∧ fr' 1 = .i .i64 v ∧ fr' 2 = .i .i64 d ∧ fr' 3 = .i .i64 w ∧ fr' 4 = .i .i64 o) ?_ ?_
  · rcases bc (((((((decide (v < 0)) || (decide ((l.length : Int) ≤ v))) || (decide (w < 0))) || (decide ((l.length : Int) ≤ w))) || (decide (v = w))) || (decide (d < 0))) || (decide (3 < d))) with b₇ | b₇
    · skip
      refine WO_off rfl b₇ ?_
      refine WO_off rfl b₇ ?_
      refine WO_v (a_pickT (t := (((((((decide (v < 0)) || (decide ((l.length : Int) ≤ v))) || (decide (w < 0))) || (decide ((l.length : Int) ≤ w))) || (decide (v = w))) || (decide (d < 0))) || (decide (3 < d)))) (v := .b ((((((((decide (v < 0)) || (decide ((l.length : Int) ≤ v))) || (decide (w < 0))) || (decide ((l.length : Int) ≤ w))) || (decide (v = w))) || (decide (d < 0))) || (decide (3 < d))) || (decide (o < (-2))))) rfl b₇ (Eq.trans (b := V.b true) rfl (or_off b₇))) ?_
      refine WO_end ?_
      exact ⟨rfl, rfl, g₆_0, g₆_1, g₆_2, g₆_3, g₆_4⟩
    · skip
      refine WO_on rfl b₇ ?_
      refine WO_v (a_mv (v := .i .i64 o) g₆_4) ?_
      refine WO_on rfl b₇ ?_
      refine WO_v (a_lss (a := o) (b := (-2)) rfl rfl) ?_
      refine WO_v (a_pickF (t := (((((((decide (v < 0)) || (decide ((l.length : Int) ≤ v))) || (decide (w < 0))) || (decide ((l.length : Int) ≤ w))) || (decide (v = w))) || (decide (d < 0))) || (decide (3 < d)))) (v := .b ((((((((decide (v < 0)) || (decide ((l.length : Int) ≤ v))) || (decide (w < 0))) || (decide ((l.length : Int) ≤ w))) || (decide (v = w))) || (decide (d < 0))) || (decide (3 < d))) || (decide (o < (-2))))) rfl b₇ (Eq.trans (b := V.b (decide (o < (-2)))) rfl (or_on b₇))) ?_
      refine WO_end ?_
      exact ⟨rfl, rfl, g₆_0, g₆_1, g₆_2, g₆_3, g₆_4⟩
  rintro frg₇ _ ⟨rfl, g₇_47, g₇_0, g₇_1, g₇_2, g₇_3, g₇_4⟩
  refine WO_end ?_
  refine then_n ?_
  rcases if_some hp with ⟨b₈, hp⟩ | ⟨b₈, hp⟩
  · refine W_cT (t := ((((((((decide (v < 0)) || (decide ((l.length : Int) ≤ v))) || (decide (w < 0))) || (decide ((l.length : Int) ≤ w))) || (decide (v = w))) || (decide (d < 0))) || (decide (3 < d))) || (decide (o < (-2))))) g₇_47 b₈ ?_
    refine W_sq ?_
    refine W_rg ?_
    refine WO_v (a_mv (v := v_l) g₇_0) ?_
    refine WO_v (a_mv (v := v_l) rfl) ?_
    refine WO_v (a_mv (v := .i .i64 2) rfl) ?_
    refine WO_end ?_
    refine then_n ?_
    refine W_rt ?_
    refine then_r ?_
    refine Ret_r (rs_t (n := 10) (v := v_l) rfl (rs_t (n := 11) (v := .i .i64 2) rfl rs_nil)) ?_
    have hp := Option.some.inj hp; subst hp
    exact (Exists.intro v_l (And.intro rfl (hO.pick [0] rfl (by decide))))
  · refine W_cF (t := ((((((((decide (v < 0)) || (decide ((l.length : Int) ≤ v))) || (decide (w < 0))) || (decide ((l.length : Int) ≤ w))) || (decide (v = w))) || (decide (d < 0))) || (decide (3 < d))) || (decide (o < (-2))))) g₇_47 b₈ ?_
    refine W_sk ?_
    refine then_n ?_
    refine W_sq ?_
    refine W_sq ?_
    refine W_rg ?_
    refine WO_v (a_mv (v := v_l) g₇_0) ?_
    refine WO_v (a_mv (v := .i .i64 v) g₇_1) ?_
    refine WO_v (a_mv (v := .i .i64 d) g₇_2) ?_
    obtain ⟨c₁, hp⟩ := ck_some hp
    refine WO_v (a_ixa (E := e_T_api_Cell) (z := v) (hO.sl 0 rfl : Sl e_T_api_Cell h v_l l) rfl rfl c₁) ?_
    refine WO_v (a_faE (off' := 0) (off2 := 0) (hO.sl 0 rfl : Sl e_T_api_Cell h v_l l) (toNat_lt c₁) rfl rfl) ?_
    obtain ⟨c₂, hp⟩ := ck_some hp
    refine WO_v (a_ixaaE (off := 0) (off2 := (0 + (d : Int).toNat * 1)) (z := d) (hO.sl 0 rfl : Sl e_T_api_Cell h v_l l) (toNat_lt c₁) rfl rfl c₂ rfl) ?_
    refine WO_v (a_ldE (w := .i .i64 (((gi l (v : Int).toNat).Next).get d)) (hO.sl 0 rfl : Sl e_T_api_Cell h v_l l) rfl (toNat_lt c₁) (ld_T_api_Cell_Next c₂)) ?_
    refine WO_v (a_neI (a := (((gi l (v : Int).toNat).Next).get d)) (b := (-1)) rfl rfl) ?_
    refine WO_v (a_mv (v := .b (!(decide (((gi l (v : Int).toNat).Next).get d = (-1))))) rfl) ?_
    obtain ⟨t, hv₁, hp⟩ := bd_some hp
    refine WO_cut 11 (fun fr' k' => h = k' ∧ fr' 68 = .b t ∧ fr' 0 = v_l ∧ fr' 1 = .i .i64 v ∧ fr' 2 = .i .i64 d ∧ fr' 3 = .i .i64 w ∧ fr' 4 = .i .i64 o) ?_ ?_
    · clear hp; rcases if_some hv₁ with ⟨b₉, hp⟩ | ⟨b₉, hp⟩
      · skip
        refine WO_off rfl b₉ ?_
        refine WO_off rfl b₉ ?_
        refine WO_off rfl b₉ ?_
        refine WO_off rfl b₉ ?_
        refine WO_off rfl b₉ ?_
        refine WO_off rfl b₉ ?_
        refine WO_off rfl b₉ ?_
        refine WO_off rfl b₉ ?_
        refine WO_off rfl b₉ ?_
        refine WO_off rfl b₉ ?_
        refine WO_v (a_pickT (t := (!(decide (((gi l (v : Int).toNat).Next).get d = (-1))))) (v := .b t) rfl b₉ (Eq.trans (b := V.b true) rfl (congrArg V.b (Option.some.inj hp)))) ?_
        refine WO_end ?_
        exact ⟨rfl, rfl, g₇_0, g₇_1, g₇_2, g₇_3, g₇_4⟩
      · skip
        refine WO_on rfl b₉ ?_
        refine WO_v (a_mv (v := v_l) g₇_0) ?_
        refine WO_on rfl b₉ ?_
        refine WO_v (a_mv (v := .i .i64 w) g₇_3) ?_
        refine WO_on rfl b₉ ?_
        refine WO_v (a_mv (v := .i .i64 d) g₇_2) ?_
        refine WO_on rfl b₉ ?_
        obtain ⟨c₃, hp⟩ := ck_some hp
        refine WO_v (a_add (a := d) (b := 2) rfl rfl c₃) ?_
        refine WO_on rfl b₉ ?_
        refine WO_v (a_rem (a := (d + 2)) (b := 4) rfl rfl (by decide)) ?_
        refine WO_on rfl b₉ ?_
        obtain ⟨c₄, hp⟩ := ck_some hp
        refine WO_v (a_ixa (E := e_T_api_Cell) (z := w) (hO.sl 0 rfl : Sl e_T_api_Cell h v_l l) rfl rfl c₄) ?_
        refine WO_on rfl b₉ ?_
        refine WO_v (a_faE (off' := 0) (off2 := 0) (hO.sl 0 rfl : Sl e_T_api_Cell h v_l l) (toNat_lt c₄) rfl rfl) ?_
        refine WO_on rfl b₉ ?_
        obtain ⟨c₅, hp⟩ := ck_some hp
        refine WO_v (a_ixaaE (off := 0) (off2 := (0 + ((d + 2).tmod 4 : Int).toNat * 1)) (z := ((d + 2).tmod 4)) (hO.sl 0 rfl : Sl e_T_api_Cell h v_l l) (toNat_lt c₄) rfl rfl c₅ rfl) ?_
        refine WO_on rfl b₉ ?_
        refine WO_v (a_ldE (w := .i .i64 (((gi l (w : Int).toNat).Next).get ((d + 2).tmod 4))) (hO.sl 0 rfl : Sl e_T_api_Cell h v_l l) rfl (toNat_lt c₄) (ld_T_api_Cell_Next c₅)) ?_
        refine WO_on rfl b₉ ?_
        refine WO_v (a_neI (a := (((gi l (w : Int).toNat).Next).get ((d + 2).tmod 4))) (b := (-1)) rfl rfl) ?_
        refine WO_v (a_pickF (t := (!(decide (((gi l (v : Int).toNat).Next).get d = (-1))))) (v := .b t) rfl b₉ (Eq.trans (b := V.b (!(decide (((gi l (w : Int).toNat).Next).get ((d + 2).tmod 4) = (-1))))) rfl (congrArg V.b (Option.some.inj hp)))) ?_
        refine WO_end ?_
        exact ⟨rfl, rfl, g₇_0, g₇_1, g₇_2, g₇_3, g₇_4⟩
    rintro frg₈ _ ⟨rfl, g₈_68, g₈_0, g₈_1, g₈_2, g₈_3, g₈_4⟩
    refine WO_end ?_
    refine then_n ?_
    rcases if_some hp with ⟨b₁₀, hp⟩ | ⟨b₁₀, hp⟩
    · refine W_cT (t := t) g₈_68 b₁₀ ?_
      refine W_sq ?_
      refine W_rg ?_
      refine WO_v (a_mv (v := v_l) g₈_0) ?_
      refine WO_v (a_mv (v := v_l) rfl) ?_
      refine WO_v (a_mv (v := .i .i64 9) rfl) ?_
      refine WO_end ?_
      refine then_n ?_
      refine W_rt ?_
      refine then_r ?_
      refine Ret_r (rs_t (n := 10) (v := v_l) rfl (rs_t (n := 11) (v := .i .i64 9) rfl rs_nil)) ?_
      have hp := Option.some.inj hp; subst hp
      exact (Exists.intro v_l (And.intro rfl (hO.pick [0] rfl (by decide))))
    · refine W_cF (t := t) g₈_68 b₁₀ ?_
      refine W_sk ?_
      refine then_n ?_
      refine W_sq ?_
      refine W_rg ?_
      refine WO_v (a_mv (v := v_l) g₈_0) ?_
      refine WO_v (a_mv (v := .i .i64 v) g₈_1) ?_
      refine WO_v (a_mv (v := .i .i64 d) g₈_2) ?_
      refine WO_v (a_mv (v := .i .i64 w) g₈_3) ?_
      refine WO_v (a_mv (v := .i .i64 o) g₈_4) ?_
      obtain ⟨x, hx₁, hp⟩ := bd_some hp
      obtain ⟨u₁, k₁, ca₁, v₂, rfl, hW₁⟩ := p_muntinref10_with.ok (h := h)  (hO.sl 0 rfl : Sl e_T_api_Cell h v_l l) hx₁
      refine WO_c (id := 65) (caps := []) rfl (mp_cons (v := v_l) rfl (mp_cons (v := .i .i64 v) rfl (mp_cons (v := .i .i64 d) rfl (mp_cons (v := .i .i64 w) rfl (mp_cons (v := .i .i64 o) rfl mp_nil))))) ca₁ ?_
      have hO₁ : Own B h k₁ [eSl e_T_api_Cell v_l l, eSl e_T_api_Cell v₂ x] := hO.call hW₁ rfl
      refine WO_v (a_mv (v := v₂) rfl) ?_
      refine WO_end ?_
      refine then_n ?_
      refine W_sq ?_
      refine W_rg ?_
      refine WO_v (a_mv (v := v₂) rfl) ?_
      refine WO_v (a_mv (v := v₂) rfl) ?_
      refine WO_v (a_mv (v := .i .i64 0) rfl) ?_
      refine WO_end ?_
      refine then_n ?_
      refine W_rt ?_
      refine Ret_r (rs_t (n := 10) (v := v₂) rfl (rs_t (n := 11) (v := .i .i64 0) rfl rs_nil)) ?_
      have hp := Option.some.inj hp; subst hp
      exact (Exists.intro v₂ (And.intro rfl (hO₁.pick [1] rfl (by decide))))

theorem p_muntinlaw17_square.ok {h : Hp}    {r : (List T_api_Cell)} (hp : p_muntinlaw17_square  = some r) :
    ∃ u k', Is G 145 [] h u k' ∧ ∃ (v₁ : V), v₁ = u ∧ Own (fun r => r < h.n) h k' [eSl e_T_api_Cell v₁ r] := by
  refine WC.is (WC_of G_F_muntinlaw17_square ?_)
  unfold p_muntinlaw17_square at hp
  let B : Nat → Prop := (fun r => r < h.n)
  have hO : Own B h h [] := Own.start0 h
  refine W_sq ?_
  refine W_rg ?_
  refine WO_v (a_mv (v := .sn) rfl) ?_
  refine WO_end ?_
  refine then_n ?_
  refine W_sq ?_
  refine W_rg ?_
  obtain ⟨x, hx₁, hp⟩ := bd_some hp
  obtain ⟨u₁, k₁, ca₁, v₂, rfl, hW₁⟩ := p_muntinref10_New.ok (h := h)   hx₁
  refine WO_c (id := 46) (caps := []) rfl (mp_cons (v := .i .i64 4) rfl mp_nil) ca₁ ?_
  have hO₁ : Own B h k₁ [eSl e_T_api_Cell v₂ x] := hO.call hW₁ rfl
  refine WO_v (a_mv (v := v₂) rfl) ?_
  refine WO_end ?_
  refine then_n ?_
  refine W_sq ?_
  refine W_rg ?_
  refine WO_v (a_mv (v := v₂) rfl) ?_
  obtain ⟨⟨x1, x2⟩, hx₂, hp⟩ := bd_some hp
  obtain ⟨u₂, k₂, ca₂, v₃, rfl, hW₂⟩ := p_muntinref10_Join.ok (h := k₁) (l := x) (v := 0) (d := 0) (w := 1) (o := 0) (hO₁.toM [0] rfl (by decide))  hx₂
  refine WO_c (id := 53) (caps := []) rfl (mp_cons (v := v₂) rfl (mp_cons (v := .i .i64 0) rfl (mp_cons (v := .i .i64 0) rfl (mp_cons (v := .i .i64 1) rfl (mp_cons (v := .i .i64 0) rfl mp_nil))))) ca₂ ?_
  have hO₂ : Own B h k₂ [eNone, eSl e_T_api_Cell v₃ x1] := (hO₁.callM [0] [] rfl rfl (by decide) hW₂ rfl).pick [900, 0] rfl (by decide)
  refine WO_v (a_mv (v := .tu [v₃, .i .i64 x2]) rfl) ?_
  refine WO_v (a_ext (vs := [v₃, .i .i64 x2]) (v := v₃) rfl rfl) ?_
  refine WO_v (a_ext (vs := [v₃, .i .i64 x2]) (v := .i .i64 x2) rfl rfl) ?_
  refine WO_v (a_mv (v := v₃) rfl) ?_
  refine WO_end ?_
  refine then_n ?_
  refine W_sq ?_
  refine W_rg ?_
  refine WO_v (a_mv (v := v₃) rfl) ?_
  obtain ⟨⟨x3, x4⟩, hx₃, hp⟩ := bd_some hp
  obtain ⟨u₃, k₃, ca₃, v₄, rfl, hW₃⟩ := p_muntinref10_Join.ok (h := k₂) (l := x1) (v := 1) (d := 1) (w := 2) (o := 0) (hO₂.toM [1] rfl (by decide))  hx₃
  refine WO_c (id := 53) (caps := []) rfl (mp_cons (v := v₃) rfl (mp_cons (v := .i .i64 1) rfl (mp_cons (v := .i .i64 1) rfl (mp_cons (v := .i .i64 2) rfl (mp_cons (v := .i .i64 0) rfl mp_nil))))) ca₃ ?_
  have hO₃ : Own B h k₃ [eNone, eNone, eSl e_T_api_Cell v₄ x3] := (hO₂.callM [1] [] rfl rfl (by decide) hW₃ rfl).pick [900, 901, 0] rfl (by decide)
  refine WO_v (a_mv (v := .tu [v₄, .i .i64 x4]) rfl) ?_
  refine WO_v (a_ext (vs := [v₄, .i .i64 x4]) (v := v₄) rfl rfl) ?_
  refine WO_v (a_ext (vs := [v₄, .i .i64 x4]) (v := .i .i64 x4) rfl rfl) ?_
  refine WO_v (a_mv (v := v₄) rfl) ?_
  refine WO_end ?_
  refine then_n ?_
  refine W_sq ?_
  refine W_rg ?_
  refine WO_v (a_mv (v := v₄) rfl) ?_
  obtain ⟨⟨x5, x6⟩, hx₄, hp⟩ := bd_some hp
  obtain ⟨u₄, k₄, ca₄, v₅, rfl, hW₄⟩ := p_muntinref10_Join.ok (h := k₃) (l := x3) (v := 2) (d := 2) (w := 3) (o := 0) (hO₃.toM [2] rfl (by decide))  hx₄
  refine WO_c (id := 53) (caps := []) rfl (mp_cons (v := v₄) rfl (mp_cons (v := .i .i64 2) rfl (mp_cons (v := .i .i64 2) rfl (mp_cons (v := .i .i64 3) rfl (mp_cons (v := .i .i64 0) rfl mp_nil))))) ca₄ ?_
  have hO₄ : Own B h k₄ [eNone, eNone, eNone, eSl e_T_api_Cell v₅ x5] := (hO₃.callM [2] [] rfl rfl (by decide) hW₄ rfl).pick [900, 901, 902, 0] rfl (by decide)
  refine WO_v (a_mv (v := .tu [v₅, .i .i64 x6]) rfl) ?_
  refine WO_v (a_ext (vs := [v₅, .i .i64 x6]) (v := v₅) rfl rfl) ?_
  refine WO_v (a_ext (vs := [v₅, .i .i64 x6]) (v := .i .i64 x6) rfl rfl) ?_
  refine WO_v (a_mv (v := v₅) rfl) ?_
  refine WO_end ?_
  refine then_n ?_
  refine W_sq ?_
  refine W_rg ?_
  refine WO_v (a_mv (v := v₅) rfl) ?_
  obtain ⟨⟨x7, x8⟩, hx₅, hp⟩ := bd_some hp
  obtain ⟨u₅, k₅, ca₅, v₆, rfl, hW₅⟩ := p_muntinref10_Join.ok (h := k₄) (l := x5) (v := 3) (d := 3) (w := 0) (o := (-1)) (hO₄.toM [3] rfl (by decide))  hx₅
  refine WO_c (id := 53) (caps := []) rfl (mp_cons (v := v₅) rfl (mp_cons (v := .i .i64 3) rfl (mp_cons (v := .i .i64 3) rfl (mp_cons (v := .i .i64 0) rfl (mp_cons (v := .i .i64 (-1)) rfl mp_nil))))) ca₅ ?_
  have hO₅ : Own B h k₅ [eNone, eNone, eNone, eNone, eSl e_T_api_Cell v₆ x7] := (hO₄.callM [3] [] rfl rfl (by decide) hW₅ rfl).pick [900, 901, 902, 903, 0] rfl (by decide)
  refine WO_v (a_mv (v := .tu [v₆, .i .i64 x8]) rfl) ?_
  refine WO_v (a_ext (vs := [v₆, .i .i64 x8]) (v := v₆) rfl rfl) ?_
  refine WO_v (a_ext (vs := [v₆, .i .i64 x8]) (v := .i .i64 x8) rfl rfl) ?_
  refine WO_v (a_mv (v := v₆) rfl) ?_
  refine WO_end ?_
  refine then_n ?_
  refine W_sq ?_
  refine W_rg ?_
  refine WO_v (a_mv (v := v₆) rfl) ?_
  refine WO_v (a_mv (v := v₆) rfl) ?_
  refine WO_end ?_
  refine then_n ?_
  refine W_rt ?_
  refine Ret_r (rs_t (n := 0) (v := v₆) rfl rs_nil) ?_
  have hp := Option.some.inj hp; subst hp
  exact (Exists.intro v₆ (And.intro rfl (hO₅.pick [4] rfl (by decide))))

theorem p_bits_Mul64.ok {h : Hp} {x : Int} {y : Int}   {r : Int × Int} (hp : p_bits_Mul64 x y = some r) :
    ∃ u k', Is G 98 [.i .u64 x, .i .u64 y] h u k' ∧ V.tu [.i .u64 r.1, .i .u64 r.2] = u ∧ Own (fun r => r < h.n) h k' [] := by
  refine WC.is (WC_of G_F_bits_Mul64 ?_)
  unfold p_bits_Mul64 at hp
  let B : Nat → Prop := (fun r => r < h.n)
  have hO : Own B h h [] := Own.start0 h
  refine W_sq ?_
  refine W_rg ?_
  refine WO_v (a_mv (v := .i .u64 0) rfl) ?_
  refine WO_v (a_mv (v := .i .u64 0) rfl) ?_
  refine WO_end ?_
  refine then_n ?_
  refine W_sq ?_
  refine W_rg ?_
  refine WO_v (a_mv (v := .i .u64 x) rfl) ?_
  refine WO_v (a_ari (a := x) (b := 4294967295) (v := .i .u64 (ari_and .u64 x 4294967295)) rfl rfl (by decide) rfl) ?_
  refine WO_v (a_mv (v := .i .u64 (ari_and .u64 x 4294967295)) rfl) ?_
  refine WO_end ?_
  refine then_n ?_
  refine W_sq ?_
  refine W_rg ?_
  refine WO_v (a_mv (v := .i .u64 x) rfl) ?_
  refine WO_v (a_shift (a := x) (b := 32) (v := .i .u64 (sh_shr .u64 x 32)) rfl rfl (by decide) (sh_shr_ok (by decide))) ?_
  refine WO_v (a_mv (v := .i .u64 (sh_shr .u64 x 32)) rfl) ?_
  refine WO_end ?_
  refine then_n ?_
  refine W_sq ?_
  refine W_rg ?_
  refine WO_v (a_mv (v := .i .u64 y) rfl) ?_
  refine WO_v (a_ari (a := y) (b := 4294967295) (v := .i .u64 (ari_and .u64 y 4294967295)) rfl rfl (by decide) rfl) ?_
  refine WO_v (a_mv (v := .i .u64 (ari_and .u64 y 4294967295)) rfl) ?_
  refine WO_end ?_
  refine then_n ?_
  refine W_sq ?_
  refine W_rg ?_
  refine WO_v (a_mv (v := .i .u64 y) rfl) ?_
  refine WO_v (a_shift (a := y) (b := 32) (v := .i .u64 (sh_shr .u64 y 32)) rfl rfl (by decide) (sh_shr_ok (by decide))) ?_
  refine WO_v (a_mv (v := .i .u64 (sh_shr .u64 y 32)) rfl) ?_
  refine WO_end ?_
  refine then_n ?_
  refine W_sq ?_
  refine W_rg ?_
  refine WO_v (a_mv (v := .i .u64 (ari_and .u64 x 4294967295)) rfl) ?_
  refine WO_v (a_mv (v := .i .u64 (ari_and .u64 y 4294967295)) rfl) ?_
  refine WO_v (a_ari (a := (ari_and .u64 x 4294967295)) (b := (ari_and .u64 y 4294967295)) (v := .i .u64 (ari_mul .u64 (ari_and .u64 x 4294967295) (ari_and .u64 y 4294967295))) rfl rfl (by decide) rfl) ?_
  refine WO_v (a_mv (v := .i .u64 (ari_mul .u64 (ari_and .u64 x 4294967295) (ari_and .u64 y 4294967295))) rfl) ?_
  refine WO_end ?_
  refine then_n ?_
  refine W_sq ?_
  refine W_rg ?_
  refine WO_v (a_mv (v := .i .u64 (sh_shr .u64 x 32)) rfl) ?_
  refine WO_v (a_mv (v := .i .u64 (ari_and .u64 y 4294967295)) rfl) ?_
  refine WO_v (a_ari (a := (sh_shr .u64 x 32)) (b := (ari_and .u64 y 4294967295)) (v := .i .u64 (ari_mul .u64 (sh_shr .u64 x 32) (ari_and .u64 y 4294967295))) rfl rfl (by decide) rfl) ?_
  refine WO_v (a_mv (v := .i .u64 (ari_mul .u64 (ari_and .u64 x 4294967295) (ari_and .u64 y 4294967295))) rfl) ?_
  refine WO_v (a_shift (a := (ari_mul .u64 (ari_and .u64 x 4294967295) (ari_and .u64 y 4294967295))) (b := 32) (v := .i .u64 (sh_shr .u64 (ari_mul .u64 (ari_and .u64 x 4294967295) (ari_and .u64 y 4294967295)) 32)) rfl rfl (by decide) (sh_shr_ok (by decide))) ?_
  refine WO_v (a_ari (a := (ari_mul .u64 (sh_shr .u64 x 32) (ari_and .u64 y 4294967295))) (b := (sh_shr .u64 (ari_mul .u64 (ari_and .u64 x 4294967295) (ari_and .u64 y 4294967295)) 32)) (v := .i .u64 (ari_add .u64 (ari_mul .u64 (sh_shr .u64 x 32) (ari_and .u64 y 4294967295)) (sh_shr .u64 (ari_mul .u64 (ari_and .u64 x 4294967295) (ari_and .u64 y 4294967295)) 32))) rfl rfl (by decide) rfl) ?_
  refine WO_v (a_mv (v := .i .u64 (ari_add .u64 (ari_mul .u64 (sh_shr .u64 x 32) (ari_and .u64 y 4294967295)) (sh_shr .u64 (ari_mul .u64 (ari_and .u64 x 4294967295) (ari_and .u64 y 4294967295)) 32))) rfl) ?_
  refine WO_end ?_
  refine then_n ?_
  refine W_sq ?_
  refine W_rg ?_
  refine WO_v (a_mv (v := .i .u64 (ari_add .u64 (ari_mul .u64 (sh_shr .u64 x 32) (ari_and .u64 y 4294967295)) (sh_shr .u64 (ari_mul .u64 (ari_and .u64 x 4294967295) (ari_and .u64 y 4294967295)) 32))) rfl) ?_
  refine WO_v (a_ari (a := (ari_add .u64 (ari_mul .u64 (sh_shr .u64 x 32) (ari_and .u64 y 4294967295)) (sh_shr .u64 (ari_mul .u64 (ari_and .u64 x 4294967295) (ari_and .u64 y 4294967295)) 32))) (b := 4294967295) (v := .i .u64 (ari_and .u64 (ari_add .u64 (ari_mul .u64 (sh_shr .u64 x 32) (ari_and .u64 y 4294967295)) (sh_shr .u64 (ari_mul .u64 (ari_and .u64 x 4294967295) (ari_and .u64 y 4294967295)) 32)) 4294967295)) rfl rfl (by decide) rfl) ?_
  refine WO_v (a_mv (v := .i .u64 (ari_and .u64 (ari_add .u64 (ari_mul .u64 (sh_shr .u64 x 32) (ari_and .u64 y 4294967295)) (sh_shr .u64 (ari_mul .u64 (ari_and .u64 x 4294967295) (ari_and .u64 y 4294967295)) 32)) 4294967295)) rfl) ?_
  refine WO_end ?_
  refine then_n ?_
  refine W_sq ?_
  refine W_rg ?_
  refine WO_v (a_mv (v := .i .u64 (ari_add .u64 (ari_mul .u64 (sh_shr .u64 x 32) (ari_and .u64 y 4294967295)) (sh_shr .u64 (ari_mul .u64 (ari_and .u64 x 4294967295) (ari_and .u64 y 4294967295)) 32))) rfl) ?_
  refine WO_v (a_shift (a := (ari_add .u64 (ari_mul .u64 (sh_shr .u64 x 32) (ari_and .u64 y 4294967295)) (sh_shr .u64 (ari_mul .u64 (ari_and .u64 x 4294967295) (ari_and .u64 y 4294967295)) 32))) (b := 32) (v := .i .u64 (sh_shr .u64 (ari_add .u64 (ari_mul .u64 (sh_shr .u64 x 32) (ari_and .u64 y 4294967295)) (sh_shr .u64 (ari_mul .u64 (ari_and .u64 x 4294967295) (ari_and .u64 y 4294967295)) 32)) 32)) rfl rfl (by decide) (sh_shr_ok (by decide))) ?_
  refine WO_v (a_mv (v := .i .u64 (sh_shr .u64 (ari_add .u64 (ari_mul .u64 (sh_shr .u64 x 32) (ari_and .u64 y 4294967295)) (sh_shr .u64 (ari_mul .u64 (ari_and .u64 x 4294967295) (ari_and .u64 y 4294967295)) 32)) 32)) rfl) ?_
  refine WO_end ?_
  refine then_n ?_
  refine W_sq ?_
  refine W_rg ?_
  refine WO_v (a_mv (v := .i .u64 (ari_and .u64 (ari_add .u64 (ari_mul .u64 (sh_shr .u64 x 32) (ari_and .u64 y 4294967295)) (sh_shr .u64 (ari_mul .u64 (ari_and .u64 x 4294967295) (ari_and .u64 y 4294967295)) 32)) 4294967295)) rfl) ?_
  refine WO_v (a_mv (v := .i .u64 (ari_and .u64 x 4294967295)) rfl) ?_
  refine WO_v (a_mv (v := .i .u64 (sh_shr .u64 y 32)) rfl) ?_
  refine WO_v (a_ari (a := (ari_and .u64 x 4294967295)) (b := (sh_shr .u64 y 32)) (v := .i .u64 (ari_mul .u64 (ari_and .u64 x 4294967295) (sh_shr .u64 y 32))) rfl rfl (by decide) rfl) ?_
  refine WO_v (a_ari (a := (ari_and .u64 (ari_add .u64 (ari_mul .u64 (sh_shr .u64 x 32) (ari_and .u64 y 4294967295)) (sh_shr .u64 (ari_mul .u64 (ari_and .u64 x 4294967295) (ari_and .u64 y 4294967295)) 32)) 4294967295)) (b := (ari_mul .u64 (ari_and .u64 x 4294967295) (sh_shr .u64 y 32))) (v := .i .u64 (ari_add .u64 (ari_and .u64 (ari_add .u64 (ari_mul .u64 (sh_shr .u64 x 32) (ari_and .u64 y 4294967295)) (sh_shr .u64 (ari_mul .u64 (ari_and .u64 x 4294967295) (ari_and .u64 y 4294967295)) 32)) 4294967295) (ari_mul .u64 (ari_and .u64 x 4294967295) (sh_shr .u64 y 32)))) rfl rfl (by decide) rfl) ?_
  refine WO_v (a_mv (v := .i .u64 (ari_add .u64 (ari_and .u64 (ari_add .u64 (ari_mul .u64 (sh_shr .u64 x 32) (ari_and .u64 y 4294967295)) (sh_shr .u64 (ari_mul .u64 (ari_and .u64 x 4294967295) (ari_and .u64 y 4294967295)) 32)) 4294967295) (ari_mul .u64 (ari_and .u64 x 4294967295) (sh_shr .u64 y 32)))) rfl) ?_
  refine WO_end ?_
  refine then_n ?_
  refine W_sq ?_
  refine W_rg ?_
  refine WO_v (a_mv (v := .i .u64 (sh_shr .u64 x 32)) rfl) ?_
  refine WO_v (a_mv (v := .i .u64 (sh_shr .u64 y 32)) rfl) ?_
  refine WO_v (a_ari (a := (sh_shr .u64 x 32)) (b := (sh_shr .u64 y 32)) (v := .i .u64 (ari_mul .u64 (sh_shr .u64 x 32) (sh_shr .u64 y 32))) rfl rfl (by decide) rfl) ?_
  refine WO_v (a_mv (v := .i .u64 (sh_shr .u64 (ari_add .u64 (ari_mul .u64 (sh_shr .u64 x 32) (ari_and .u64 y 4294967295)) (sh_shr .u64 (ari_mul .u64 (ari_and .u64 x 4294967295) (ari_and .u64 y 4294967295)) 32)) 32)) rfl) ?_
  refine WO_v (a_ari (a := (ari_mul .u64 (sh_shr .u64 x 32) (sh_shr .u64 y 32))) (b := (sh_shr .u64 (ari_add .u64 (ari_mul .u64 (sh_shr .u64 x 32) (ari_and .u64 y 4294967295)) (sh_shr .u64 (ari_mul .u64 (ari_and .u64 x 4294967295) (ari_and .u64 y 4294967295)) 32)) 32)) (v := .i .u64 (ari_add .u64 (ari_mul .u64 (sh_shr .u64 x 32) (sh_shr .u64 y 32)) (sh_shr .u64 (ari_add .u64 (ari_mul .u64 (sh_shr .u64 x 32) (ari_and .u64 y 4294967295)) (sh_shr .u64 (ari_mul .u64 (ari_and .u64 x 4294967295) (ari_and .u64 y 4294967295)) 32)) 32))) rfl rfl (by decide) rfl) ?_
  refine WO_v (a_mv (v := .i .u64 (ari_add .u64 (ari_and .u64 (ari_add .u64 (ari_mul .u64 (sh_shr .u64 x 32) (ari_and .u64 y 4294967295)) (sh_shr .u64 (ari_mul .u64 (ari_and .u64 x 4294967295) (ari_and .u64 y 4294967295)) 32)) 4294967295) (ari_mul .u64 (ari_and .u64 x 4294967295) (sh_shr .u64 y 32)))) rfl) ?_
  refine WO_v (a_shift (a := (ari_add .u64 (ari_and .u64 (ari_add .u64 (ari_mul .u64 (sh_shr .u64 x 32) (ari_and .u64 y 4294967295)) (sh_shr .u64 (ari_mul .u64 (ari_and .u64 x 4294967295) (ari_and .u64 y 4294967295)) 32)) 4294967295) (ari_mul .u64 (ari_and .u64 x 4294967295) (sh_shr .u64 y 32)))) (b := 32) (v := .i .u64 (sh_shr .u64 (ari_add .u64 (ari_and .u64 (ari_add .u64 (ari_mul .u64 (sh_shr .u64 x 32) (ari_and .u64 y 4294967295)) (sh_shr .u64 (ari_mul .u64 (ari_and .u64 x 4294967295) (ari_and .u64 y 4294967295)) 32)) 4294967295) (ari_mul .u64 (ari_and .u64 x 4294967295) (sh_shr .u64 y 32))) 32)) rfl rfl (by decide) (sh_shr_ok (by decide))) ?_
  refine WO_v (a_ari (a := (ari_add .u64 (ari_mul .u64 (sh_shr .u64 x 32) (sh_shr .u64 y 32)) (sh_shr .u64 (ari_add .u64 (ari_mul .u64 (sh_shr .u64 x 32) (ari_and .u64 y 4294967295)) (sh_shr .u64 (ari_mul .u64 (ari_and .u64 x 4294967295) (ari_and .u64 y 4294967295)) 32)) 32))) (b := (sh_shr .u64 (ari_add .u64 (ari_and .u64 (ari_add .u64 (ari_mul .u64 (sh_shr .u64 x 32) (ari_and .u64 y 4294967295)) (sh_shr .u64 (ari_mul .u64 (ari_and .u64 x 4294967295) (ari_and .u64 y 4294967295)) 32)) 4294967295) (ari_mul .u64 (ari_and .u64 x 4294967295) (sh_shr .u64 y 32))) 32)) (v := .i .u64 (ari_add .u64 (ari_add .u64 (ari_mul .u64 (sh_shr .u64 x 32) (sh_shr .u64 y 32)) (sh_shr .u64 (ari_add .u64 (ari_mul .u64 (sh_shr .u64 x 32) (ari_and .u64 y 4294967295)) (sh_shr .u64 (ari_mul .u64 (ari_and .u64 x 4294967295) (ari_and .u64 y 4294967295)) 32)) 32)) (sh_shr .u64 (ari_add .u64 (ari_and .u64 (ari_add .u64 (ari_mul .u64 (sh_shr .u64 x 32) (ari_and .u64 y 4294967295)) (sh_shr .u64 (ari_mul .u64 (ari_and .u64 x 4294967295) (ari_and .u64 y 4294967295)) 32)) 4294967295) (ari_mul .u64 (ari_and .u64 x 4294967295) (sh_shr .u64 y 32))) 32))) rfl rfl (by decide) rfl) ?_
  refine WO_v (a_mv (v := .i .u64 (ari_add .u64 (ari_add .u64 (ari_mul .u64 (sh_shr .u64 x 32) (sh_shr .u64 y 32)) (sh_shr .u64 (ari_add .u64 (ari_mul .u64 (sh_shr .u64 x 32) (ari_and .u64 y 4294967295)) (sh_shr .u64 (ari_mul .u64 (ari_and .u64 x 4294967295) (ari_and .u64 y 4294967295)) 32)) 32)) (sh_shr .u64 (ari_add .u64 (ari_and .u64 (ari_add .u64 (ari_mul .u64 (sh_shr .u64 x 32) (ari_and .u64 y 4294967295)) (sh_shr .u64 (ari_mul .u64 (ari_and .u64 x 4294967295) (ari_and .u64 y 4294967295)) 32)) 4294967295) (ari_mul .u64 (ari_and .u64 x 4294967295) (sh_shr .u64 y 32))) 32))) rfl) ?_
  refine WO_end ?_
  refine then_n ?_
  refine W_sq ?_
  refine W_rg ?_
  refine WO_v (a_mv (v := .i .u64 x) rfl) ?_
  refine WO_v (a_mv (v := .i .u64 y) rfl) ?_
  refine WO_v (a_ari (a := x) (b := y) (v := .i .u64 (ari_mul .u64 x y)) rfl rfl (by decide) rfl) ?_
  refine WO_v (a_mv (v := .i .u64 (ari_mul .u64 x y)) rfl) ?_
  refine WO_end ?_
  refine then_n ?_
  refine W_rt ?_
  refine Ret_r (rs_t (n := 4) (v := .i .u64 (ari_add .u64 (ari_add .u64 (ari_mul .u64 (sh_shr .u64 x 32) (sh_shr .u64 y 32)) (sh_shr .u64 (ari_add .u64 (ari_mul .u64 (sh_shr .u64 x 32) (ari_and .u64 y 4294967295)) (sh_shr .u64 (ari_mul .u64 (ari_and .u64 x 4294967295) (ari_and .u64 y 4294967295)) 32)) 32)) (sh_shr .u64 (ari_add .u64 (ari_and .u64 (ari_add .u64 (ari_mul .u64 (sh_shr .u64 x 32) (ari_and .u64 y 4294967295)) (sh_shr .u64 (ari_mul .u64 (ari_and .u64 x 4294967295) (ari_and .u64 y 4294967295)) 32)) 4294967295) (ari_mul .u64 (ari_and .u64 x 4294967295) (sh_shr .u64 y 32))) 32))) rfl (rs_t (n := 5) (v := .i .u64 (ari_mul .u64 x y)) rfl rs_nil)) ?_
  have hp := Option.some.inj hp; subst hp
  exact (And.intro rfl (hO.pick [] rfl (by decide)))

theorem p_bits_Mul.ok {h : Hp} {x : Int} {y : Int}   {r : Int × Int} (hp : p_bits_Mul x y = some r) :
    ∃ u k', Is G 89 [.i .u64 x, .i .u64 y] h u k' ∧ V.tu [.i .u64 r.1, .i .u64 r.2] = u ∧ Own (fun r => r < h.n) h k' [] := by
  refine WC.is (WC_of G_F_bits_Mul ?_)
  unfold p_bits_Mul at hp
  let B : Nat → Prop := (fun r => r < h.n)
  have hO : Own B h h [] := Own.start0 h
  refine W_sq ?_
  refine W_rg ?_
  refine WO_v (a_mv (v := .i .u64 0) rfl) ?_
  refine WO_v (a_mv (v := .i .u64 0) rfl) ?_
  refine WO_end ?_
  refine then_n ?_
  refine W_sq ?_
  refine W_cF (t := false) rfl rfl ?_
  refine W_sk ?_
  refine then_n ?_
  refine W_sq ?_
  refine W_rg ?_
  refine WO_v (a_mv (v := .i .u64 x) rfl) ?_
  refine WO_v (a_mv (v := .i .u64 y) rfl) ?_
  obtain ⟨⟨x1, x2⟩, hx₁, hp⟩ := bd_some hp
  obtain ⟨u₁, k₁, ca₁, rfl, hW₁⟩ := p_bits_Mul64.ok (h := h)   hx₁
  refine WO_c (id := 98) (caps := []) rfl (mp_cons (v := .i .u64 x) rfl (mp_cons (v := .i .u64 y) rfl mp_nil)) ca₁ ?_
  have hO₁ : Own B h k₁ [] := hO.call hW₁ rfl
  refine WO_v (a_mv (v := .tu [.i .u64 x1, .i .u64 x2]) rfl) ?_
  refine WO_v (a_ext (vs := [.i .u64 x1, .i .u64 x2]) (v := .i .u64 x1) rfl rfl) ?_
  refine WO_v (a_ext (vs := [.i .u64 x1, .i .u64 x2]) (v := .i .u64 x2) rfl rfl) ?_
  refine WO_v (a_mv (v := .i .u64 x1) rfl) ?_
  refine WO_v (a_mv (v := .i .u64 x2) rfl) ?_
  refine WO_end ?_
  refine then_n ?_
  refine W_sq ?_
  refine W_rg ?_
  refine WO_v (a_mv (v := .i .u64 x1) rfl) ?_
  refine WO_v (a_mv (v := .i .u64 x2) rfl) ?_
  refine WO_v (a_mv (v := .i .u64 x1) rfl) ?_
  refine WO_v (a_mv (v := .i .u64 x2) rfl) ?_
  refine WO_end ?_
  refine then_n ?_
  refine W_rt ?_
  refine Ret_r (rs_t (n := 4) (v := .i .u64 x1) rfl (rs_t (n := 5) (v := .i .u64 x2) rfl rs_nil)) ?_
  have hp := Option.some.inj hp; subst hp
  exact (And.intro rfl (hO₁.pick [] rfl (by decide)))

theorem p_slices_Repeat_int.ok {h : Hp} {x : List Int} {count : Int} {v_x : V} (s_x : Sl eInt h v_x x) {r : (List Int)} (hp : p_slices_Repeat_int x count = some r) :
    ∃ u k', Is G 83 [v_x, .i .i64 count] h u k' ∧ ∃ (v₁ : V), v₁ = u ∧ Own (fun r => r < h.n) h k' [eSl eInt v₁ r] := by
  refine WC.is (WC_of G_F_slices_Repeat_int ?_)
  unfold p_slices_Repeat_int at hp
  let B : Nat → Prop := (fun r => r < h.n)
  have hO : Own B h h [] := Own.start0 h
  refine W_sq ?_
  refine W_rg ?_
  refine WO_v (a_mv (v := .sn) rfl) ?_
  refine WO_end ?_
  refine then_n ?_
  refine W_sq ?_
  refine W_sq ?_
  refine W_rg ?_
  refine WO_v (a_mv (v := .i .i64 count) rfl) ?_
  refine WO_v (a_lss (a := count) (b := 0) rfl rfl) ?_
  refine WO_end ?_
  refine then_n ?_
  obtain ⟨o₁, ho₁, hp⟩ := bd_some hp
  refine W.mono (Q := fun e fr k => match (generalizing := false) o₁ with
      | _ => e = .normal ∧ fr 0 = v_x ∧ fr 1 = .i .i64 count ∧ Own B h k []) ?_ ?_
  · clear hp; have hp := ho₁; clear ho₁
    rcases if_some hp with ⟨b₁, hp⟩ | ⟨b₁, hp⟩
    · refine W_cT (t := (decide (count < 0))) rfl b₁ ?_
      exact nomatch hp
    · refine W_cF (t := (decide (count < 0))) rfl b₁ ?_
      refine W_sk ?_
      have hp := Option.some.inj hp; subst hp
      exact (And.intro rfl (And.intro (rfl) (And.intro (rfl) (hO.pick [] rfl (by decide)))))
  intro e₁ q₁ k₁ hJ₁
  obtain ⟨rfl, q₁_0, q₁_1, hO₁⟩ := hJ₁
  refine then_n ?_
  refine W_sq ?_
  refine W_rg ?_
  refine WO_v (a_mv (v := v_x) q₁_0) ?_
  refine WO_v (a_len (hO₁.rd0 s_x.rd : Sl eInt k₁ v_x x) rfl) ?_
  obtain ⟨c₁, hp⟩ := ck_some hp
  refine WO_v (a_conv (a := (x.length : Int)) rfl c₁) ?_
  refine WO_v (a_mv (v := .i .i64 count) q₁_1) ?_
  obtain ⟨c₂, hp⟩ := ck_some hp
  refine WO_v (a_conv (a := count) rfl c₂) ?_
  obtain ⟨⟨x1, x2⟩, hx₁, hp⟩ := bd_some hp
  obtain ⟨u₁, k₂, ca₁, rfl, hW₁⟩ := p_bits_Mul.ok (h := k₁)   hx₁
  refine WO_c (id := 89) (caps := []) rfl (mp_cons (v := .i .u64 (x.length : Int)) rfl (mp_cons (v := .i .u64 count) rfl mp_nil)) ca₁ ?_
  have hO₂ : Own B h k₂ [] := hO₁.call hW₁ rfl
  refine WO_v (a_mv (v := .tu [.i .u64 x1, .i .u64 x2]) rfl) ?_
  refine WO_v (a_ext (vs := [.i .u64 x1, .i .u64 x2]) (v := .i .u64 x1) rfl rfl) ?_
  refine WO_v (a_ext (vs := [.i .u64 x1, .i .u64 x2]) (v := .i .u64 x2) rfl rfl) ?_
  refine WO_v (a_mv (v := .i .u64 x1) rfl) ?_
  refine WO_v (a_mv (v := .i .u64 x2) rfl) ?_
  refine WO_end ?_
  refine then_n ?_
  refine W_sq ?_
  refine W_sq ?_
  refine W_rg ?_
  refine WO_v (a_mv (v := .i .u64 x1) rfl) ?_
  refine WO_v (a_gtr (a := x1) (b := 0) rfl rfl) ?_
  refine WO_v (a_mv (v := .b (decide (0 < x1))) rfl) ?_
  refine WO_cut 3 (fun fr' k' => k₂ = k' ∧ fr' 26 = .b ((decide (0 < x1)) || (decide (9223372036854775807 < x2))) ∧ fr' 0 = v_x ∧ fr' 6 = .i .u64 x2) ?_ ?_
  · rcases bc (decide (0 < x1)) with b₂ | b₂
    · skip
      refine WO_off rfl b₂ ?_
      refine WO_off rfl b₂ ?_
      refine WO_v (a_pickT (t := (decide (0 < x1))) (v := .b ((decide (0 < x1)) || (decide (9223372036854775807 < x2)))) rfl b₂ (Eq.trans (b := V.b true) rfl (or_off b₂))) ?_
      refine WO_end ?_
      exact ⟨rfl, rfl, q₁_0, rfl⟩
    · skip
      refine WO_on rfl b₂ ?_
      refine WO_v (a_mv (v := .i .u64 x2) rfl) ?_
      refine WO_on rfl b₂ ?_
      refine WO_v (a_gtr (a := x2) (b := 9223372036854775807) rfl rfl) ?_
      refine WO_v (a_pickF (t := (decide (0 < x1))) (v := .b ((decide (0 < x1)) || (decide (9223372036854775807 < x2)))) rfl b₂ (Eq.trans (b := V.b (decide (9223372036854775807 < x2))) rfl (or_on b₂))) ?_
      refine WO_end ?_
      exact ⟨rfl, rfl, q₁_0, rfl⟩
  rintro frg₁ _ ⟨rfl, g₁_26, g₁_0, g₁_6⟩
  refine WO_end ?_
  refine then_n ?_
  obtain ⟨o₂, ho₂, hp⟩ := bd_some hp
  refine W.mono (Q := fun e fr k => match (generalizing := false) o₂ with
      | _ => e = .normal ∧ fr 0 = v_x ∧ fr 6 = .i .u64 x2 ∧ Own B h k []) ?_ ?_
  · clear hp; have hp := ho₂; clear ho₂
    rcases if_some hp with ⟨b₃, hp⟩ | ⟨b₃, hp⟩
    · refine W_cT (t := ((decide (0 < x1)) || (decide (9223372036854775807 < x2)))) g₁_26 b₃ ?_
      exact nomatch hp
    · refine W_cF (t := ((decide (0 < x1)) || (decide (9223372036854775807 < x2)))) g₁_26 b₃ ?_
      refine W_sk ?_
      have hp := Option.some.inj hp; subst hp
      exact (And.intro rfl (And.intro (g₁_0) (And.intro (g₁_6) (hO₂.pick [] rfl (by decide)))))
  intro e₂ q₂ k₃ hJ₂
  obtain ⟨rfl, q₂_0, q₂_6, hO₃⟩ := hJ₂
  refine then_n ?_
  refine W_sq ?_
  refine W_rg ?_
  refine WO_v (a_mv (v := .i .u64 x2) q₂_6) ?_
  obtain ⟨c₃, hp⟩ := ck_some hp
  refine WO_v (a_conv (a := x2) rfl c₃) ?_
  obtain ⟨c₄, hp⟩ := ck_some hp
  refine WO_x (hO₃.mks (E := eInt) (y := (0 : Int)) (bytes := 8) (z := x2) hO₃.fr rfl rfl rfl c₄ (by decide)) ?_
  rintro v₂ k₄ ⟨r₁, f₁, hW⟩
  have hO₄ : Own B h k₄ [eSl eInt v₂ (List.replicate (x2 : Int).toNat (0 : Int))] := hW
  refine WO_v (a_mv (v := v₂) rfl) ?_
  refine WO_end ?_
  refine then_n ?_
  refine W_sq ?_
  refine W_rg ?_
  refine WO_v (a_mv (v := v₂) rfl) ?_
  refine WO_v (a_mv (v := v_x) q₂_0) ?_
  refine WO_x (hO₄.cpy (E := eInt) 0 rfl (hO₄.rd0 s_x.rd : Sl eInt k₄ v_x x) rfl rfl (fun _ => rfl)) ?_
  rintro _ k₅ ⟨rfl, f₂, hW⟩
  have hO₅ : Own B h k₅ [eSl eInt v₂ (x.take (List.replicate (x2 : Int).toNat (0 : Int)).length ++ (List.replicate (x2 : Int).toNat (0 : Int)).drop x.length)] := hW
  refine WO_v (a_mv (v := .i .i64 ((min x.length (List.replicate (x2 : Int).toNat (0 : Int)).length : Nat) : Int)) rfl) ?_
  refine WO_end ?_
  refine then_n ?_
  refine W_sq ?_
  refine W_bl ?_
  obtain ⟨o₃, ho₃, hp⟩ := bd_some hp
  refine W.mono (Q := fun e fr k => match (generalizing := false) o₃ with
      | newslice1 => e = (.exit 0) ∧ fr 7 = v₂ ∧ Own B h k [eSl eInt v₂ newslice1]) ?_ ?_
  · clear hp
    refine W_loopF (fun st fr k => match st with | (newslice, n) => fr 7 = v₂ ∧ fr 8 = .i .i64 n ∧ Own B h k [eSl eInt v₂ newslice]) ho₃ (s := (x.take (List.replicate (x2 : Int).toNat (0 : Int)).length ++ (List.replicate (x2 : Int).toNat (0 : Int)).drop x.length, ((min x.length (List.replicate (x2 : Int).toNat (0 : Int)).length : Nat) : Int))) (And.intro (rfl) (And.intro (rfl) (hO₅.pick [0] rfl (by decide)))) ?_
    rintro ⟨newslice, n⟩ q₄ k₇ ⟨q₄_7, q₄_8, hO₇⟩ o₄ hp
    dsimp only [p_slices_Repeat_int.s0] at hp
    refine W_sq ?_
    refine W_sq ?_
    refine W_rg ?_
    refine WO_v (a_mv (v := .i .i64 n) q₄_8) ?_
    refine WO_v (a_mv (v := v₂) q₄_7) ?_
    refine WO_v (a_len (hO₇.sl 0 rfl : Sl eInt k₇ v₂ newslice) rfl) ?_
    refine WO_v (a_lss (a := n) (b := (newslice.length : Int)) rfl rfl) ?_
    refine WO_end ?_
    refine then_n ?_
    rcases if_some hp with ⟨b₄, hp⟩ | ⟨b₄, hp⟩
    · refine W_cT (t := (decide (n < (newslice.length : Int)))) rfl b₄ ?_
      refine W_sk ?_
      refine then_n ?_
      refine W_bl ?_
      refine W_dr ?_
      have hW := hO₇.bump 10
      have fr₁ := Fresh.start k₇ 10
      have nb₁ : ∀ {i : Nat}, h.n ≤ k₇.n + i := Nat.le_trans hO₇.n (Nat.le_add_right _ _)
      have hO₈ : Own B h (k₇.bump 10) [eSl eInt v₂ newslice] := hW
      refine WD_v (a_mv (v := .i .i64 n) q₄_8) ?_
      refine WD_v (a_mv (v := v₂) q₄_7) ?_
      refine WD_v (a_mv (v := .i .i64 n) q₄_8) ?_
      obtain ⟨c₅, hp⟩ := ck_some hp
      refine WD_v (a_slcF (E := eInt) (z := n) (hO₈.sl 0 rfl : Sl eInt (k₇.bump 10) v₂ newslice) rfl rfl c₅) ?_
      refine WD_v (a_mv (v := v₂) q₄_7) ?_
      refine WD_v (a_mv (v := .i .i64 n) q₄_8) ?_
      refine WD_v (a_slcU (E := eInt) (z := n) (hO₈.sl 0 rfl : Sl eInt (k₇.bump 10) v₂ newslice) rfl rfl c₅) ?_
      refine WD_x (hO₈.cpyF (E := eInt) (z := n) 0 rfl c₅ (Sl.cutU (hO₈.sl 0 rfl : Sl eInt (k₇.bump 10) v₂ newslice) c₅ : Sl eInt (k₇.bump 10) (V.cut v₂ 0 (n : Int).toNat) (newslice.take (n : Int).toNat)) rfl rfl (fun _ => rfl)) ?_
      rintro _ k₉ z₁ ⟨rfl, f₃, hW⟩
      have fr₂ := fr₁.kept f₃ (by decide)
      have hO₉ : Own B h k₉ [eSl eInt v₂ (newslice.take (n : Int).toNat ++ ((newslice.take (n : Int).toNat).take (newslice.drop (n : Int).toNat).length ++ (newslice.drop (n : Int).toNat).drop (newslice.take (n : Int).toNat).length))] := hW
      obtain ⟨c₆, hp⟩ := ck_some hp
      refine WD_v (a_add (a := n) (b := ((min (newslice.take (n : Int).toNat).length (newslice.drop (n : Int).toNat).length : Nat) : Int)) rfl rfl c₆) ?_
      refine WD_v (a_mv (v := .i .i64 (n + ((min (newslice.take (n : Int).toNat).length (newslice.drop (n : Int).toNat).length : Nat) : Int))) rfl) ?_
      refine WD_end ?_
      refine And.intro ?_ ?_
      · intro q hq
        cases hq
      refine blk_n ?_
      have hp := Option.some.inj hp; subst hp
      exact (Or.inl (Exists.intro (newslice.take (n : Int).toNat ++ ((newslice.take (n : Int).toNat).take (newslice.drop (n : Int).toNat).length ++ (newslice.drop (n : Int).toNat).drop (newslice.take (n : Int).toNat).length), n + ((min (newslice.take (n : Int).toNat).length (newslice.drop (n : Int).toNat).length : Nat) : Int)) (And.intro rfl (And.intro rfl (And.intro (q₄_7) (And.intro (rfl) (hO₉.pick [0] rfl (by decide))))))))
    · refine W_cF (t := (decide (n < (newslice.length : Int)))) rfl b₄ ?_
      refine W_ex ?_
      refine then_e ?_
      have hp := Option.some.inj hp; subst hp
      refine (Or.inr (Exists.intro newslice (And.intro rfl (And.intro (fun h => nomatch h) (fun he => ?_)))))
      subst he; exact (And.intro rfl (And.intro (q₄_7) (hO₇.pick [0] rfl (by decide))))
  intro e₃ q₃ k₆ hJ₃
  obtain ⟨newslice1, rfl⟩ : ∃ x, x = o₃ := ⟨_, rfl⟩
  obtain ⟨rfl, q₃_7, hO₆⟩ := hJ₃
  refine blk_i ?_
  refine then_n ?_
  refine W_sq ?_
  refine W_rg ?_
  refine WO_v (a_mv (v := v₂) q₃_7) ?_
  refine WO_v (a_mv (v := v₂) rfl) ?_
  refine WO_end ?_
  refine then_n ?_
  refine W_rt ?_
  refine Ret_r (rs_t (n := 4) (v := v₂) rfl rs_nil) ?_
  have hp := Option.some.inj hp; subst hp
  exact (Exists.intro v₂ (And.intro rfl (hO₆.pick [0] rfl (by decide))))

theorem p_seg_chains.ok {h : Hp} {cells : List T_api_Cell} {d : Int} {v_cells : V} (s_cells : Sl e_T_api_Cell h v_cells cells) {r : (List Int) × (List (List Int)) × Bool} (hp : p_seg_chains cells d = some r) :
    ∃ u k', Is G 137 [v_cells, .i .i64 d] h u k' ∧ ∃ (v₁ : V), ∃ (v₂ : V), ∃ (vs₁ : List V), V.tu [v₁, v₂, .b r.2.2] = u ∧ Own (fun r => r < h.n) h k' [eSl eInt v₁ r.1, eSl eV v₂ vs₁, eAll eInt vs₁ r.2.1] := by
  refine WC.is (WC_of G_F_seg_chains ?_)
  unfold p_seg_chains at hp
  let B : Nat → Prop := (fun r => r < h.n)
  have hO : Own B h h [] := Own.start0 h
  refine W_sq ?_
  refine W_rg ?_
  refine WO_v (a_mv (v := .sn) rfl) ?_
  refine WO_v (a_mv (v := .sn) rfl) ?_
  refine WO_v (a_mv (v := .b false) rfl) ?_
  refine WO_end ?_
  refine then_n ?_
  refine W_sq ?_
  refine W_rg ?_
  refine WO_x (hO.bsl (E := eInt) (l := ([(-1)] : List Int)) hO.fr (by rw [(ev_cons (v := .i .i64 (-1)) rfl ev_nil)]; rfl) rfl) ?_
  rintro v₃ k₁ ⟨r₁, f₁, hW⟩
  have hO₁ : Own B h k₁ [eSl eInt v₃ ([(-1)] : List Int)] := hW
  refine WO_v (a_mv (v := v_cells) rfl) ?_
  refine WO_v (a_len (hO₁.rd0 s_cells.rd : Sl e_T_api_Cell k₁ v_cells cells) rfl) ?_
  obtain ⟨x, hx₁, hp⟩ := bd_some hp
  obtain ⟨u₁, k₂, ca₁, v₄, rfl, hW₁⟩ := p_slices_Repeat_int.ok (h := k₁)  (hO₁.sl 0 rfl : Sl eInt k₁ v₃ ([(-1)] : List Int)) hx₁
  refine WO_c (id := 83) (caps := []) rfl (mp_cons (v := v₃) rfl (mp_cons (v := .i .i64 (cells.length : Int)) rfl mp_nil)) ca₁ ?_
  have hO₂ : Own B h k₂ [eSl eInt v₃ ([(-1)] : List Int), eSl eInt v₄ x] := hO₁.call hW₁ rfl
  refine WO_v (a_mv (v := v₄) rfl) ?_
  refine WO_end ?_
  refine then_n ?_
  refine W_sq ?_
  refine W_rg ?_
  refine WO_v (a_mv (v := .i .i64 d) rfl) ?_
  obtain ⟨x1, hx₂, hp⟩ := bd_some hp
  obtain ⟨u₂, k₃, ca₂, rfl, hW₂⟩ := p_compass_Left.ok (h := k₂)   hx₂
  refine WO_c (id := 77) (caps := []) rfl (mp_cons (v := .i .i64 d) rfl (mp_cons (v := .i .i64 2) rfl mp_nil)) ca₂ ?_
  have hO₃ : Own B h k₃ [eSl eInt v₃ ([(-1)] : List Int), eSl eInt v₄ x] := hO₂.call hW₂ rfl
  refine WO_v (a_mv (v := .i .i64 x1) rfl) ?_
  refine WO_end ?_
  refine then_n ?_
  refine W_sq ?_
  refine W_rg ?_
  refine WO_v (a_mv (v := .sn) rfl) ?_
  refine WO_end ?_
  refine then_n ?_
  refine W_sq ?_
  refine W_sq ?_
  refine W_rg ?_
  refine WO_v (a_mv (v := v_cells) rfl) ?_
  refine WO_v (a_len (hO₃.rd0 s_cells.rd : Sl e_T_api_Cell k₃ v_cells cells) rfl) ?_
  refine WO_v (a_mv (v := .i .i64 0) rfl) ?_
  refine WO_end ?_
  refine then_n ?_
  refine W_bl ?_
  obtain ⟨o₁, ho₁, hp⟩ := bd_some hp
  refine W.mono (Q := fun e fr k => match (generalizing := false) o₁ with
      | .inl (at_1, l1) => e = (.exit 0) ∧ ∃ (v₆ : V), ∃ (vs₃ : List V), fr 7 = v₄ ∧ fr 9 = v₆ ∧ Own B h k [eSl eInt v₄ at_1, eSl eV v₆ vs₃, eAll eInt vs₃ l1]
      | .inr _ => e = .ret ∧ fr 4 = .sn ∧ fr 5 = .sn ∧ fr 6 = .b false ∧ Own B h k []) ?_ ?_
  · clear hp
    have hO₅ : Own B h k₃ [eSl eInt v₃ ([(-1)] : List Int), eSl eInt v₄ x, eSl eV .sn []] := hO₃.nil eV
    have hO₆ : Own B h k₃ [eSl eInt v₃ ([(-1)] : List Int), eSl eInt v₄ x, eSl eV .sn [], eAll eInt [] []] := hO₅.allNil eInt 0
    refine W_loopF (fun st fr k => match st with | (at_, l, x2) => ∃ (v₅ : V), ∃ (vs₂ : List V), fr 0 = v_cells ∧ fr 1 = .i .i64 d ∧ fr 7 = v₄ ∧ fr 8 = .i .i64 x1 ∧ fr 9 = v₅ ∧ fr 22 = .i .i64 (cells.length : Int) ∧ fr 23 = .i .i64 x2 ∧ Own B h k [eSl eInt v₄ at_, eSl eV v₅ vs₂, eAll eInt vs₂ l]) ho₁ (s := (x, ([] : List (List Int)), 0)) (Exists.intro V.sn (Exists.intro [] (And.intro (rfl) (And.intro (rfl) (And.intro (rfl) (And.intro (rfl) (And.intro (rfl) (And.intro (rfl) (And.intro (rfl) (hO₆.pick [1, 2, 3] rfl (by decide))))))))))) ?_
    rintro ⟨at_, l, x2⟩ q₂ k₅ ⟨v₅, vs₂, q₂_0, q₂_1, q₂_7, q₂_8, q₂_9, q₂_22, q₂_23, hO₇⟩ o₂ hp
    dsimp only [p_seg_chains.s0] at hp
    refine W_sq ?_
    refine W_rg ?_
    refine WO_v (a_lss (a := x2) (b := (cells.length : Int)) q₂_23 q₂_22) ?_
    refine WO_end ?_
    refine then_n ?_
    refine W_sq ?_
    rcases if_some hp with ⟨b₁, hp⟩ | ⟨b₁, hp⟩
    · refine W_cT (t := (decide (x2 < (cells.length : Int)))) rfl b₁ ?_
      refine W_sk ?_
      refine then_n ?_
      refine W_sq ?_
      refine W_bl ?_
      refine W_sq ?_
      refine W_rg ?_
      refine WO_v (a_mv (v := .i .i64 x2) q₂_23) ?_
      refine WO_v (a_mv (v := .i .i64 x2) rfl) ?_
      refine WO_end ?_
      refine then_n ?_
      refine W_sq ?_
      refine W_sq ?_
      refine W_rg ?_
      refine WO_v (a_mv (v := v₄) q₂_7) ?_
      refine WO_v (a_mv (v := .i .i64 x2) rfl) ?_
      obtain ⟨c₁, hp⟩ := ck_some hp
      refine WO_v (a_ixa (E := eInt) (z := x2) (hO₇.sl 0 rfl : Sl eInt k₅ v₄ at_) rfl rfl c₁) ?_
      refine WO_v (a_ldE (w := .i .i64 (gi at_ (x2 : Int).toNat)) (hO₇.sl 0 rfl : Sl eInt k₅ v₄ at_) rfl (toNat_lt c₁) rfl) ?_
      refine WO_v (a_geq (a := (gi at_ (x2 : Int).toNat)) (b := 0) rfl rfl) ?_
      refine WO_end ?_
      refine then_n ?_
      rcases if_some hp with ⟨b₂, hp⟩ | ⟨b₂, hp⟩
      · refine W_cT (t := (decide (0 ≤ (gi at_ (x2 : Int).toNat)))) rfl b₂ ?_
        refine W_ex ?_
        refine then_e ?_
        refine blk_i ?_
        refine then_n ?_
        refine W_rg ?_
        obtain ⟨c₂, hp⟩ := ck_some hp
        refine WO_v (a_add (a := x2) (b := 1) q₂_23 rfl c₂) ?_
        refine WO_v (a_mv (v := .i .i64 (x2 + 1)) rfl) ?_
        refine WO_end ?_
        have hp := Option.some.inj hp; subst hp
        exact (Or.inl (Exists.intro (at_, l, x2 + 1) (And.intro rfl (And.intro rfl (Exists.intro v₅ (Exists.intro vs₂ (And.intro (q₂_0) (And.intro (q₂_1) (And.intro (q₂_7) (And.intro (q₂_8) (And.intro (q₂_9) (And.intro (q₂_22) (And.intro (rfl) (hO₇.pick [0, 1, 2] rfl (by decide)))))))))))))))
      · refine W_cF (t := (decide (0 ≤ (gi at_ (x2 : Int).toNat)))) rfl b₂ ?_
        refine W_sk ?_
        refine then_n ?_
        refine W_sq ?_
        refine W_rg ?_
        refine WO_v (a_mv (v := .i .i64 x2) rfl) ?_
        refine WO_v (a_mv (v := .i .i64 x2) rfl) ?_
        refine WO_end ?_
        refine then_n ?_
        refine W_sq ?_
        refine W_sq ?_
        refine W_rg ?_
        refine WO_v (a_mv (v := .i .i64 0) rfl) ?_
        refine WO_end ?_
        refine then_n ?_
        refine W_bl ?_
        obtain ⟨o₃, ho₂, hp⟩ := bd_some hp
        refine W.mono (Q := fun e fr k => match (generalizing := false) o₃ with
            | .inl first1 => e = (.exit 2) ∧ fr 0 = v_cells ∧ fr 1 = .i .i64 d ∧ fr 7 = v₄ ∧ fr 8 = .i .i64 x1 ∧ fr 9 = v₅ ∧ fr 11 = .i .i64 first1 ∧ fr 22 = .i .i64 (cells.length : Int) ∧ fr 23 = .i .i64 x2 ∧ Own B h k [eSl eInt v₄ at_, eSl eV v₅ vs₂, eAll eInt vs₂ l]
            | .inr _ => e = .ret ∧ fr 4 = .sn ∧ fr 5 = .sn ∧ fr 6 = .b false ∧ Own B h k []) ?_ ?_
        · clear hp
          refine W_loopF (fun st fr k => match st with | (first, n) => fr 0 = v_cells ∧ fr 1 = .i .i64 d ∧ fr 7 = v₄ ∧ fr 8 = .i .i64 x1 ∧ fr 9 = v₅ ∧ fr 11 = .i .i64 first ∧ fr 12 = .i .i64 n ∧ fr 22 = .i .i64 (cells.length : Int) ∧ fr 23 = .i .i64 x2 ∧ Own B h k [eSl eInt v₄ at_, eSl eV v₅ vs₂, eAll eInt vs₂ l]) ho₂ (s := (x2, 0)) (And.intro (q₂_0) (And.intro (q₂_1) (And.intro (q₂_7) (And.intro (q₂_8) (And.intro (q₂_9) (And.intro (rfl) (And.intro (rfl) (And.intro (q₂_22) (And.intro (q₂_23) (hO₇.pick [0, 1, 2] rfl (by decide))))))))))) ?_
          rintro ⟨first, n⟩ q₄ k₇ ⟨q₄_0, q₄_1, q₄_7, q₄_8, q₄_9, q₄_11, q₄_12, q₄_22, q₄_23, hO₉⟩ o₄ hp
          dsimp only [p_seg_chains.s1] at hp
          refine W_sq ?_
          refine W_sq ?_
          refine W_rg ?_
          refine WO_v (a_mv (v := v_cells) q₄_0) ?_
          refine WO_v (a_mv (v := .i .i64 first) q₄_11) ?_
          refine WO_v (a_mv (v := .i .i64 x1) q₄_8) ?_
          obtain ⟨c₃, hp⟩ := ck_some hp
          refine WO_v (a_ixa (E := e_T_api_Cell) (z := first) (hO₉.rd0 s_cells.rd : Sl e_T_api_Cell k₇ v_cells cells) rfl rfl c₃) ?_
          refine WO_v (a_faE (off' := 0) (off2 := 0) (hO₉.rd0 s_cells.rd : Sl e_T_api_Cell k₇ v_cells cells) (toNat_lt c₃) rfl rfl) ?_
          obtain ⟨c₄, hp⟩ := ck_some hp
          refine WO_v (a_ixaaE (off := 0) (off2 := (0 + (x1 : Int).toNat * 1)) (z := x1) (hO₉.rd0 s_cells.rd : Sl e_T_api_Cell k₇ v_cells cells) (toNat_lt c₃) rfl rfl c₄ rfl) ?_
          refine WO_v (a_ldE (w := .i .i64 (((gi cells (first : Int).toNat).Next).get x1)) (hO₉.rd0 s_cells.rd : Sl e_T_api_Cell k₇ v_cells cells) rfl (toNat_lt c₃) (ld_T_api_Cell_Next c₄)) ?_
          refine WO_v (a_geq (a := (((gi cells (first : Int).toNat).Next).get x1)) (b := 0) rfl rfl) ?_
          refine WO_end ?_
          refine then_n ?_
          rcases if_some hp with ⟨b₃, hp⟩ | ⟨b₃, hp⟩
          · refine W_cT (t := (decide (0 ≤ (((gi cells (first : Int).toNat).Next).get x1)))) rfl b₃ ?_
            refine W_sk ?_
            refine then_n ?_
            refine W_sq ?_
            refine W_bl ?_
            refine W_sq ?_
            refine W_sq ?_
            refine W_rg ?_
            refine WO_v (a_mv (v := .i .i64 n) q₄_12) ?_
            refine WO_v (a_mv (v := v_cells) q₄_0) ?_
            refine WO_v (a_len (hO₉.rd0 s_cells.rd : Sl e_T_api_Cell k₇ v_cells cells) rfl) ?_
            refine WO_v (a_eqI (a := n) (b := (cells.length : Int)) rfl rfl) ?_
            refine WO_end ?_
            refine then_n ?_
            rcases if_some hp with ⟨b₄, hp⟩ | ⟨b₄, hp⟩
            · refine W_cT (t := (decide (n = (cells.length : Int)))) rfl b₄ ?_
              refine W_sq ?_
              refine W_rg ?_
              refine WO_v (a_mv (v := .sn) rfl) ?_
              refine WO_v (a_mv (v := .sn) rfl) ?_
              refine WO_v (a_mv (v := .b false) rfl) ?_
              refine WO_end ?_
              refine then_n ?_
              refine W_rt ?_
              refine then_r ?_
              refine blk_r ?_
              refine then_r ?_
              have hp := Option.some.inj hp; subst hp
              refine (Or.inr (Exists.intro (.inr ()) (And.intro rfl (And.intro (fun h => nomatch h) (fun he => ?_)))))
              subst he; exact (And.intro rfl (And.intro (rfl) (And.intro (rfl) (And.intro (rfl) (hO₉.pick [] rfl (by decide))))))
            · refine W_cF (t := (decide (n = (cells.length : Int)))) rfl b₄ ?_
              refine W_sk ?_
              refine then_n ?_
              refine W_rg ?_
              refine WO_v (a_mv (v := v_cells) q₄_0) ?_
              refine WO_v (a_mv (v := .i .i64 first) q₄_11) ?_
              refine WO_v (a_mv (v := .i .i64 x1) q₄_8) ?_
              refine WO_v (a_ixa (E := e_T_api_Cell) (z := first) (hO₉.rd0 s_cells.rd : Sl e_T_api_Cell k₇ v_cells cells) rfl rfl c₃) ?_
              refine WO_v (a_faE (off' := 0) (off2 := 0) (hO₉.rd0 s_cells.rd : Sl e_T_api_Cell k₇ v_cells cells) (toNat_lt c₃) rfl rfl) ?_
              refine WO_v (a_ixaaE (off := 0) (off2 := (0 + (x1 : Int).toNat * 1)) (z := x1) (hO₉.rd0 s_cells.rd : Sl e_T_api_Cell k₇ v_cells cells) (toNat_lt c₃) rfl rfl c₄ rfl) ?_
              refine WO_v (a_ldE (w := .i .i64 (((gi cells (first : Int).toNat).Next).get x1)) (hO₉.rd0 s_cells.rd : Sl e_T_api_Cell k₇ v_cells cells) rfl (toNat_lt c₃) (ld_T_api_Cell_Next c₄)) ?_
              refine WO_v (a_mv (v := .i .i64 (((gi cells (first : Int).toNat).Next).get x1)) rfl) ?_
              refine WO_end ?_
              refine blk_n ?_
              refine then_n ?_
              refine W_rg ?_
              refine WO_v (a_mv (v := .i .i64 n) q₄_12) ?_
              obtain ⟨c₅, hp⟩ := ck_some hp
              refine WO_v (a_add (a := n) (b := 1) rfl rfl c₅) ?_
              refine WO_v (a_mv (v := .i .i64 (n + 1)) rfl) ?_
              refine WO_end ?_
              have hp := Option.some.inj hp; subst hp
              exact (Or.inl (Exists.intro (((gi cells (first : Int).toNat).Next).get x1, n + 1) (And.intro rfl (And.intro rfl (And.intro (q₄_0) (And.intro (q₄_1) (And.intro (q₄_7) (And.intro (q₄_8) (And.intro (q₄_9) (And.intro (rfl) (And.intro (rfl) (And.intro (q₄_22) (And.intro (q₄_23) (hO₉.pick [0, 1, 2] rfl (by decide)))))))))))))))
          · refine W_cF (t := (decide (0 ≤ (((gi cells (first : Int).toNat).Next).get x1)))) rfl b₃ ?_
            refine W_ex ?_
            refine then_e ?_
            have hp := Option.some.inj hp; subst hp
            refine (Or.inr (Exists.intro (.inl first) (And.intro rfl (And.intro (fun h => nomatch h) (fun he => ?_)))))
            subst he; exact (And.intro rfl (And.intro (q₄_0) (And.intro (q₄_1) (And.intro (q₄_7) (And.intro (q₄_8) (And.intro (q₄_9) (And.intro (q₄_11) (And.intro (q₄_22) (And.intro (q₄_23) (hO₉.pick [0, 1, 2] rfl (by decide)))))))))))
        intro e₂ q₃ k₆ hJ₂
        rcases o₃ with first1 | _
        · obtain ⟨rfl, q₃_0, q₃_1, q₃_7, q₃_8, q₃_9, q₃_11, q₃_22, q₃_23, hO₈⟩ := hJ₂
          refine blk_i ?_
          refine then_n ?_
          refine W_sq ?_
          refine W_rg ?_
          refine WO_v (a_mv (v := .sn) rfl) ?_
          refine WO_end ?_
          refine then_n ?_
          refine W_sq ?_
          refine W_sq ?_
          refine W_rg ?_
          refine WO_v (a_mv (v := .i .i64 first1) q₃_11) ?_
          refine WO_v (a_mv (v := .i .i64 first1) rfl) ?_
          refine WO_end ?_
          refine then_n ?_
          refine W_bl ?_
          obtain ⟨o₅, ho₃, hp⟩ := bd_some hp
          refine W.mono (Q := fun e fr k => match (generalizing := false) o₅ with
              | (at_3, chain1) => e = (.exit 4) ∧ ∃ (v₈ : V), fr 0 = v_cells ∧ fr 1 = .i .i64 d ∧ fr 7 = v₄ ∧ fr 8 = .i .i64 x1 ∧ fr 9 = v₅ ∧ fr 13 = v₈ ∧ fr 22 = .i .i64 (cells.length : Int) ∧ fr 23 = .i .i64 x2 ∧ Own B h k [eSl eInt v₄ at_3, eSl eV v₅ vs₂, eAll eInt vs₂ l, eSl eInt v₈ chain1]) ?_ ?_
          · clear hp
            have hO₁₁ : Own B h k₆ [eSl eInt v₄ at_, eSl eV v₅ vs₂, eAll eInt vs₂ l, eSl eInt .sn ([] : List Int)] := hO₈.nil eInt
            refine W_loopF (fun st fr k => match st with | (at_2, chain, w) => ∃ (v₇ : V), fr 0 = v_cells ∧ fr 1 = .i .i64 d ∧ fr 7 = v₄ ∧ fr 8 = .i .i64 x1 ∧ fr 9 = v₅ ∧ fr 13 = v₇ ∧ fr 14 = .i .i64 w ∧ fr 22 = .i .i64 (cells.length : Int) ∧ fr 23 = .i .i64 x2 ∧ Own B h k [eSl eInt v₄ at_2, eSl eV v₅ vs₂, eAll eInt vs₂ l, eSl eInt v₇ chain]) ho₃ (s := (at_, ([] : List Int), first1)) (Exists.intro V.sn (And.intro (q₃_0) (And.intro (q₃_1) (And.intro (q₃_7) (And.intro (q₃_8) (And.intro (q₃_9) (And.intro (rfl) (And.intro (rfl) (And.intro (q₃_22) (And.intro (q₃_23) (hO₁₁.pick [0, 1, 2, 3] rfl (by decide)))))))))))) ?_
            rintro ⟨at_2, chain, w⟩ q₆ k₉ ⟨v₇, q₆_0, q₆_1, q₆_7, q₆_8, q₆_9, q₆_13, q₆_14, q₆_22, q₆_23, hO₁₂⟩ o₆ hp
            dsimp only [p_seg_chains.s2] at hp
            refine W_sq ?_
            refine W_sq ?_
            refine W_rg ?_
            refine WO_v (a_mv (v := .i .i64 w) q₆_14) ?_
            refine WO_v (a_geq (a := w) (b := 0) rfl rfl) ?_
            refine WO_end ?_
            refine then_n ?_
            rcases if_some hp with ⟨b₅, hp⟩ | ⟨b₅, hp⟩
            · refine W_cT (t := (decide (0 ≤ w))) rfl b₅ ?_
              refine W_sk ?_
              refine then_n ?_
              refine W_sq ?_
              refine W_bl ?_
              refine W_sq ?_
              refine W_rg ?_
              refine WO_v (a_mv (v := v₄) q₆_7) ?_
              refine WO_v (a_mv (v := .i .i64 w) q₆_14) ?_
              refine WO_v (a_mv (v := v₅) q₆_9) ?_
              refine WO_v (a_lenN (n := (l).length) (hO₁₂.sl 1 rfl : Sl eV k₉ v₅ vs₂) (hO₁₂.allLen 2 rfl : (vs₂).length = (l).length) rfl) ?_
              obtain ⟨c₆, hp⟩ := ck_some hp
              refine WO_v (a_ixa (E := eInt) (z := w) (hO₁₂.sl 0 rfl : Sl eInt k₉ v₄ at_2) rfl rfl c₆) ?_
              refine WO_x (hO₁₂.ste (E := eInt) (y := (l.length : Int)) (ws := [.i .i64 (l.length : Int)]) 0 rfl rfl (toNat_lt c₆) rfl rfl ⟨rfl, Nat.le_of_ble_eq_true rfl, rfl⟩ rfl) ?_
              rintro _ k₁₀ ⟨rfl, f₂, m₁, hW⟩
              have hO₁₃ : Own B h k₁₀ [eSl eInt v₄ (at_2.set (w : Int).toNat (l.length : Int)), eSl eV v₅ vs₂, eAll eInt vs₂ l, eSl eInt v₇ chain] := hW
              refine WO_end ?_
              refine then_n ?_
              refine W_rg ?_
              refine WO_v (a_mv (v := v₇) q₆_13) ?_
              refine WO_v (a_mv (v := .i .i64 w) q₆_14) ?_
              refine WO_x (hO₁₃.bsl (E := eInt) (l := [w]) hO₁₃.fr (by rw [(ev_cons (v := .i .i64 w) rfl ev_nil)]; rfl) rfl) ?_
              rintro v₉ k₁₁ ⟨r₂, f₃, hW⟩
              have hO₁₄ : Own B h k₁₁ [eSl eInt v₄ (at_2.set (w : Int).toNat (l.length : Int)), eSl eV v₅ vs₂, eAll eInt vs₂ l, eSl eInt v₇ chain, eSl eInt v₉ [w]] := hW
              obtain ⟨c₇, hp⟩ := ck_some hp
              refine WO_x (hO₁₄.app (E := eInt) (bytes := 8) 3 hO₁₄.fr rfl (hO₁₄.sl 4 rfl : Sl eInt k₁₁ v₉ [w]) rfl rfl (fun _ => rfl) c₇ (by decide)) ?_
              rintro v₁₀ k₁₂ ⟨f₄, hW⟩
              have hO₁₅ : Own B h k₁₂ [eSl eInt v₄ (at_2.set (w : Int).toNat (l.length : Int)), eSl eV v₅ vs₂, eAll eInt vs₂ l, eSl eInt v₁₀ (chain ++ [w]), eSl eInt v₉ [w]] := hW
              refine WO_v (a_mv (v := v₁₀) rfl) ?_
              refine WO_end ?_
              refine blk_n ?_
              refine then_n ?_
              refine W_rg ?_
              refine WO_v (a_mv (v := v_cells) q₆_0) ?_
              refine WO_v (a_mv (v := .i .i64 w) q₆_14) ?_
              refine WO_v (a_mv (v := .i .i64 d) q₆_1) ?_
              obtain ⟨c₈, hp⟩ := ck_some hp
              refine WO_v (a_ixa (E := e_T_api_Cell) (z := w) (hO₁₅.rd0 s_cells.rd : Sl e_T_api_Cell k₁₂ v_cells cells) rfl rfl c₈) ?_
              refine WO_v (a_faE (off' := 0) (off2 := 0) (hO₁₅.rd0 s_cells.rd : Sl e_T_api_Cell k₁₂ v_cells cells) (toNat_lt c₈) rfl rfl) ?_
              obtain ⟨c₉, hp⟩ := ck_some hp
              refine WO_v (a_ixaaE (off := 0) (off2 := (0 + (d : Int).toNat * 1)) (z := d) (hO₁₅.rd0 s_cells.rd : Sl e_T_api_Cell k₁₂ v_cells cells) (toNat_lt c₈) rfl rfl c₉ rfl) ?_
              refine WO_v (a_ldE (w := .i .i64 (((gi cells (w : Int).toNat).Next).get d)) (hO₁₅.rd0 s_cells.rd : Sl e_T_api_Cell k₁₂ v_cells cells) rfl (toNat_lt c₈) (ld_T_api_Cell_Next c₉)) ?_
              refine WO_v (a_mv (v := .i .i64 (((gi cells (w : Int).toNat).Next).get d)) rfl) ?_
              refine WO_end ?_
              have hp := Option.some.inj hp; subst hp
              exact (Or.inl (Exists.intro (at_2.set (w : Int).toNat (l.length : Int), chain ++ [w], ((gi cells (w : Int).toNat).Next).get d) (And.intro rfl (And.intro rfl (Exists.intro v₁₀ (And.intro (q₆_0) (And.intro (q₆_1) (And.intro (q₆_7) (And.intro (q₆_8) (And.intro (q₆_9) (And.intro (rfl) (And.intro (rfl) (And.intro (q₆_22) (And.intro (q₆_23) (hO₁₅.pick [0, 1, 2, 3] rfl (by decide))))))))))))))))
            · refine W_cF (t := (decide (0 ≤ w))) rfl b₅ ?_
              refine W_ex ?_
              refine then_e ?_
              have hp := Option.some.inj hp; subst hp
              refine (Or.inr (Exists.intro (at_2, chain) (And.intro rfl (And.intro (fun h => nomatch h) (fun he => ?_)))))
              subst he; exact (And.intro rfl (Exists.intro v₇ (And.intro (q₆_0) (And.intro (q₆_1) (And.intro (q₆_7) (And.intro (q₆_8) (And.intro (q₆_9) (And.intro (q₆_13) (And.intro (q₆_22) (And.intro (q₆_23) (hO₁₂.pick [0, 1, 2, 3] rfl (by decide))))))))))))
          intro e₃ q₅ k₈ hJ₃
          obtain ⟨at_3, chain1⟩ := o₅
          obtain ⟨rfl, v₈, q₅_0, q₅_1, q₅_7, q₅_8, q₅_9, q₅_13, q₅_22, q₅_23, hO₁₀⟩ := hJ₃
          refine blk_i ?_
          refine then_n ?_
          refine W_rg ?_
          refine WO_v (a_mv (v := v₅) q₅_9) ?_
          refine WO_v (a_mv (v := v₈) q₅_13) ?_
          refine WO_x (hO₁₀.bsl (E := eV) (l := [v₈]) hO₁₀.fr (by rw [(ev_cons (v := v₈) rfl ev_nil)]; simp [fill, over, (hO₁₀.sl 3 rfl : Sl eInt k₈ v₈ chain1).cells]) rfl) ?_
          rintro v₁₁ k₁₃ ⟨r₃, f₅, hW⟩
          have hO₁₆ : Own B h k₁₃ [eSl eInt v₄ at_3, eSl eV v₅ vs₂, eAll eInt vs₂ l, eSl eInt v₈ chain1, eSl eV v₁₁ [v₈]] := hW
          obtain ⟨c₁₀, hp⟩ := ck_some hp
          refine WO_x (hO₁₆.appV (bytes := 24) 1 hO₁₆.fr rfl (hO₁₆.sl 4 rfl : Sl eV k₁₃ v₁₁ [v₈]) rfl rfl (by simp only [List.all_cons, List.all_nil, Bool.and_true]; exact (hO₁₆.sl 3 rfl : Sl eInt k₁₃ v₈ chain1).oneV) (by rw [(hO₁₆.allLen 2 rfl : (vs₂).length = (l).length)]; exact c₁₀) (by decide)) ?_
          rintro v₁₂ k₁₄ ⟨f₆, hW⟩
          have hO₁₇ : Own B h k₁₄ [eSl eInt v₄ at_3, eSl eV v₁₂ (vs₂ ++ [v₈]), eAll eInt vs₂ l, eSl eInt v₈ chain1, eSl eV v₁₁ [v₈]] := hW
          have hO₁₈ : Own B h k₁₄ [eSl eInt v₄ at_3, eSl eV v₁₂ (vs₂ ++ [v₈]), eAll eInt (vs₂ ++ [v₈]) (l ++ [chain1]), eNone, eSl eV v₁₁ [v₈]] := hO₁₇.absorb 2 3 rfl rfl (by decide)
          refine WO_v (a_mv (v := v₁₂) rfl) ?_
          refine WO_end ?_
          refine blk_n ?_
          refine then_n ?_
          refine W_rg ?_
          obtain ⟨c₁₁, hp⟩ := ck_some hp
          refine WO_v (a_add (a := x2) (b := 1) q₅_23 rfl c₁₁) ?_
          refine WO_v (a_mv (v := .i .i64 (x2 + 1)) rfl) ?_
          refine WO_end ?_
          have hp := Option.some.inj hp; subst hp
          exact (Or.inl (Exists.intro (at_3, l ++ [chain1], x2 + 1) (And.intro rfl (And.intro rfl (Exists.intro v₁₂ (Exists.intro (vs₂ ++ [v₈]) (And.intro (q₅_0) (And.intro (q₅_1) (And.intro (q₅_7) (And.intro (q₅_8) (And.intro (rfl) (And.intro (q₅_22) (And.intro (rfl) (hO₁₈.pick [0, 1, 2] rfl (by decide)))))))))))))))
        · obtain ⟨rfl, q₃_4, q₃_5, q₃_6, hO₈⟩ := hJ₂
          refine blk_r ?_
          refine then_r ?_
          refine blk_r ?_
          refine then_r ?_
          have hp := Option.some.inj hp; subst hp
          refine (Or.inr (Exists.intro (.inr ()) (And.intro rfl (And.intro (fun h => nomatch h) (fun he => ?_)))))
          subst he; exact (And.intro rfl (And.intro (q₃_4) (And.intro (q₃_5) (And.intro (q₃_6) (hO₈.pick [] rfl (by decide))))))
    · refine W_cF (t := (decide (x2 < (cells.length : Int)))) rfl b₁ ?_
      refine W_ex ?_
      refine then_e ?_
      have hp := Option.some.inj hp; subst hp
      refine (Or.inr (Exists.intro (.inl (at_, l)) (And.intro rfl (And.intro (fun h => nomatch h) (fun he => ?_)))))
      subst he; exact (And.intro rfl (Exists.intro v₅ (Exists.intro vs₂ (And.intro (q₂_7) (And.intro (q₂_9) (hO₇.pick [0, 1, 2] rfl (by decide)))))))
  intro e₁ q₁ k₄ hJ₁
  rcases o₁ with ⟨at_1, l1⟩ | _
  · obtain ⟨rfl, v₆, vs₃, q₁_7, q₁_9, hO₄⟩ := hJ₁
    refine blk_i ?_
    refine then_n ?_
    refine W_sq ?_
    refine W_rg ?_
    refine WO_v (a_mv (v := v₄) q₁_7) ?_
    refine WO_v (a_mv (v := v₆) q₁_9) ?_
    refine WO_v (a_mv (v := v₄) rfl) ?_
    refine WO_v (a_mv (v := v₆) rfl) ?_
    refine WO_v (a_mv (v := .b true) rfl) ?_
    refine WO_end ?_
    refine then_n ?_
    refine W_rt ?_
    refine Ret_r (rs_t (n := 4) (v := v₄) rfl (rs_t (n := 5) (v := v₆) rfl (rs_t (n := 6) (v := .b true) rfl rs_nil))) ?_
    have hp := Option.some.inj hp; subst hp
    exact (Exists.intro v₄ (Exists.intro v₆ (Exists.intro vs₃ (And.intro rfl (hO₄.pick [0, 1, 2] rfl (by decide))))))
  · obtain ⟨rfl, q₁_4, q₁_5, q₁_6, hO₄⟩ := hJ₁
    refine blk_r ?_
    refine then_r ?_
    have hO₁₉ : Own B h k₄ [eSl eInt .sn ([] : List Int)] := hO₄.nil eInt
    have hO₂₀ : Own B h k₄ [eSl eInt .sn ([] : List Int), eSl eV .sn []] := hO₁₉.nil eV
    have hO₂₁ : Own B h k₄ [eSl eInt .sn ([] : List Int), eSl eV .sn [], eAll eInt [] []] := hO₂₀.allNil eInt 0
    refine Ret_r (rs_t (n := 4) (v := .sn) q₁_4 (rs_t (n := 5) (v := .sn) q₁_5 (rs_t (n := 6) (v := .b false) q₁_6 rs_nil))) ?_
    have hp := Option.some.inj hp; subst hp
    exact (Exists.intro V.sn (Exists.intro V.sn (Exists.intro [] (And.intro rfl (hO₂₁.pick [0, 1, 2] rfl (by decide))))))

theorem p_seg_Of.ok {h : Hp} {cells : List T_api_Cell} {v_cells : V} (s_cells : Sl e_T_api_Cell h v_cells cells) {r : T_seg_Chains × Int} (hp : p_seg_Of cells = some r) :
    ∃ u k', Is G 120 [v_cells] h u k' ∧ ∃ (v₁ : V), ∃ (v₂ : V), ∃ (v₃ : V), ∃ (vs₁ : List V), ∃ (v₄ : V), ∃ (vs₂ : List V), V.tu [.ag [v₁, v₂, v₃, v₄], .i .i64 r.2] = u ∧ Own (fun r => r < h.n) h k' [eSl eInt v₁ r.1.X, eSl eInt v₂ r.1.Y, eSl eV v₃ vs₁, eAll eInt vs₁ r.1.Vert, eSl eV v₄ vs₂, eAll eInt vs₂ r.1.Horz] := by
  refine WC.is (WC_of G_F_seg_Of ?_)
  unfold p_seg_Of at hp
  let B : Nat → Prop := (fun r => r < h.n)
  have hO : Own B h h [] := Own.start0 h
  refine W_sq ?_
  refine W_rg ?_
  refine WO_x (hO.alloc (cs := [.sn, .sn, .sn, .sn]) hO.fr) ?_
  rintro _ k₁ ⟨r₁, rfl, n₁, f₁, hW⟩
  have hO₁ : Own B h k₁ [eBox r₁ [.sn, .sn, .sn, .sn]] := hW
  refine WO_v (a_mv (v := .i .i64 0) rfl) ?_
  refine WO_end ?_
  refine then_n ?_
  refine W_sq ?_
  refine W_sq ?_
  refine W_rg ?_
  refine WO_v (a_mv (v := v_cells) rfl) ?_
  obtain ⟨x, hx₁, hp⟩ := bd_some hp
  obtain ⟨u₁, k₂, ca₁, rfl, hW₁⟩ := p_grid_Check.ok (h := k₁)  (hO₁.rd0 s_cells.rd : Sl e_T_api_Cell k₁ v_cells cells) hx₁
  refine WO_c (id := 66) (caps := []) rfl (mp_cons (v := v_cells) rfl mp_nil) ca₁ ?_
  have hO₂ : Own B h k₂ [eBox r₁ [.sn, .sn, .sn, .sn]] := hO₁.call hW₁ rfl
  refine WO_v (a_mv (v := .i .i64 x) rfl) ?_
  refine WO_end ?_
  refine then_n ?_
  refine W_sq ?_
  refine W_rg ?_
  refine WO_v (a_mv (v := .i .i64 x) rfl) ?_
  refine WO_v (a_neI (a := x) (b := 0) rfl rfl) ?_
  refine WO_end ?_
  refine then_n ?_
  rcases if_some hp with ⟨b₁, hp⟩ | ⟨b₁, hp⟩
  · refine W_cT (t := (!(decide (x = 0)))) rfl b₁ ?_
    refine W_sq ?_
    refine W_rg ?_
    refine WO_v (a_build (cs := [.sn, .sn, .sn, .sn]) (by rw [ev_nil]; simp [fill, over, cells_i, cells_b, cells_f, cells_p, cells_a, cells_n, (Sl.nil : Sl eInt k₂ .sn ([] : List Int)).cells, (Sl.nil : Sl eInt k₂ .sn ([] : List Int)).cells, (Sl.nil : Sl eV k₂ .sn []).cells, (Sl.nil : Sl eV k₂ .sn []).cells])) ?_
    refine WO_v (a_mv (v := .i .i64 x) rfl) ?_
    refine WO_x (hO₂.stb (ws := [.sn, .sn, .sn, .sn]) (cs' := [.sn, .sn, .sn, .sn]) (v := .ag [.sn, .sn, .sn, .sn]) 0 rfl rfl rfl rfl ⟨rfl, Nat.le_of_ble_eq_true rfl, (all_cons (Sl.nil : Sl eInt k₂ .sn ([] : List Int)).oneV (all_cons (Sl.nil : Sl eInt k₂ .sn ([] : List Int)).oneV (all_cons (Sl.nil : Sl eV k₂ .sn []).oneV (all_cons (Sl.nil : Sl eV k₂ .sn []).oneV all_nil))))⟩ rfl) ?_
    rintro _ k₃ ⟨rfl, f₂, m₁, hW⟩
    have hO₃ : Own B h k₃ [eBox r₁ [.sn, .sn, .sn, .sn]] := hW
    refine WO_v (a_mv (v := .i .i64 x) rfl) ?_
    refine WO_end ?_
    refine then_n ?_
    refine W_rt ?_
    refine then_r ?_
    have hO₄ : Own B h k₃ [eBox r₁ [.sn, .sn, .sn, .sn], eSl eInt .sn ([] : List Int)] := hO₃.nil eInt
    have hO₅ : Own B h k₃ [eBox r₁ [.sn, .sn, .sn, .sn], eSl eInt .sn ([] : List Int), eSl eInt .sn ([] : List Int)] := hO₄.nil eInt
    have hO₆ : Own B h k₃ [eBox r₁ [.sn, .sn, .sn, .sn], eSl eInt .sn ([] : List Int), eSl eInt .sn ([] : List Int), eSl eV .sn []] := hO₅.nil eV
    have hO₇ : Own B h k₃ [eBox r₁ [.sn, .sn, .sn, .sn], eSl eInt .sn ([] : List Int), eSl eInt .sn ([] : List Int), eSl eV .sn [], eAll eInt [] []] := hO₆.allNil eInt 0
    have hO₈ : Own B h k₃ [eBox r₁ [.sn, .sn, .sn, .sn], eSl eInt .sn ([] : List Int), eSl eInt .sn ([] : List Int), eSl eV .sn [], eAll eInt [] [], eSl eV .sn []] := hO₇.nil eV
    have hO₉ : Own B h k₃ [eBox r₁ [.sn, .sn, .sn, .sn], eSl eInt .sn ([] : List Int), eSl eInt .sn ([] : List Int), eSl eV .sn [], eAll eInt [] [], eSl eV .sn [], eAll eInt [] []] := hO₈.allNil eInt 0
    refine Ret_r (rs_c (n := 2) (v := .ag [.sn, .sn, .sn, .sn]) (r := r₁) rfl (hO₉.box 0 rfl) rfl (rs_t (n := 3) (v := .i .i64 x) rfl rs_nil)) ?_
    have hp := Option.some.inj hp; subst hp
    exact (Exists.intro V.sn (Exists.intro V.sn (Exists.intro V.sn (Exists.intro [] (Exists.intro V.sn (Exists.intro [] (And.intro rfl (hO₉.pick [1, 2, 3, 4, 5, 6] rfl (by decide)))))))))
  · refine W_cF (t := (!(decide (x = 0)))) rfl b₁ ?_
    refine W_sk ?_
    refine then_n ?_
    refine W_sq ?_
    refine W_rg ?_
    refine WO_v (a_mv (v := v_cells) rfl) ?_
    obtain ⟨⟨x1, x2, x3⟩, hx₂, hp⟩ := bd_some hp
    obtain ⟨u₂, k₄, ca₂, v₅, v₆, vs₃, rfl, hW₂⟩ := p_seg_chains.ok (h := k₂)  (hO₂.rd0 s_cells.rd : Sl e_T_api_Cell k₂ v_cells cells) hx₂
    refine WO_c (id := 137) (caps := []) rfl (mp_cons (v := v_cells) rfl (mp_cons (v := .i .i64 1) rfl mp_nil)) ca₂ ?_
    have hO₁₀ : Own B h k₄ [eBox r₁ [.sn, .sn, .sn, .sn], eSl eInt v₅ x1, eSl eV v₆ vs₃, eAll eInt vs₃ x2] := hO₂.call hW₂ rfl
    refine WO_v (a_mv (v := .tu [v₅, v₆, .b x3]) rfl) ?_
    refine WO_v (a_ext (vs := [v₅, v₆, .b x3]) (v := v₅) rfl rfl) ?_
    refine WO_v (a_ext (vs := [v₅, v₆, .b x3]) (v := v₆) rfl rfl) ?_
    refine WO_v (a_ext (vs := [v₅, v₆, .b x3]) (v := .b x3) rfl rfl) ?_
    refine WO_v (a_mv (v := v₅) rfl) ?_
    refine WO_v (a_mv (v := v₆) rfl) ?_
    refine WO_v (a_mv (v := .b x3) rfl) ?_
    refine WO_end ?_
    refine then_n ?_
    refine W_sq ?_
    refine W_rg ?_
    refine WO_v (a_mv (v := v_cells) rfl) ?_
    obtain ⟨⟨x4, x5, x6⟩, hx₃, hp⟩ := bd_some hp
    obtain ⟨u₃, k₅, ca₃, v₇, v₈, vs₄, rfl, hW₃⟩ := p_seg_chains.ok (h := k₄)  (hO₁₀.rd0 s_cells.rd : Sl e_T_api_Cell k₄ v_cells cells) hx₃
    refine WO_c (id := 137) (caps := []) rfl (mp_cons (v := v_cells) rfl (mp_cons (v := .i .i64 0) rfl mp_nil)) ca₃ ?_
    have hO₁₁ : Own B h k₅ [eBox r₁ [.sn, .sn, .sn, .sn], eSl eInt v₅ x1, eSl eV v₆ vs₃, eAll eInt vs₃ x2, eSl eInt v₇ x4, eSl eV v₈ vs₄, eAll eInt vs₄ x5] := hO₁₀.call hW₃ rfl
    refine WO_v (a_mv (v := .tu [v₇, v₈, .b x6]) rfl) ?_
    refine WO_v (a_ext (vs := [v₇, v₈, .b x6]) (v := v₇) rfl rfl) ?_
    refine WO_v (a_ext (vs := [v₇, v₈, .b x6]) (v := v₈) rfl rfl) ?_
    refine WO_v (a_ext (vs := [v₇, v₈, .b x6]) (v := .b x6) rfl rfl) ?_
    refine WO_v (a_mv (v := v₇) rfl) ?_
    refine WO_v (a_mv (v := v₈) rfl) ?_
    refine WO_v (a_mv (v := .b x6) rfl) ?_
    refine WO_end ?_
    refine then_n ?_
    refine W_sq ?_
    refine W_sq ?_
    refine W_rg ?_
    refine WO_v (a_mv (v := .b x3) rfl) ?_
    refine WO_v (a_not (t := x3) rfl) ?_
    refine WO_v (a_mv (v := .b (!x3)) rfl) ?_
    refine WO_cut 3 (fun fr' k' => k₅ = k' ∧ fr' 34 = .b ((!x3) || (!x6)) ∧ fr' 2 = .p r₁ 0 ∧ fr' 5 = v₅ ∧ fr' 6 = v₆ ∧ fr' 8 = v₇ ∧ fr' 9 = v₈) ?_ ?_
    · rcases bc (!x3) with b₂ | b₂
      · skip
        refine WO_off rfl b₂ ?_
        refine WO_off rfl b₂ ?_
        refine WO_v (a_pickT (t := (!x3)) (v := .b ((!x3) || (!x6))) rfl b₂ (Eq.trans (b := V.b true) rfl (or_off b₂))) ?_
        refine WO_end ?_
        exact ⟨rfl, rfl, rfl, rfl, rfl, rfl, rfl⟩
      · skip
        refine WO_on rfl b₂ ?_
        refine WO_v (a_mv (v := .b x6) rfl) ?_
        refine WO_on rfl b₂ ?_
        refine WO_v (a_not (t := x6) rfl) ?_
        refine WO_v (a_pickF (t := (!x3)) (v := .b ((!x3) || (!x6))) rfl b₂ (Eq.trans (b := V.b (!x6)) rfl (or_on b₂))) ?_
        refine WO_end ?_
        exact ⟨rfl, rfl, rfl, rfl, rfl, rfl, rfl⟩
    rintro frg₁ _ ⟨rfl, g₁_34, g₁_2, g₁_5, g₁_6, g₁_8, g₁_9⟩
    refine WO_end ?_
    refine then_n ?_
    rcases if_some hp with ⟨b₃, hp⟩ | ⟨b₃, hp⟩
    · refine W_cT (t := ((!x3) || (!x6))) g₁_34 b₃ ?_
      refine W_sq ?_
      refine W_rg ?_
      refine WO_v (a_build (cs := [.sn, .sn, .sn, .sn]) (by rw [ev_nil]; simp [fill, over, cells_i, cells_b, cells_f, cells_p, cells_a, cells_n, (Sl.nil : Sl eInt k₅ .sn ([] : List Int)).cells, (Sl.nil : Sl eInt k₅ .sn ([] : List Int)).cells, (Sl.nil : Sl eV k₅ .sn []).cells, (Sl.nil : Sl eV k₅ .sn []).cells])) ?_
      refine WO_x (hO₁₁.stb (ws := [.sn, .sn, .sn, .sn]) (cs' := [.sn, .sn, .sn, .sn]) (v := .ag [.sn, .sn, .sn, .sn]) 0 rfl g₁_2 rfl rfl ⟨rfl, Nat.le_of_ble_eq_true rfl, (all_cons (Sl.nil : Sl eInt k₅ .sn ([] : List Int)).oneV (all_cons (Sl.nil : Sl eInt k₅ .sn ([] : List Int)).oneV (all_cons (Sl.nil : Sl eV k₅ .sn []).oneV (all_cons (Sl.nil : Sl eV k₅ .sn []).oneV all_nil))))⟩ rfl) ?_
      rintro _ k₆ ⟨rfl, f₃, m₂, hW⟩
      have hO₁₂ : Own B h k₆ [eBox r₁ [.sn, .sn, .sn, .sn], eSl eInt v₅ x1, eSl eV v₆ vs₃, eAll eInt vs₃ x2, eSl eInt v₇ x4, eSl eV v₈ vs₄, eAll eInt vs₄ x5] := hW
      refine WO_v (a_mv (v := .i .i64 10) rfl) ?_
      refine WO_end ?_
      refine then_n ?_
      refine W_rt ?_
      refine then_r ?_
      have hO₁₃ : Own B h k₆ [eBox r₁ [.sn, .sn, .sn, .sn], eSl eInt v₅ x1, eSl eV v₆ vs₃, eAll eInt vs₃ x2, eSl eInt v₇ x4, eSl eV v₈ vs₄, eAll eInt vs₄ x5, eSl eInt .sn ([] : List Int)] := hO₁₂.nil eInt
      have hO₁₄ : Own B h k₆ [eBox r₁ [.sn, .sn, .sn, .sn], eSl eInt v₅ x1, eSl eV v₆ vs₃, eAll eInt vs₃ x2, eSl eInt v₇ x4, eSl eV v₈ vs₄, eAll eInt vs₄ x5, eSl eInt .sn ([] : List Int), eSl eInt .sn ([] : List Int)] := hO₁₃.nil eInt
      have hO₁₅ : Own B h k₆ [eBox r₁ [.sn, .sn, .sn, .sn], eSl eInt v₅ x1, eSl eV v₆ vs₃, eAll eInt vs₃ x2, eSl eInt v₇ x4, eSl eV v₈ vs₄, eAll eInt vs₄ x5, eSl eInt .sn ([] : List Int), eSl eInt .sn ([] : List Int), eSl eV .sn []] := hO₁₄.nil eV
      have hO₁₆ : Own B h k₆ [eBox r₁ [.sn, .sn, .sn, .sn], eSl eInt v₅ x1, eSl eV v₆ vs₃, eAll eInt vs₃ x2, eSl eInt v₇ x4, eSl eV v₈ vs₄, eAll eInt vs₄ x5, eSl eInt .sn ([] : List Int), eSl eInt .sn ([] : List Int), eSl eV .sn [], eAll eInt [] []] := hO₁₅.allNil eInt 0
      have hO₁₇ : Own B h k₆ [eBox r₁ [.sn, .sn, .sn, .sn], eSl eInt v₅ x1, eSl eV v₆ vs₃, eAll eInt vs₃ x2, eSl eInt v₇ x4, eSl eV v₈ vs₄, eAll eInt vs₄ x5, eSl eInt .sn ([] : List Int), eSl eInt .sn ([] : List Int), eSl eV .sn [], eAll eInt [] [], eSl eV .sn []] := hO₁₆.nil eV
      have hO₁₈ : Own B h k₆ [eBox r₁ [.sn, .sn, .sn, .sn], eSl eInt v₅ x1, eSl eV v₆ vs₃, eAll eInt vs₃ x2, eSl eInt v₇ x4, eSl eV v₈ vs₄, eAll eInt vs₄ x5, eSl eInt .sn ([] : List Int), eSl eInt .sn ([] : List Int), eSl eV .sn [], eAll eInt [] [], eSl eV .sn [], eAll eInt [] []] := hO₁₇.allNil eInt 0
      refine Ret_r (rs_c (n := 2) (v := .ag [.sn, .sn, .sn, .sn]) (r := r₁) g₁_2 (hO₁₈.box 0 rfl) rfl (rs_t (n := 3) (v := .i .i64 10) rfl rs_nil)) ?_
      have hp := Option.some.inj hp; subst hp
      exact (Exists.intro V.sn (Exists.intro V.sn (Exists.intro V.sn (Exists.intro [] (Exists.intro V.sn (Exists.intro [] (And.intro rfl (hO₁₈.pick [7, 8, 9, 10, 11, 12] rfl (by decide)))))))))
    · refine W_cF (t := ((!x3) || (!x6))) g₁_34 b₃ ?_
      refine W_sk ?_
      refine then_n ?_
      refine W_sq ?_
      refine W_rg ?_
      refine WO_v (a_mv (v := v₅) g₁_5) ?_
      refine WO_v (a_mv (v := v₇) g₁_8) ?_
      refine WO_v (a_mv (v := v₆) g₁_6) ?_
      refine WO_v (a_mv (v := v₈) g₁_9) ?_
      refine WO_v (a_build (cs := [v₅, v₇, v₆, v₈]) (by rw [(ev_cons (v := v₅) rfl (ev_cons (v := v₇) rfl (ev_cons (v := v₆) rfl (ev_cons (v := v₈) rfl ev_nil))))]; simp [fill, over, cells_i, cells_b, cells_f, cells_p, cells_a, cells_n, (hO₁₁.sl 1 rfl : Sl eInt k₅ v₅ x1).cells, (hO₁₁.sl 4 rfl : Sl eInt k₅ v₇ x4).cells, (hO₁₁.sl 2 rfl : Sl eV k₅ v₆ vs₃).cells, (hO₁₁.sl 5 rfl : Sl eV k₅ v₈ vs₄).cells])) ?_
      refine WO_x (hO₁₁.stb (ws := [v₅, v₇, v₆, v₈]) (cs' := [v₅, v₇, v₆, v₈]) (v := .ag [v₅, v₇, v₆, v₈]) 0 rfl g₁_2 rfl rfl ⟨rfl, Nat.le_of_ble_eq_true rfl, (all_cons (hO₁₁.sl 1 rfl : Sl eInt k₅ v₅ x1).oneV (all_cons (hO₁₁.sl 4 rfl : Sl eInt k₅ v₇ x4).oneV (all_cons (hO₁₁.sl 2 rfl : Sl eV k₅ v₆ vs₃).oneV (all_cons (hO₁₁.sl 5 rfl : Sl eV k₅ v₈ vs₄).oneV all_nil))))⟩ rfl) ?_
      rintro _ k₇ ⟨rfl, f₄, m₃, hW⟩
      have hO₁₉ : Own B h k₇ [eBox r₁ [v₅, v₇, v₆, v₈], eSl eInt v₅ x1, eSl eV v₆ vs₃, eAll eInt vs₃ x2, eSl eInt v₇ x4, eSl eV v₈ vs₄, eAll eInt vs₄ x5] := hW
      refine WO_v (a_mv (v := .i .i64 0) rfl) ?_
      refine WO_end ?_
      refine then_n ?_
      refine W_rt ?_
      refine Ret_r (rs_c (n := 2) (v := .ag [v₅, v₇, v₆, v₈]) (r := r₁) g₁_2 (hO₁₉.box 0 rfl) rfl (rs_t (n := 3) (v := .i .i64 0) rfl rs_nil)) ?_
      have hp := Option.some.inj hp; subst hp
      exact (Exists.intro v₅ (Exists.intro v₇ (Exists.intro v₆ (Exists.intro vs₃ (Exists.intro v₈ (Exists.intro vs₄ (And.intro rfl (hO₁₉.pick [1, 4, 2, 3, 5, 6] rfl (by decide)))))))))

theorem p_arcs_graph.ok {h : Hp} {cells : List T_api_Cell} {d : Int} {of : List Int} {v_cells : V} {v_of : V} (s_cells : Sl e_T_api_Cell h v_cells cells) (s_of : Sl eInt h v_of of) {r : (List T_api_Arc)} (hp : p_arcs_graph cells d of = some r) :
    ∃ u k', Is G 144 [v_cells, .i .i64 d, v_of] h u k' ∧ ∃ (v₁ : V), v₁ = u ∧ Own (fun r => r < h.n) h k' [eSl e_T_api_Arc v₁ r] := by
  refine WC.is (WC_of G_F_arcs_graph ?_)
  unfold p_arcs_graph at hp
  let B : Nat → Prop := (fun r => r < h.n)
  have hO : Own B h h [] := Own.start0 h
  refine W_sq ?_
  refine W_rg ?_
  refine WO_v (a_mv (v := .sn) rfl) ?_
  refine WO_end ?_
  refine then_n ?_
  refine W_sq ?_
  refine W_rg ?_
  refine WO_v (a_mv (v := .sn) rfl) ?_
  refine WO_end ?_
  refine then_n ?_
  refine W_sq ?_
  refine W_sq ?_
  refine W_rg ?_
  refine WO_v (a_mv (v := v_cells) rfl) ?_
  refine WO_v (a_len (hO.rd0 s_cells.rd : Sl e_T_api_Cell h v_cells cells) rfl) ?_
  refine WO_v (a_mv (v := .i .i64 0) rfl) ?_
  refine WO_end ?_
  refine then_n ?_
  refine W_bl ?_
  obtain ⟨o₁, ho₁, hp⟩ := bd_some hp
  refine W.mono (Q := fun e fr k => match (generalizing := false) o₁ with
      | l1 => e = (.exit 0) ∧ ∃ (v₃ : V), fr 7 = v₃ ∧ Own B h k [eSl e_T_api_Arc v₃ l1]) ?_ ?_
  · clear hp
    have hO₂ : Own B h h [eSl e_T_api_Arc .sn ([] : List T_api_Arc)] := hO.nil e_T_api_Arc
    refine W_loopF (fun st fr k => match st with | (l, x) => ∃ (v₂ : V), fr 1 = .i .i64 d ∧ fr 2 = v_of ∧ fr 7 = v₂ ∧ fr 11 = v_cells ∧ fr 12 = .i .i64 (cells.length : Int) ∧ fr 13 = .i .i64 x ∧ Own B h k [eSl e_T_api_Arc v₂ l]) ho₁ (s := (([] : List T_api_Arc), 0)) (Exists.intro V.sn (And.intro (rfl) (And.intro (rfl) (And.intro (rfl) (And.intro (rfl) (And.intro (rfl) (And.intro (rfl) (hO₂.pick [0] rfl (by decide))))))))) ?_
    rintro ⟨l, x⟩ q₂ k₂ ⟨v₂, q₂_1, q₂_2, q₂_7, q₂_11, q₂_12, q₂_13, hO₃⟩ o₂ hp
    dsimp only [p_arcs_graph.s0] at hp
    refine W_sq ?_
    refine W_rg ?_
    refine WO_v (a_lss (a := x) (b := (cells.length : Int)) q₂_13 q₂_12) ?_
    refine WO_end ?_
    refine then_n ?_
    refine W_sq ?_
    rcases if_some hp with ⟨b₁, hp⟩ | ⟨b₁, hp⟩
    · refine W_cT (t := (decide (x < (cells.length : Int)))) rfl b₁ ?_
      refine W_sk ?_
      refine then_n ?_
      refine W_sq ?_
      refine W_bl ?_
      refine W_sq ?_
      refine W_rg ?_
      refine WO_v (a_mv (v := .i .i64 x) q₂_13) ?_
      obtain ⟨c₁, hp⟩ := ck_some hp
      refine WO_v (a_ixa (E := e_T_api_Cell) (z := x) (hO₃.rd0 s_cells.rd : Sl e_T_api_Cell k₂ v_cells cells) q₂_11 q₂_13 c₁) ?_
      refine WO_v (a_ldA (E := e_T_api_Cell) (hO₃.rd0 s_cells.rd : Sl e_T_api_Cell k₂ v_cells cells) rfl (toNat_lt c₁)) ?_
      refine WO_x (hO₃.alloc (cs := e_T_api_Cell.c (⟨⟨0, 0, 0, 0⟩, ⟨0, 0, 0, 0⟩⟩ : T_api_Cell)) hO₃.fr) ?_
      rintro _ k₃ ⟨r₁, rfl, n₁, f₁, hW⟩
      have hO₄ : Own B h k₃ [eSl e_T_api_Arc v₂ l, eBox r₁ (e_T_api_Cell.c (⟨⟨0, 0, 0, 0⟩, ⟨0, 0, 0, 0⟩⟩ : T_api_Cell))] := hW
      refine WO_v (a_mv (v := .i .i64 x) rfl) ?_
      refine WO_x (hO₄.stb (ws := e_T_api_Cell.c (gi cells (x : Int).toNat)) (cs' := e_T_api_Cell.c (gi cells (x : Int).toNat)) (v := .ag (e_T_api_Cell.c (gi cells (x : Int).toNat))) 1 rfl rfl rfl rfl ⟨rfl, Nat.le_of_ble_eq_true rfl, rfl⟩ rfl) ?_
      rintro _ k₄ ⟨rfl, f₂, m₁, hW⟩
      have hO₅ : Own B h k₄ [eSl e_T_api_Arc v₂ l, eBox r₁ (e_T_api_Cell.c (gi cells (x : Int).toNat))] := hW
      refine WO_end ?_
      refine then_n ?_
      refine W_sq ?_
      refine W_rg ?_
      refine WO_v (a_mv (v := .i .i64 d) q₂_1) ?_
      refine WO_v (a_fa (r := r₁) (o := 0) (o' := 0) rfl rfl) ?_
      obtain ⟨c₂, hp⟩ := ck_some hp
      refine WO_v (a_ixaa (o := 0) (o' := (0 + (d : Int).toNat * 1)) (z := d) rfl rfl c₂ rfl) ?_
      refine WO_v (a_ldb (cs := (e_T_api_Cell.c (gi cells (x : Int).toNat))) (v := .i .i64 (((gi cells (x : Int).toNat).Next).get d)) (hO₅.box 1 rfl) rfl (ld_T_api_Cell_Next c₂)) ?_
      refine WO_v (a_mv (v := .i .i64 (((gi cells (x : Int).toNat).Next).get d)) rfl) ?_
      refine WO_end ?_
      refine then_n ?_
      refine W_sq ?_
      refine W_rg ?_
      refine WO_v (a_mv (v := .i .i64 (((gi cells (x : Int).toNat).Next).get d)) rfl) ?_
      refine WO_v (a_geq (a := (((gi cells (x : Int).toNat).Next).get d)) (b := 0) rfl rfl) ?_
      refine WO_end ?_
      refine then_n ?_
      rcases if_some hp with ⟨b₂, hp⟩ | ⟨b₂, hp⟩
      · refine W_cT (t := (decide (0 ≤ (((gi cells (x : Int).toNat).Next).get d)))) rfl b₂ ?_
        refine W_dr ?_
        have hW := hO₅.bump 18
        have fr₁ := Fresh.start k₄ 18
        have nb₁ : ∀ {i : Nat}, h.n ≤ k₄.n + i := Nat.le_trans hO₅.n (Nat.le_add_right _ _)
        have hO₆ : Own B h (k₄.bump 18) [eSl e_T_api_Arc v₂ l, eBox r₁ (e_T_api_Cell.c (gi cells (x : Int).toNat))] := hW
        refine WD_v (a_mv (v := v₂) q₂_7) ?_
        refine WD_v (a_mv (v := v_of) q₂_2) ?_
        refine WD_v (a_mv (v := .i .i64 x) rfl) ?_
        obtain ⟨c₃, hp⟩ := ck_some hp
        refine WD_v (a_ixa (E := eInt) (z := x) (hO₆.rd0 s_of.rd : Sl eInt (k₄.bump 18) v_of of) rfl rfl c₃) ?_
        refine WD_v (a_ldE (w := .i .i64 (gi of (x : Int).toNat)) (hO₆.rd0 s_of.rd : Sl eInt (k₄.bump 18) v_of of) rfl (toNat_lt c₃) rfl) ?_
        refine WD_v (a_mv (v := v_of) q₂_2) ?_
        refine WD_v (a_mv (v := .i .i64 (((gi cells (x : Int).toNat).Next).get d)) rfl) ?_
        obtain ⟨c₄, hp⟩ := ck_some hp
        refine WD_v (a_ixa (E := eInt) (z := (((gi cells (x : Int).toNat).Next).get d)) (hO₆.rd0 s_of.rd : Sl eInt (k₄.bump 18) v_of of) rfl rfl c₄) ?_
        refine WD_v (a_ldE (w := .i .i64 (gi of (((gi cells (x : Int).toNat).Next).get d : Int).toNat)) (hO₆.rd0 s_of.rd : Sl eInt (k₄.bump 18) v_of of) rfl (toNat_lt c₄) rfl) ?_
        refine WD_v (a_mv (v := .i .i64 d) q₂_1) ?_
        refine WD_v (a_fa (r := r₁) (o := 0) (o' := 4) rfl rfl) ?_
        refine WD_v (a_ixaa (o := 4) (o' := (4 + (d : Int).toNat * 1)) (z := d) rfl rfl c₂ rfl) ?_
        refine WD_v (a_ldb (cs := (e_T_api_Cell.c (gi cells (x : Int).toNat))) (v := .i .i64 (((gi cells (x : Int).toNat).Owner).get d)) (hO₆.box 1 rfl) rfl (ld_T_api_Cell_Owner c₂)) ?_
        obtain ⟨x1, hx₁, hp⟩ := bd_some hp
        obtain ⟨u₁, k₆, ca₁, rfl, hW₁⟩ := p_arcs_weight.ok (h := (k₄.bump 18))   hx₁
        refine WD_c (id := 149) (caps := []) rfl (mp_cons (v := .i .i64 (((gi cells (x : Int).toNat).Owner).get d)) rfl mp_nil) ca₁ ?_
        have fr₂ := fr₁.call hW₁
        have hO₇ : Own B h k₆ [eSl e_T_api_Arc v₂ l, eBox r₁ (e_T_api_Cell.c (gi cells (x : Int).toNat))] := hO₆.call hW₁ rfl
        refine WD_v (a_build (cs := e_T_api_Arc.c (⟨gi of (x : Int).toNat, gi of (((gi cells (x : Int).toNat).Next).get d : Int).toNat, x1⟩ : T_api_Arc)) (by rw [(ev_cons (v := .i .i64 (gi of (x : Int).toNat)) rfl (ev_cons (v := .i .i64 (gi of (((gi cells (x : Int).toNat).Next).get d : Int).toNat)) rfl (ev_cons (v := .i .i64 x1) rfl ev_nil)))]; rfl)) ?_
        refine WD_x (hO₇.bsl (E := e_T_api_Arc) (l := [(⟨gi of (x : Int).toNat, gi of (((gi cells (x : Int).toNat).Next).get d : Int).toNat, x1⟩ : T_api_Arc)]) ⟨fr₂.m 15 (by decide) (by decide), nb₁⟩ (by rw [(ev_cons (v := .ag (e_T_api_Arc.c (⟨gi of (x : Int).toNat, gi of (((gi cells (x : Int).toNat).Next).get d : Int).toNat, x1⟩ : T_api_Arc))) rfl ev_nil)]; rfl) rfl) ?_
        rintro v₄ k₇ z₁ ⟨r₂, f₃, hW⟩
        have fr₃ := fr₂.kept f₃ (by decide)
        have hO₈ : Own B h k₇ [eSl e_T_api_Arc v₂ l, eBox r₁ (e_T_api_Cell.c (gi cells (x : Int).toNat)), eSl e_T_api_Arc v₄ [(⟨gi of (x : Int).toNat, gi of (((gi cells (x : Int).toNat).Next).get d : Int).toNat, x1⟩ : T_api_Arc)]] := hW
        obtain ⟨c₅, hp⟩ := ck_some hp
        refine WD_x (hO₈.app (E := e_T_api_Arc) (bytes := 24) 0 ⟨fr₃.m 16 (by decide) (by decide), nb₁⟩ rfl (hO₈.sl 2 rfl : Sl e_T_api_Arc k₇ v₄ [(⟨gi of (x : Int).toNat, gi of (((gi cells (x : Int).toNat).Next).get d : Int).toNat, x1⟩ : T_api_Arc)]) rfl rfl (fun _ => rfl) c₅ (by decide)) ?_
        rintro v₅ k₈ z₂ ⟨f₄, hW⟩
        have fr₄ := fr₃.kept f₄ (by decide)
        have hO₉ : Own B h k₈ [eSl e_T_api_Arc v₅ (l ++ [(⟨gi of (x : Int).toNat, gi of (((gi cells (x : Int).toNat).Next).get d : Int).toNat, x1⟩ : T_api_Arc)]), eBox r₁ (e_T_api_Cell.c (gi cells (x : Int).toNat)), eSl e_T_api_Arc v₄ [(⟨gi of (x : Int).toNat, gi of (((gi cells (x : Int).toNat).Next).get d : Int).toNat, x1⟩ : T_api_Arc)]] := hW
        refine WD_v (a_mv (v := v₅) rfl) ?_
        refine WD_end ?_
        refine And.intro ?_ ?_
        · intro q hq
          simp only [List.mem_cons, List.not_mem_nil, or_false] at hq
          rcases hq with rfl | rfl | rfl | rfl | rfl
          · refine ap_ll ?_ ?_
            · exact (fun h => nomatch h)
            · exact (fun h => nomatch h)
          · refine ap_ll ?_ ?_
            · exact (fun h => nomatch h)
            · exact (fun h => nomatch h)
          · refine ap_ll ?_ ?_
            · exact (fun h => nomatch h)
            · exact (fun h => nomatch h)
          · refine ap_ol rfl rfl ?_
            · exact (fun r hm hc => hc (hW₁.base r (Nat.lt_of_lt_of_le (Nat.lt_of_lt_of_le (hO₅.lo _ (Rd.B s_of.rd hO₅.lo (toNat_lt c₃) _ (refs_elt (tch (v := V.elt v_of (x : Int).toNat 0) (ld_el hm) rfl)))) hO₅.n) (Nat.le_trans (Nat.le_add_right _ _) fr₁.n))))
          · refine ap_ol rfl rfl ?_
            · exact (fun r hm hc => hc (hW₁.base r (Nat.lt_of_lt_of_le (Nat.lt_of_lt_of_le (hO₅.lo _ (Rd.B s_of.rd hO₅.lo (toNat_lt c₄) _ (refs_elt (tch (v := V.elt v_of (((gi cells (x : Int).toNat).Next).get d : Int).toNat 0) (ld_el hm) rfl)))) hO₅.n) (Nat.le_trans (Nat.le_add_right _ _) fr₁.n))))
        refine blk_n ?_
        refine then_n ?_
        refine W_rg ?_
        obtain ⟨c₆, hp⟩ := ck_some hp
        refine WO_v (a_add (a := x) (b := 1) q₂_13 rfl c₆) ?_
        refine WO_v (a_mv (v := .i .i64 (x + 1)) rfl) ?_
        refine WO_end ?_
        have hp := Option.some.inj hp; subst hp
        exact (Or.inl (Exists.intro (l ++ [(⟨gi of (x : Int).toNat, gi of (((gi cells (x : Int).toNat).Next).get d : Int).toNat, x1⟩ : T_api_Arc)], x + 1) (And.intro rfl (And.intro rfl (Exists.intro v₅ (And.intro (q₂_1) (And.intro (q₂_2) (And.intro (rfl) (And.intro (q₂_11) (And.intro (q₂_12) (And.intro (rfl) (hO₉.pick [0] rfl (by decide)))))))))))))
      · refine W_cF (t := (decide (0 ≤ (((gi cells (x : Int).toNat).Next).get d)))) rfl b₂ ?_
        refine W_sk ?_
        refine blk_n ?_
        refine then_n ?_
        refine W_rg ?_
        obtain ⟨c₇, hp⟩ := ck_some hp
        refine WO_v (a_add (a := x) (b := 1) q₂_13 rfl c₇) ?_
        refine WO_v (a_mv (v := .i .i64 (x + 1)) rfl) ?_
        refine WO_end ?_
        have hp := Option.some.inj hp; subst hp
        exact (Or.inl (Exists.intro (l, x + 1) (And.intro rfl (And.intro rfl (Exists.intro v₂ (And.intro (q₂_1) (And.intro (q₂_2) (And.intro (q₂_7) (And.intro (q₂_11) (And.intro (q₂_12) (And.intro (rfl) (hO₅.pick [0] rfl (by decide)))))))))))))
    · refine W_cF (t := (decide (x < (cells.length : Int)))) rfl b₁ ?_
      refine W_ex ?_
      refine then_e ?_
      have hp := Option.some.inj hp; subst hp
      refine (Or.inr (Exists.intro l (And.intro rfl (And.intro (fun h => nomatch h) (fun he => ?_)))))
      subst he; exact (And.intro rfl (Exists.intro v₂ (And.intro (q₂_7) (hO₃.pick [0] rfl (by decide)))))
  intro e₁ q₁ k₁ hJ₁
  obtain ⟨l1, rfl⟩ : ∃ x, x = o₁ := ⟨_, rfl⟩
  obtain ⟨rfl, v₃, q₁_7, hO₁⟩ := hJ₁
  refine blk_i ?_
  refine then_n ?_
  refine W_sq ?_
  refine W_rg ?_
  refine WO_v (a_mv (v := v₃) q₁_7) ?_
  refine WO_v (a_mv (v := v₃) rfl) ?_
  refine WO_end ?_
  refine then_n ?_
  refine W_rt ?_
  refine Ret_r (rs_t (n := 6) (v := v₃) rfl rs_nil) ?_
  have hp := Option.some.inj hp; subst hp
  exact (Exists.intro v₃ (And.intro rfl (hO₁.pick [0] rfl (by decide))))

theorem p_arcs_Of.ok {h : Hp} {cells : List T_api_Cell} {v_cells : V} (s_cells : Sl e_T_api_Cell h v_cells cells) {r : T_arcs_Graphs × Int} (hp : p_arcs_Of cells = some r) :
    ∃ u k', Is G 129 [v_cells] h u k' ∧ ∃ (v₁ : V), ∃ (v₂ : V), ∃ (v₃ : V), ∃ (vs₁ : List V), ∃ (v₄ : V), ∃ (vs₂ : List V), ∃ (v₅ : V), ∃ (v₆ : V), V.tu [.ag [v₁, v₂, v₃, v₄, v₅, v₆], .i .i64 r.2] = u ∧ Own (fun r => r < h.n) h k' [eSl eInt v₁ r.1.Chains.X, eSl eInt v₂ r.1.Chains.Y, eSl eV v₃ vs₁, eAll eInt vs₁ r.1.Chains.Vert, eSl eV v₄ vs₂, eAll eInt vs₂ r.1.Chains.Horz, eSl e_T_api_Arc v₅ r.1.H, eSl e_T_api_Arc v₆ r.1.V] := by
  refine WC.is (WC_of G_F_arcs_Of ?_)
  unfold p_arcs_Of at hp
  let B : Nat → Prop := (fun r => r < h.n)
  have hO : Own B h h [] := Own.start0 h
  refine W_sq ?_
  refine W_rg ?_
  refine WO_x (hO.alloc (cs := [.sn, .sn, .sn, .sn, .sn, .sn]) hO.fr) ?_
  rintro _ k₁ ⟨r₁, rfl, n₁, f₁, hW⟩
  have hO₁ : Own B h k₁ [eBox r₁ [.sn, .sn, .sn, .sn, .sn, .sn]] := hW
  refine WO_v (a_mv (v := .i .i64 0) rfl) ?_
  refine WO_end ?_
  refine then_n ?_
  refine W_sq ?_
  refine W_rg ?_
  refine WO_v (a_mv (v := v_cells) rfl) ?_
  obtain ⟨⟨x, x1⟩, hx₁, hp⟩ := bd_some hp
  obtain ⟨u₁, k₂, ca₁, v₇, v₈, v₉, vs₃, v₁₀, vs₄, rfl, hW₁⟩ := p_seg_Of.ok (h := k₁)  (hO₁.rd0 s_cells.rd : Sl e_T_api_Cell k₁ v_cells cells) hx₁
  refine WO_c (id := 120) (caps := []) rfl (mp_cons (v := v_cells) rfl mp_nil) ca₁ ?_
  have hO₂ : Own B h k₂ [eBox r₁ [.sn, .sn, .sn, .sn, .sn, .sn], eSl eInt v₇ x.X, eSl eInt v₈ x.Y, eSl eV v₉ vs₃, eAll eInt vs₃ x.Vert, eSl eV v₁₀ vs₄, eAll eInt vs₄ x.Horz] := hO₁.call hW₁ rfl
  refine WO_v (a_mv (v := .tu [.ag [v₇, v₈, v₉, v₁₀], .i .i64 x1]) rfl) ?_
  refine WO_v (a_ext (vs := [.ag [v₇, v₈, v₉, v₁₀], .i .i64 x1]) (v := .ag [v₇, v₈, v₉, v₁₀]) rfl rfl) ?_
  refine WO_v (a_ext (vs := [.ag [v₇, v₈, v₉, v₁₀], .i .i64 x1]) (v := .i .i64 x1) rfl rfl) ?_
  refine WO_x (hO₂.alloc (cs := [.sn, .sn, .sn, .sn]) hO₂.fr) ?_
  rintro _ k₃ ⟨r₂, rfl, n₂, f₂, hW⟩
  have hO₃ : Own B h k₃ [eBox r₁ [.sn, .sn, .sn, .sn, .sn, .sn], eSl eInt v₇ x.X, eSl eInt v₈ x.Y, eSl eV v₉ vs₃, eAll eInt vs₃ x.Vert, eSl eV v₁₀ vs₄, eAll eInt vs₄ x.Horz, eBox r₂ [.sn, .sn, .sn, .sn]] := hW
  refine WO_x (hO₃.stb (ws := [v₇, v₈, v₉, v₁₀]) (cs' := [v₇, v₈, v₉, v₁₀]) (v := .ag [v₇, v₈, v₉, v₁₀]) 7 rfl rfl rfl rfl ⟨rfl, Nat.le_of_ble_eq_true rfl, (all_cons (hO₃.sl 1 rfl : Sl eInt k₃ v₇ x.X).oneV (all_cons (hO₃.sl 2 rfl : Sl eInt k₃ v₈ x.Y).oneV (all_cons (hO₃.sl 3 rfl : Sl eV k₃ v₉ vs₃).oneV (all_cons (hO₃.sl 5 rfl : Sl eV k₃ v₁₀ vs₄).oneV all_nil))))⟩ rfl) ?_
  rintro _ k₄ ⟨rfl, f₃, m₁, hW⟩
  have hO₄ : Own B h k₄ [eBox r₁ [.sn, .sn, .sn, .sn, .sn, .sn], eSl eInt v₇ x.X, eSl eInt v₈ x.Y, eSl eV v₉ vs₃, eAll eInt vs₃ x.Vert, eSl eV v₁₀ vs₄, eAll eInt vs₄ x.Horz, eBox r₂ [v₇, v₈, v₉, v₁₀]] := hW
  refine WO_v (a_mv (v := .i .i64 x1) rfl) ?_
  refine WO_end ?_
  refine then_n ?_
  refine W_sq ?_
  refine W_sq ?_
  refine W_rg ?_
  refine WO_v (a_mv (v := .i .i64 x1) rfl) ?_
  refine WO_v (a_neI (a := x1) (b := 0) rfl rfl) ?_
  refine WO_end ?_
  refine then_n ?_
  rcases if_some hp with ⟨b₁, hp⟩ | ⟨b₁, hp⟩
  · refine W_cT (t := (!(decide (x1 = 0)))) rfl b₁ ?_
    refine W_sq ?_
    refine W_rg ?_
    refine WO_v (a_build (cs := [.sn, .sn, .sn, .sn, .sn, .sn]) (by rw [ev_nil]; simp [fill, over, cells_i, cells_b, cells_f, cells_p, cells_a, cells_n, (Sl.nil : Sl e_T_api_Arc k₄ .sn ([] : List T_api_Arc)).cells, (Sl.nil : Sl e_T_api_Arc k₄ .sn ([] : List T_api_Arc)).cells])) ?_
    refine WO_v (a_mv (v := .i .i64 x1) rfl) ?_
    refine WO_x (hO₄.stb (ws := [.sn, .sn, .sn, .sn, .sn, .sn]) (cs' := [.sn, .sn, .sn, .sn, .sn, .sn]) (v := .ag [.sn, .sn, .sn, .sn, .sn, .sn]) 0 rfl rfl rfl rfl ⟨rfl, Nat.le_of_ble_eq_true rfl, (all_cons (Sl.nil : Sl eInt k₄ .sn ([] : List Int)).oneV (all_cons (Sl.nil : Sl eInt k₄ .sn ([] : List Int)).oneV (all_cons (Sl.nil : Sl eV k₄ .sn []).oneV (all_cons (Sl.nil : Sl eV k₄ .sn []).oneV (all_cons (Sl.nil : Sl e_T_api_Arc k₄ .sn ([] : List T_api_Arc)).oneV (all_cons (Sl.nil : Sl e_T_api_Arc k₄ .sn ([] : List T_api_Arc)).oneV all_nil))))))⟩ rfl) ?_
    rintro _ k₅ ⟨rfl, f₄, m₂, hW⟩
    have hO₅ : Own B h k₅ [eBox r₁ [.sn, .sn, .sn, .sn, .sn, .sn], eSl eInt v₇ x.X, eSl eInt v₈ x.Y, eSl eV v₉ vs₃, eAll eInt vs₃ x.Vert, eSl eV v₁₀ vs₄, eAll eInt vs₄ x.Horz, eBox r₂ [v₇, v₈, v₉, v₁₀]] := hW
    refine WO_v (a_mv (v := .i .i64 x1) rfl) ?_
    refine WO_end ?_
    refine then_n ?_
    refine W_rt ?_
    refine then_r ?_
    have hO₆ : Own B h k₅ [eBox r₁ [.sn, .sn, .sn, .sn, .sn, .sn], eSl eInt v₇ x.X, eSl eInt v₈ x.Y, eSl eV v₉ vs₃, eAll eInt vs₃ x.Vert, eSl eV v₁₀ vs₄, eAll eInt vs₄ x.Horz, eBox r₂ [v₇, v₈, v₉, v₁₀], eSl eInt .sn ([] : List Int)] := hO₅.nil eInt
    have hO₇ : Own B h k₅ [eBox r₁ [.sn, .sn, .sn, .sn, .sn, .sn], eSl eInt v₇ x.X, eSl eInt v₈ x.Y, eSl eV v₉ vs₃, eAll eInt vs₃ x.Vert, eSl eV v₁₀ vs₄, eAll eInt vs₄ x.Horz, eBox r₂ [v₇, v₈, v₉, v₁₀], eSl eInt .sn ([] : List Int), eSl eInt .sn ([] : List Int)] := hO₆.nil eInt
    have hO₈ : Own B h k₅ [eBox r₁ [.sn, .sn, .sn, .sn, .sn, .sn], eSl eInt v₇ x.X, eSl eInt v₈ x.Y, eSl eV v₉ vs₃, eAll eInt vs₃ x.Vert, eSl eV v₁₀ vs₄, eAll eInt vs₄ x.Horz, eBox r₂ [v₇, v₈, v₉, v₁₀], eSl eInt .sn ([] : List Int), eSl eInt .sn ([] : List Int), eSl eV .sn []] := hO₇.nil eV
    have hO₉ : Own B h k₅ [eBox r₁ [.sn, .sn, .sn, .sn, .sn, .sn], eSl eInt v₇ x.X, eSl eInt v₈ x.Y, eSl eV v₉ vs₃, eAll eInt vs₃ x.Vert, eSl eV v₁₀ vs₄, eAll eInt vs₄ x.Horz, eBox r₂ [v₇, v₈, v₉, v₁₀], eSl eInt .sn ([] : List Int), eSl eInt .sn ([] : List Int), eSl eV .sn [], eAll eInt [] []] := hO₈.allNil eInt 0
    have hO₁₀ : Own B h k₅ [eBox r₁ [.sn, .sn, .sn, .sn, .sn, .sn], eSl eInt v₇ x.X, eSl eInt v₈ x.Y, eSl eV v₉ vs₃, eAll eInt vs₃ x.Vert, eSl eV v₁₀ vs₄, eAll eInt vs₄ x.Horz, eBox r₂ [v₇, v₈, v₉, v₁₀], eSl eInt .sn ([] : List Int), eSl eInt .sn ([] : List Int), eSl eV .sn [], eAll eInt [] [], eSl eV .sn []] := hO₉.nil eV
    have hO₁₁ : Own B h k₅ [eBox r₁ [.sn, .sn, .sn, .sn, .sn, .sn], eSl eInt v₇ x.X, eSl eInt v₈ x.Y, eSl eV v₉ vs₃, eAll eInt vs₃ x.Vert, eSl eV v₁₀ vs₄, eAll eInt vs₄ x.Horz, eBox r₂ [v₇, v₈, v₉, v₁₀], eSl eInt .sn ([] : List Int), eSl eInt .sn ([] : List Int), eSl eV .sn [], eAll eInt [] [], eSl eV .sn [], eAll eInt [] []] := hO₁₀.allNil eInt 0
    have hO₁₂ : Own B h k₅ [eBox r₁ [.sn, .sn, .sn, .sn, .sn, .sn], eSl eInt v₇ x.X, eSl eInt v₈ x.Y, eSl eV v₉ vs₃, eAll eInt vs₃ x.Vert, eSl eV v₁₀ vs₄, eAll eInt vs₄ x.Horz, eBox r₂ [v₇, v₈, v₉, v₁₀], eSl eInt .sn ([] : List Int), eSl eInt .sn ([] : List Int), eSl eV .sn [], eAll eInt [] [], eSl eV .sn [], eAll eInt [] [], eSl e_T_api_Arc .sn ([] : List T_api_Arc)] := hO₁₁.nil e_T_api_Arc
    have hO₁₃ : Own B h k₅ [eBox r₁ [.sn, .sn, .sn, .sn, .sn, .sn], eSl eInt v₇ x.X, eSl eInt v₈ x.Y, eSl eV v₉ vs₃, eAll eInt vs₃ x.Vert, eSl eV v₁₀ vs₄, eAll eInt vs₄ x.Horz, eBox r₂ [v₇, v₈, v₉, v₁₀], eSl eInt .sn ([] : List Int), eSl eInt .sn ([] : List Int), eSl eV .sn [], eAll eInt [] [], eSl eV .sn [], eAll eInt [] [], eSl e_T_api_Arc .sn ([] : List T_api_Arc), eSl e_T_api_Arc .sn ([] : List T_api_Arc)] := hO₁₂.nil e_T_api_Arc
    refine Ret_r (rs_c (n := 2) (v := .ag [.sn, .sn, .sn, .sn, .sn, .sn]) (r := r₁) rfl (hO₁₃.box 0 rfl) rfl (rs_t (n := 3) (v := .i .i64 x1) rfl rs_nil)) ?_
    have hp := Option.some.inj hp; subst hp
    exact (Exists.intro V.sn (Exists.intro V.sn (Exists.intro V.sn (Exists.intro [] (Exists.intro V.sn (Exists.intro [] (Exists.intro V.sn (Exists.intro V.sn (And.intro rfl (hO₁₃.pick [8, 9, 10, 11, 12, 13, 14, 15] rfl (by decide)))))))))))
  · refine W_cF (t := (!(decide (x1 = 0)))) rfl b₁ ?_
    refine W_sk ?_
    refine then_n ?_
    refine W_sq ?_
    refine W_dr ?_
    have hW := hO₄.bump 12
    have fr₁ := Fresh.start k₄ 12
    have nb₁ : ∀ {i : Nat}, h.n ≤ k₄.n + i := Nat.le_trans hO₄.n (Nat.le_add_right _ _)
    have hO₁₄ : Own B h (k₄.bump 12) [eBox r₁ [.sn, .sn, .sn, .sn, .sn, .sn], eSl eInt v₇ x.X, eSl eInt v₈ x.Y, eSl eV v₉ vs₃, eAll eInt vs₃ x.Vert, eSl eV v₁₀ vs₄, eAll eInt vs₄ x.Horz, eBox r₂ [v₇, v₈, v₉, v₁₀]] := hW
    refine WD_v (a_ldbA (cs := [v₇, v₈, v₉, v₁₀]) (ws := [v₇, v₈, v₉, v₁₀]) (hO₁₄.box 7 rfl) rfl rfl) ?_
    refine WD_v (a_mv (v := v_cells) rfl) ?_
    refine WD_v (a_fa (r := r₂) (o := 0) (o' := 0) rfl rfl) ?_
    refine WD_v (a_ldb (cs := [v₇, v₈, v₉, v₁₀]) (v := v₇) (hO₁₄.box 7 rfl) rfl rfl) ?_
    obtain ⟨x2, hx₂, hp⟩ := bd_some hp
    obtain ⟨u₂, k₇, ca₂, v₁₁, rfl, hW₂⟩ := p_arcs_graph.ok (h := (k₄.bump 12))  (hO₁₄.rd0 s_cells.rd : Sl e_T_api_Cell (k₄.bump 12) v_cells cells) (hO₁₄.sl 1 rfl : Sl eInt (k₄.bump 12) v₇ x.X) hx₂
    refine WD_c (id := 144) (caps := []) rfl (mp_cons (v := v_cells) rfl (mp_cons (v := .i .i64 0) rfl (mp_cons (v := v₇) rfl mp_nil))) ca₂ ?_
    have fr₂ := fr₁.call hW₂
    have hO₁₅ : Own B h k₇ [eBox r₁ [.sn, .sn, .sn, .sn, .sn, .sn], eSl eInt v₇ x.X, eSl eInt v₈ x.Y, eSl eV v₉ vs₃, eAll eInt vs₃ x.Vert, eSl eV v₁₀ vs₄, eAll eInt vs₄ x.Horz, eBox r₂ [v₇, v₈, v₉, v₁₀], eSl e_T_api_Arc v₁₁ x2] := hO₁₄.call hW₂ rfl
    refine WD_v (a_mv (v := v_cells) rfl) ?_
    refine WD_v (a_fa (r := r₂) (o := 0) (o' := 1) rfl rfl) ?_
    refine WD_v (a_ldb (cs := [v₇, v₈, v₉, v₁₀]) (v := v₈) (hO₁₅.box 7 rfl) rfl rfl) ?_
    obtain ⟨x3, hx₃, hp⟩ := bd_some hp
    obtain ⟨u₃, k₈, ca₃, v₁₂, rfl, hW₃⟩ := p_arcs_graph.ok (h := k₇)  (hO₁₅.rd0 s_cells.rd : Sl e_T_api_Cell k₇ v_cells cells) (hO₁₅.sl 2 rfl : Sl eInt k₇ v₈ x.Y) hx₃
    refine WD_c (id := 144) (caps := []) rfl (mp_cons (v := v_cells) rfl (mp_cons (v := .i .i64 1) rfl (mp_cons (v := v₈) rfl mp_nil))) ca₃ ?_
    have fr₃ := fr₂.call hW₃
    have hO₁₆ : Own B h k₈ [eBox r₁ [.sn, .sn, .sn, .sn, .sn, .sn], eSl eInt v₇ x.X, eSl eInt v₈ x.Y, eSl eV v₉ vs₃, eAll eInt vs₃ x.Vert, eSl eV v₁₀ vs₄, eAll eInt vs₄ x.Horz, eBox r₂ [v₇, v₈, v₉, v₁₀], eSl e_T_api_Arc v₁₁ x2, eSl e_T_api_Arc v₁₂ x3] := hO₁₅.call hW₃ rfl
    refine WD_v (a_build (cs := [v₇, v₈, v₉, v₁₀, v₁₁, v₁₂]) (by rw [(ev_cons (v := .ag [v₇, v₈, v₉, v₁₀]) rfl (ev_cons (v := v₁₁) rfl (ev_cons (v := v₁₂) rfl ev_nil)))]; simp [fill, over, cells_i, cells_b, cells_f, cells_p, cells_a, cells_n, (hO₁₆.sl 8 rfl : Sl e_T_api_Arc k₈ v₁₁ x2).cells, (hO₁₆.sl 9 rfl : Sl e_T_api_Arc k₈ v₁₂ x3).cells])) ?_
    refine WD_x (hO₁₆.stb (ws := [v₇, v₈, v₉, v₁₀, v₁₁, v₁₂]) (cs' := [v₇, v₈, v₉, v₁₀, v₁₁, v₁₂]) (v := .ag [v₇, v₈, v₉, v₁₀, v₁₁, v₁₂]) 0 rfl rfl rfl rfl ⟨rfl, Nat.le_of_ble_eq_true rfl, (all_cons (hO₁₆.sl 1 rfl : Sl eInt k₈ v₇ x.X).oneV (all_cons (hO₁₆.sl 2 rfl : Sl eInt k₈ v₈ x.Y).oneV (all_cons (hO₁₆.sl 3 rfl : Sl eV k₈ v₉ vs₃).oneV (all_cons (hO₁₆.sl 5 rfl : Sl eV k₈ v₁₀ vs₄).oneV (all_cons (hO₁₆.sl 8 rfl : Sl e_T_api_Arc k₈ v₁₁ x2).oneV (all_cons (hO₁₆.sl 9 rfl : Sl e_T_api_Arc k₈ v₁₂ x3).oneV all_nil))))))⟩ rfl) ?_
    rintro _ k₉ z₁ ⟨rfl, f₅, m₃, hW⟩
    have fr₄ := fr₃.kept f₅ (by decide)
    have hO₁₇ : Own B h k₉ [eBox r₁ [v₇, v₈, v₉, v₁₀, v₁₁, v₁₂], eSl eInt v₇ x.X, eSl eInt v₈ x.Y, eSl eV v₉ vs₃, eAll eInt vs₃ x.Vert, eSl eV v₁₀ vs₄, eAll eInt vs₄ x.Horz, eBox r₂ [v₇, v₈, v₉, v₁₀], eSl e_T_api_Arc v₁₁ x2, eSl e_T_api_Arc v₁₂ x3] := hW
    refine WD_v (a_mv (v := .i .i64 0) rfl) ?_
    refine WD_end ?_
    refine And.intro ?_ ?_
    · intro q hq
      simp only [List.mem_cons, List.not_mem_nil, or_false] at hq
      rcases hq with rfl | rfl | rfl | rfl | rfl | rfl
      · refine ap_ll ?_ ?_
        · exact (fun h => nomatch h)
        · exact (fun h => nomatch h)
      · refine ap_ol rfl rfl ?_
        · exact (fun r hm hc => hc (hW₂.base r (Nat.lt_of_lt_of_le (hO₄.ltAt 7 rfl _ (tch (v := V.p r₂ 0) (ld_el hm) rfl)) (Nat.le_trans (Nat.le_add_right _ _) fr₁.n))))
      · refine ap_ll ?_ ?_
        · exact (fun h => nomatch h)
        · exact (fun h => nomatch h)
      · refine ap_ll ?_ ?_
        · exact (fun h => nomatch h)
        · exact (fun h => nomatch h)
      · refine ap_cl rfl ?_
        · exact (fun r hm hc => hc (hW₂.base r (Nat.lt_of_lt_of_le (hO₄.ltAt 7 rfl _ (tch (v := V.p r₂ 1) (ld_el hm) rfl)) (Nat.le_trans (Nat.le_add_right _ _) fr₁.n))))
      · refine ap_ol rfl rfl ?_
        · exact (fun r hm hc => hc (hW₃.base r (Nat.lt_of_lt_of_le (hO₄.ltAt 7 rfl _ (tch (v := V.p r₂ 0) (ld_el hm) rfl)) (Nat.le_trans (Nat.le_add_right _ _) fr₂.n))))
    refine then_n ?_
    refine W_rt ?_
    refine Ret_r (rs_c (n := 2) (v := .ag [v₇, v₈, v₉, v₁₀, v₁₁, v₁₂]) (r := r₁) rfl (hO₁₇.box 0 rfl) rfl (rs_t (n := 3) (v := .i .i64 0) rfl rs_nil)) ?_
    have hp := Option.some.inj hp; subst hp
    exact (Exists.intro v₇ (Exists.intro v₈ (Exists.intro v₉ (Exists.intro vs₃ (Exists.intro v₁₀ (Exists.intro vs₄ (Exists.intro v₁₁ (Exists.intro v₁₂ (And.intro rfl (hO₁₇.pick [1, 2, 3, 4, 5, 6, 8, 9] rfl (by decide)))))))))))

theorem p_arcs_Place.ok {h : Hp} {c : T_seg_Chains} {x : List Int} {y : List Int} {v_c_X : V} {v_c_Y : V} {v_c_Vert : V} {vs_c_Vert : List V} {v_c_Horz : V} {vs_c_Horz : List V} {v_x : V} {v_y : V} (s_c_X : Sl eInt h v_c_X c.X) (s_c_Y : Sl eInt h v_c_Y c.Y) (sN_c_Vert : Sl eV h v_c_Vert vs_c_Vert) (lN_c_Vert : vs_c_Vert.length = c.Vert.length) (iN_c_Vert : ∀ j, j < c.Vert.length → Sl eInt h (gi vs_c_Vert j) (gi c.Vert j)) (sN_c_Horz : Sl eV h v_c_Horz vs_c_Horz) (lN_c_Horz : vs_c_Horz.length = c.Horz.length) (iN_c_Horz : ∀ j, j < c.Horz.length → Sl eInt h (gi vs_c_Horz j) (gi c.Horz j)) (s_x : Sl eInt h v_x x) (s_y : Sl eInt h v_y y) {r : (List T_api_Point) × Int} (hp : p_arcs_Place c x y = some r) :
    ∃ u k', Is G 132 [.ag [v_c_X, v_c_Y, v_c_Vert, v_c_Horz], v_x, v_y] h u k' ∧ ∃ (v₁ : V), V.tu [v₁, .i .i64 r.2] = u ∧ Own (fun r => r < h.n) h k' [eSl e_T_api_Point v₁ r.1] := by
  refine WC.is (WC_of G_F_arcs_Place ?_)
  unfold p_arcs_Place at hp
  let B : Nat → Prop := (fun r => r < h.n)
  have hO : Own B h h [] := Own.start0 h
  refine W_sq ?_
  refine W_rg ?_
  refine WO_x (hO.boxd (v := .ag [v_c_X, v_c_Y, v_c_Vert, v_c_Horz]) (cs := [v_c_X, v_c_Y, v_c_Vert, v_c_Horz]) hO.fr rfl rfl) ?_
  rintro _ k₁ ⟨r₁, rfl, n₁, f₁, hW⟩
  have hO₁ : Own B h k₁ [eBox r₁ [v_c_X, v_c_Y, v_c_Vert, v_c_Horz]] := hW
  refine WO_v (a_mv (v := .sn) rfl) ?_
  refine WO_v (a_mv (v := .i .i64 0) rfl) ?_
  refine WO_end ?_
  refine then_n ?_
  refine W_sq ?_
  refine W_sq ?_
  refine W_rg ?_
  refine WO_v (a_mv (v := v_x) rfl) ?_
  refine WO_v (a_len (hO₁.rd0 s_x.rd : Sl eInt k₁ v_x x) rfl) ?_
  refine WO_v (a_fa (r := r₁) (o := 0) (o' := 2) rfl rfl) ?_
  refine WO_v (a_ldb (cs := [v_c_X, v_c_Y, v_c_Vert, v_c_Horz]) (v := v_c_Vert) (hO₁.box 0 rfl) rfl rfl) ?_
  refine WO_v (a_lenN (n := (c.Vert).length) (hO₁.rd0 sN_c_Vert.rd : Sl eV k₁ v_c_Vert vs_c_Vert) lN_c_Vert rfl) ?_
  refine WO_v (a_neI (a := (x.length : Int)) (b := (c.Vert.length : Int)) rfl rfl) ?_
  refine WO_v (a_mv (v := .b (!(decide ((x.length : Int) = (c.Vert.length : Int))))) rfl) ?_
  refine WO_cut 7 (fun fr' k' => k₁ = k' ∧ fr' 23 = .b ((!(decide ((x.length : Int) = (c.Vert.length : Int)))) || (!(decide ((y.length : Int) = (c.Horz.length : Int))))) ∧ fr' 1 = v_x ∧ fr' 2 = v_y ∧ fr' 3 = .p r₁ 0) ?_ ?_
  · rcases bc (!(decide ((x.length : Int) = (c.Vert.length : Int)))) with b₁ | b₁
    · skip
      refine WO_off rfl b₁ ?_
      refine WO_off rfl b₁ ?_
      refine WO_off rfl b₁ ?_
      refine WO_off rfl b₁ ?_
      refine WO_off rfl b₁ ?_
      refine WO_off rfl b₁ ?_
      refine WO_v (a_pickT (t := (!(decide ((x.length : Int) = (c.Vert.length : Int))))) (v := .b ((!(decide ((x.length : Int) = (c.Vert.length : Int)))) || (!(decide ((y.length : Int) = (c.Horz.length : Int)))))) rfl b₁ (Eq.trans (b := V.b true) rfl (or_off b₁))) ?_
      refine WO_end ?_
      exact ⟨rfl, rfl, rfl, rfl, rfl⟩
    · skip
      refine WO_on rfl b₁ ?_
      refine WO_v (a_mv (v := v_y) rfl) ?_
      refine WO_on rfl b₁ ?_
      refine WO_v (a_len (hO₁.rd0 s_y.rd : Sl eInt k₁ v_y y) rfl) ?_
      refine WO_on rfl b₁ ?_
      refine WO_v (a_fa (r := r₁) (o := 0) (o' := 3) rfl rfl) ?_
      refine WO_on rfl b₁ ?_
      refine WO_v (a_ldb (cs := [v_c_X, v_c_Y, v_c_Vert, v_c_Horz]) (v := v_c_Horz) (hO₁.box 0 rfl) rfl rfl) ?_
      refine WO_on rfl b₁ ?_
      refine WO_v (a_lenN (n := (c.Horz).length) (hO₁.rd0 sN_c_Horz.rd : Sl eV k₁ v_c_Horz vs_c_Horz) lN_c_Horz rfl) ?_
      refine WO_on rfl b₁ ?_
      refine WO_v (a_neI (a := (y.length : Int)) (b := (c.Horz.length : Int)) rfl rfl) ?_
      refine WO_v (a_pickF (t := (!(decide ((x.length : Int) = (c.Vert.length : Int))))) (v := .b ((!(decide ((x.length : Int) = (c.Vert.length : Int)))) || (!(decide ((y.length : Int) = (c.Horz.length : Int)))))) rfl b₁ (Eq.trans (b := V.b (!(decide ((y.length : Int) = (c.Horz.length : Int))))) rfl (or_on b₁))) ?_
      refine WO_end ?_
      exact ⟨rfl, rfl, rfl, rfl, rfl⟩
  rintro frg₁ _ ⟨rfl, g₁_23, g₁_1, g₁_2, g₁_3⟩
  refine WO_end ?_
  refine then_n ?_
  rcases if_some hp with ⟨b₂, hp⟩ | ⟨b₂, hp⟩
  · refine W_cT (t := ((!(decide ((x.length : Int) = (c.Vert.length : Int)))) || (!(decide ((y.length : Int) = (c.Horz.length : Int)))))) g₁_23 b₂ ?_
    refine W_sq ?_
    refine W_rg ?_
    refine WO_v (a_mv (v := .sn) rfl) ?_
    refine WO_v (a_mv (v := .i .i64 2) rfl) ?_
    refine WO_end ?_
    refine then_n ?_
    refine W_rt ?_
    refine then_r ?_
    have hO₂ : Own B h k₁ [eBox r₁ [v_c_X, v_c_Y, v_c_Vert, v_c_Horz], eSl e_T_api_Point .sn ([] : List T_api_Point)] := hO₁.nil e_T_api_Point
    refine Ret_r (rs_t (n := 6) (v := .sn) rfl (rs_t (n := 7) (v := .i .i64 2) rfl rs_nil)) ?_
    have hp := Option.some.inj hp; subst hp
    exact (Exists.intro V.sn (And.intro rfl (hO₂.pick [1] rfl (by decide))))
  · refine W_cF (t := ((!(decide ((x.length : Int) = (c.Vert.length : Int)))) || (!(decide ((y.length : Int) = (c.Horz.length : Int)))))) g₁_23 b₂ ?_
    refine W_sk ?_
    refine then_n ?_
    refine W_sq ?_
    refine W_rg ?_
    refine WO_v (a_mv (v := .sn) rfl) ?_
    refine WO_end ?_
    refine then_n ?_
    refine W_sq ?_
    refine W_sq ?_
    refine W_rg ?_
    refine WO_v (a_fa (r := r₁) (o := 0) (o' := 0) g₁_3 rfl) ?_
    refine WO_v (a_ldb (cs := [v_c_X, v_c_Y, v_c_Vert, v_c_Horz]) (v := v_c_X) (hO₁.box 0 rfl) rfl rfl) ?_
    refine WO_v (a_len (hO₁.rd0 s_c_X.rd : Sl eInt k₁ v_c_X c.X) rfl) ?_
    refine WO_v (a_mv (v := .i .i64 0) rfl) ?_
    refine WO_end ?_
    refine then_n ?_
    refine W_bl ?_
    obtain ⟨o₁, ho₁, hp⟩ := bd_some hp
    refine W.mono (Q := fun e fr k => match (generalizing := false) o₁ with
        | l1 => e = (.exit 0) ∧ ∃ (v₃ : V), fr 8 = v₃ ∧ Own B h k [eSl e_T_api_Point v₃ l1]) ?_ ?_
    · clear hp
      have hO₄ : Own B h k₁ [eBox r₁ [v_c_X, v_c_Y, v_c_Vert, v_c_Horz], eSl e_T_api_Point .sn ([] : List T_api_Point)] := hO₁.nil e_T_api_Point
      refine W_loopF (fun st fr k => match st with | (l, x1) => ∃ (v₂ : V), fr 1 = v_x ∧ fr 2 = v_y ∧ fr 3 = .p r₁ 0 ∧ fr 8 = v₂ ∧ fr 26 = .i .i64 (c.X.length : Int) ∧ fr 27 = .i .i64 x1 ∧ Own B h k [eBox r₁ [v_c_X, v_c_Y, v_c_Vert, v_c_Horz], eSl e_T_api_Point v₂ l]) ho₁ (s := (([] : List T_api_Point), 0)) (Exists.intro V.sn (And.intro (g₁_1) (And.intro (g₁_2) (And.intro (g₁_3) (And.intro (rfl) (And.intro (rfl) (And.intro (rfl) (hO₄.pick [0, 1] rfl (by decide))))))))) ?_
      rintro ⟨l, x1⟩ q₂ k₃ ⟨v₂, q₂_1, q₂_2, q₂_3, q₂_8, q₂_26, q₂_27, hO₅⟩ o₂ hp
      dsimp only [p_arcs_Place.s0] at hp
      refine W_sq ?_
      refine W_rg ?_
      refine WO_v (a_lss (a := x1) (b := (c.X.length : Int)) q₂_27 q₂_26) ?_
      refine WO_end ?_
      refine then_n ?_
      refine W_sq ?_
      rcases if_some hp with ⟨b₃, hp⟩ | ⟨b₃, hp⟩
      · refine W_cT (t := (decide (x1 < (c.X.length : Int)))) rfl b₃ ?_
        refine W_sk ?_
        refine then_n ?_
        refine W_sq ?_
        refine W_bl ?_
        refine W_sq ?_
        refine W_rg ?_
        refine WO_v (a_mv (v := .i .i64 x1) q₂_27) ?_
        refine WO_v (a_mv (v := .i .i64 x1) rfl) ?_
        refine WO_end ?_
        refine then_n ?_
        refine W_dr ?_
        have hW := hO₅.bump 21
        have fr₁ := Fresh.start k₃ 21
        have nb₁ : ∀ {i : Nat}, h.n ≤ k₃.n + i := Nat.le_trans hO₅.n (Nat.le_add_right _ _)
        have hO₆ : Own B h (k₃.bump 21) [eBox r₁ [v_c_X, v_c_Y, v_c_Vert, v_c_Horz], eSl e_T_api_Point v₂ l] := hW
        refine WD_v (a_mv (v := v₂) q₂_8) ?_
        refine WD_v (a_mv (v := v_x) q₂_1) ?_
        refine WD_v (a_fa (r := r₁) (o := 0) (o' := 0) q₂_3 rfl) ?_
        refine WD_v (a_ldb (cs := [v_c_X, v_c_Y, v_c_Vert, v_c_Horz]) (v := v_c_X) (hO₆.box 0 rfl) rfl rfl) ?_
        refine WD_v (a_mv (v := .i .i64 x1) rfl) ?_
        obtain ⟨c₁, hp⟩ := ck_some hp
        refine WD_v (a_ixa (E := eInt) (z := x1) (hO₆.rd0 s_c_X.rd : Sl eInt (k₃.bump 21) v_c_X c.X) rfl rfl c₁) ?_
        refine WD_v (a_ldE (w := .i .i64 (gi c.X (x1 : Int).toNat)) (hO₆.rd0 s_c_X.rd : Sl eInt (k₃.bump 21) v_c_X c.X) rfl (toNat_lt c₁) rfl) ?_
        obtain ⟨c₂, hp⟩ := ck_some hp
        refine WD_v (a_ixa (E := eInt) (z := (gi c.X (x1 : Int).toNat)) (hO₆.rd0 s_x.rd : Sl eInt (k₃.bump 21) v_x x) rfl rfl c₂) ?_
        refine WD_v (a_ldE (w := .i .i64 (gi x (gi c.X (x1 : Int).toNat : Int).toNat)) (hO₆.rd0 s_x.rd : Sl eInt (k₃.bump 21) v_x x) rfl (toNat_lt c₂) rfl) ?_
        refine WD_v (a_mv (v := v_y) q₂_2) ?_
        refine WD_v (a_fa (r := r₁) (o := 0) (o' := 1) q₂_3 rfl) ?_
        refine WD_v (a_ldb (cs := [v_c_X, v_c_Y, v_c_Vert, v_c_Horz]) (v := v_c_Y) (hO₆.box 0 rfl) rfl rfl) ?_
        refine WD_v (a_mv (v := .i .i64 x1) rfl) ?_
        obtain ⟨c₃, hp⟩ := ck_some hp
        refine WD_v (a_ixa (E := eInt) (z := x1) (hO₆.rd0 s_c_Y.rd : Sl eInt (k₃.bump 21) v_c_Y c.Y) rfl rfl c₃) ?_
        refine WD_v (a_ldE (w := .i .i64 (gi c.Y (x1 : Int).toNat)) (hO₆.rd0 s_c_Y.rd : Sl eInt (k₃.bump 21) v_c_Y c.Y) rfl (toNat_lt c₃) rfl) ?_
        obtain ⟨c₄, hp⟩ := ck_some hp
        refine WD_v (a_ixa (E := eInt) (z := (gi c.Y (x1 : Int).toNat)) (hO₆.rd0 s_y.rd : Sl eInt (k₃.bump 21) v_y y) rfl rfl c₄) ?_
        refine WD_v (a_ldE (w := .i .i64 (gi y (gi c.Y (x1 : Int).toNat : Int).toNat)) (hO₆.rd0 s_y.rd : Sl eInt (k₃.bump 21) v_y y) rfl (toNat_lt c₄) rfl) ?_
        refine WD_v (a_build (cs := e_T_api_Point.c (⟨gi x (gi c.X (x1 : Int).toNat : Int).toNat, gi y (gi c.Y (x1 : Int).toNat : Int).toNat⟩ : T_api_Point)) (by rw [(ev_cons (v := .i .i64 (gi x (gi c.X (x1 : Int).toNat : Int).toNat)) rfl (ev_cons (v := .i .i64 (gi y (gi c.Y (x1 : Int).toNat : Int).toNat)) rfl ev_nil))]; rfl)) ?_
        refine WD_x (hO₆.bsl (E := e_T_api_Point) (l := [(⟨gi x (gi c.X (x1 : Int).toNat : Int).toNat, gi y (gi c.Y (x1 : Int).toNat : Int).toNat⟩ : T_api_Point)]) ⟨fr₁.m 18 (by decide) (by decide), nb₁⟩ (by rw [(ev_cons (v := .ag (e_T_api_Point.c (⟨gi x (gi c.X (x1 : Int).toNat : Int).toNat, gi y (gi c.Y (x1 : Int).toNat : Int).toNat⟩ : T_api_Point))) rfl ev_nil)]; rfl) rfl) ?_
        rintro v₄ k₅ z₁ ⟨r₂, f₂, hW⟩
        have fr₂ := fr₁.kept f₂ (by decide)
        have hO₇ : Own B h k₅ [eBox r₁ [v_c_X, v_c_Y, v_c_Vert, v_c_Horz], eSl e_T_api_Point v₂ l, eSl e_T_api_Point v₄ [(⟨gi x (gi c.X (x1 : Int).toNat : Int).toNat, gi y (gi c.Y (x1 : Int).toNat : Int).toNat⟩ : T_api_Point)]] := hW
        obtain ⟨c₅, hp⟩ := ck_some hp
        refine WD_x (hO₇.app (E := e_T_api_Point) (bytes := 16) 1 ⟨fr₂.m 19 (by decide) (by decide), nb₁⟩ rfl (hO₇.sl 2 rfl : Sl e_T_api_Point k₅ v₄ [(⟨gi x (gi c.X (x1 : Int).toNat : Int).toNat, gi y (gi c.Y (x1 : Int).toNat : Int).toNat⟩ : T_api_Point)]) rfl rfl (fun _ => rfl) c₅ (by decide)) ?_
        rintro v₅ k₆ z₂ ⟨f₃, hW⟩
        have fr₃ := fr₂.kept f₃ (by decide)
        have hO₈ : Own B h k₆ [eBox r₁ [v_c_X, v_c_Y, v_c_Vert, v_c_Horz], eSl e_T_api_Point v₅ (l ++ [(⟨gi x (gi c.X (x1 : Int).toNat : Int).toNat, gi y (gi c.Y (x1 : Int).toNat : Int).toNat⟩ : T_api_Point)]), eSl e_T_api_Point v₄ [(⟨gi x (gi c.X (x1 : Int).toNat : Int).toNat, gi y (gi c.Y (x1 : Int).toNat : Int).toNat⟩ : T_api_Point)]] := hW
        refine WD_v (a_mv (v := v₅) rfl) ?_
        refine WD_end ?_
        refine And.intro ?_ ?_
        · intro q hq
          simp only [List.mem_cons, List.not_mem_nil, or_false] at hq
          rcases hq with rfl | rfl | rfl | rfl | rfl | rfl | rfl | rfl | rfl
          · refine ap_ll ?_ ?_
            · exact (fun h => nomatch h)
            · exact (fun h => nomatch h)
          · refine ap_ll ?_ ?_
            · exact (fun h => nomatch h)
            · exact (fun h => nomatch h)
          · refine ap_ll ?_ ?_
            · exact (fun h => nomatch h)
            · exact (fun h => nomatch h)
          · refine ap_ll ?_ ?_
            · exact (fun h => nomatch h)
            · exact (fun h => nomatch h)
          · refine ap_ll ?_ ?_
            · exact (fun h => nomatch h)
            · exact (fun h => nomatch h)
          · refine ap_ll ?_ ?_
            · exact (fun h => nomatch h)
            · exact (fun h => nomatch h)
          · refine ap_ll ?_ ?_
            · exact (fun h => nomatch h)
            · exact (fun h => nomatch h)
          · refine ap_ll ?_ ?_
            · exact (fun h => nomatch h)
            · exact (fun h => nomatch h)
          · refine ap_ll ?_ ?_
            · exact (fun h => nomatch h)
            · exact (fun h => nomatch h)
        refine blk_n ?_
        refine then_n ?_
        refine W_rg ?_
        obtain ⟨c₆, hp⟩ := ck_some hp
        refine WO_v (a_add (a := x1) (b := 1) q₂_27 rfl c₆) ?_
        refine WO_v (a_mv (v := .i .i64 (x1 + 1)) rfl) ?_
        refine WO_end ?_
        have hp := Option.some.inj hp; subst hp
        exact (Or.inl (Exists.intro (l ++ [(⟨gi x (gi c.X (x1 : Int).toNat : Int).toNat, gi y (gi c.Y (x1 : Int).toNat : Int).toNat⟩ : T_api_Point)], x1 + 1) (And.intro rfl (And.intro rfl (Exists.intro v₅ (And.intro (q₂_1) (And.intro (q₂_2) (And.intro (q₂_3) (And.intro (rfl) (And.intro (q₂_26) (And.intro (rfl) (hO₈.pick [0, 1] rfl (by decide)))))))))))))
      · refine W_cF (t := (decide (x1 < (c.X.length : Int)))) rfl b₃ ?_
        refine W_ex ?_
        refine then_e ?_
        have hp := Option.some.inj hp; subst hp
        refine (Or.inr (Exists.intro l (And.intro rfl (And.intro (fun h => nomatch h) (fun he => ?_)))))
        subst he; exact (And.intro rfl (Exists.intro v₂ (And.intro (q₂_8) (hO₅.pick [1] rfl (by decide)))))
    intro e₁ q₁ k₂ hJ₁
    obtain ⟨l1, rfl⟩ : ∃ x, x = o₁ := ⟨_, rfl⟩
    obtain ⟨rfl, v₃, q₁_8, hO₃⟩ := hJ₁
    refine blk_i ?_
    refine then_n ?_
    refine W_sq ?_
    refine W_rg ?_
    refine WO_v (a_mv (v := v₃) q₁_8) ?_
    refine WO_v (a_mv (v := v₃) rfl) ?_
    refine WO_v (a_mv (v := .i .i64 0) rfl) ?_
    refine WO_end ?_
    refine then_n ?_
    refine W_rt ?_
    refine Ret_r (rs_t (n := 6) (v := v₃) rfl (rs_t (n := 7) (v := .i .i64 0) rfl rs_nil)) ?_
    have hp := Option.some.inj hp; subst hp
    exact (Exists.intro v₃ (And.intro rfl (hO₃.pick [0] rfl (by decide))))

end Mu
