/- The code comes to what was worked out. -/
import Derived.Test.YtdefkboekpjiiaaMuDf
import Derived.Test.YtdefkboekpjiiaaMuPa
import Derived.Test.YtdefkboekpjiiaaMuC1
set_option linter.unusedVariables false
set_option linter.unnecessarySimpa false
set_option linter.unusedSimpArgs false
set_option maxHeartbeats 2000000
set_option maxRecDepth 10000
namespace Mu
open Go (IntKind BinOp UnOp)
theorem p_arcs_Length.ok {h : Hp} {cells : List T_api_Cell} {at_ : List T_api_Point} {v_cells : V} {v_at_ : V} (s_cells : Sl e_T_api_Cell h v_cells cells) (s_at_ : Sl e_T_api_Point h v_at_ at_) {r : Int × Int} (hp : p_arcs_Length cells at_ = some r) :
    ∃ u k', Is G 133 [v_cells, v_at_] h u k' ∧ V.tu [.i .i64 r.1, .i .i64 r.2] = u ∧ Own (fun r => r < h.n) h k' [] := by
  refine WC.is (WC_of G_F_arcs_Length ?_)
  unfold p_arcs_Length at hp
  let B : Nat → Prop := (fun r => r < h.n)
  have hO : Own B h h [] := Own.start0 h
  refine W_sq ?_
  refine W_rg ?_
  refine WO_v (a_mv (v := .i .i64 0) rfl) ?_
  refine WO_v (a_mv (v := .i .i64 0) rfl) ?_
  refine WO_end ?_
  refine then_n ?_
  refine W_sq ?_
  refine W_sq ?_
  refine W_rg ?_
  refine WO_v (a_mv (v := v_cells) rfl) ?_
  obtain ⟨x, hx₁, hp⟩ := bd_some hp
  obtain ⟨u₁, k₁, ca₁, rfl, hW₁⟩ := p_grid_Check.ok (h := h)  (hO.rd0 s_cells.rd : Sl e_T_api_Cell h v_cells cells) hx₁
  refine WO_c (id := 66) (caps := []) rfl (mp_cons (v := v_cells) rfl mp_nil) ca₁ ?_
  have hO₁ : Own B h k₁ [] := hO.call hW₁ rfl
  refine WO_v (a_mv (v := .i .i64 x) rfl) ?_
  refine WO_end ?_
  refine then_n ?_
  refine W_sq ?_
  refine W_rg ?_
  refine WO_v (a_mv (v := .i .i64 x) rfl) ?_
  refine WO_v (a_neI (a := x) (b := 0) rfl rfl) ?_
  refine WO_end ?_
  refine then_n ?_
  rcases if_some hp with ⟨b₁, hp⟩ | ⟨b₁, hp⟩
  · refine W_cT (t := (!(decide (x = 0)))) rfl b₁ ?_
    refine W_sq ?_
    refine W_rg ?_
    refine WO_v (a_mv (v := .i .i64 x) rfl) ?_
    refine WO_v (a_mv (v := .i .i64 0) rfl) ?_
    refine WO_v (a_mv (v := .i .i64 x) rfl) ?_
    refine WO_end ?_
    refine then_n ?_
    refine W_rt ?_
    refine then_r ?_
    refine Ret_r (rs_t (n := 4) (v := .i .i64 0) rfl (rs_t (n := 5) (v := .i .i64 x) rfl rs_nil)) ?_
    have hp := Option.some.inj hp; subst hp
    exact (And.intro rfl (hO₁.pick [] rfl (by decide)))
  · refine W_cF (t := (!(decide (x = 0)))) rfl b₁ ?_
    refine W_sk ?_
    refine then_n ?_
    refine W_sq ?_
    refine W_sq ?_
    refine W_rg ?_
    refine WO_v (a_mv (v := v_at_) rfl) ?_
    refine WO_v (a_len (hO₁.rd0 s_at_.rd : Sl e_T_api_Point k₁ v_at_ at_) rfl) ?_
    refine WO_v (a_mv (v := v_cells) rfl) ?_
    refine WO_v (a_len (hO₁.rd0 s_cells.rd : Sl e_T_api_Cell k₁ v_cells cells) rfl) ?_
    refine WO_v (a_neI (a := (at_.length : Int)) (b := (cells.length : Int)) rfl rfl) ?_
    refine WO_v (a_mv (v := .b (!(decide ((at_.length : Int) = (cells.length : Int))))) rfl) ?_
    obtain ⟨t, hv₁, hp⟩ := bd_some hp
    refine WO_cut 3 (fun fr' k' => Own B h k' [] ∧ fr' 28 = .b t ∧ fr' 0 = v_cells ∧ fr' 1 = v_at_) ?_ ?_
    · clear hp; rcases if_some hv₁ with ⟨b₂, hp⟩ | ⟨b₂, hp⟩
      · skip
        refine WO_off rfl b₂ ?_
        refine WO_off rfl b₂ ?_
        refine WO_v (a_pickT (t := (!(decide ((at_.length : Int) = (cells.length : Int))))) (v := .b t) rfl b₂ (Eq.trans (b := V.b true) rfl (congrArg V.b (Option.some.inj hp)))) ?_
        refine WO_end ?_
        exact ⟨hO₁.pick [] rfl (by decide), rfl, rfl, rfl⟩
      · skip
        refine WO_on rfl b₂ ?_
        refine WO_v (a_mv (v := v_at_) rfl) ?_
        refine WO_on rfl b₂ ?_
        obtain ⟨x1, hx₂, hp⟩ := bd_some hp
        obtain ⟨u₂, k₂, ca₂, rfl, hW₂⟩ := p_slices_ContainsFunc_api_Point.ok (h := k₁)  (hO₁.rd0 s_at_.rd : Sl e_T_api_Point k₁ v_at_ at_) (fun k z0 y hk hx => p_arcs_far.ok (h := k)  hx) hx₂
        refine WO_c (id := 146) (caps := []) rfl (mp_cons (v := v_at_) rfl (mp_cons (v := .f 147 []) rfl mp_nil)) ca₂ ?_
        have hO₂ : Own B h k₂ [] := hO₁.call hW₂ rfl
        refine WO_v (a_pickF (t := (!(decide ((at_.length : Int) = (cells.length : Int))))) (v := .b t) rfl b₂ (Eq.trans (b := V.b x1) rfl (congrArg V.b (Option.some.inj hp)))) ?_
        refine WO_end ?_
        exact ⟨hO₂.pick [] rfl (by decide), rfl, rfl, rfl⟩
    rintro frg₁ k₃ ⟨hO₃, g₁_28, g₁_0, g₁_1⟩
    refine WO_end ?_
    refine then_n ?_
    rcases if_some hp with ⟨b₃, hp⟩ | ⟨b₃, hp⟩
    · refine W_cT (t := t) g₁_28 b₃ ?_
      refine W_sq ?_
      refine W_rg ?_
      refine WO_v (a_mv (v := .i .i64 0) rfl) ?_
      refine WO_v (a_mv (v := .i .i64 2) rfl) ?_
      refine WO_end ?_
      refine then_n ?_
      refine W_rt ?_
      refine then_r ?_
      refine Ret_r (rs_t (n := 4) (v := .i .i64 0) rfl (rs_t (n := 5) (v := .i .i64 2) rfl rs_nil)) ?_
      have hp := Option.some.inj hp; subst hp
      exact (And.intro rfl (hO₃.pick [] rfl (by decide)))
    · refine W_cF (t := t) g₁_28 b₃ ?_
      refine W_sk ?_
      refine then_n ?_
      refine W_sq ?_
      refine W_rg ?_
      refine WO_v (a_mv (v := .i .i64 0) rfl) ?_
      refine WO_end ?_
      refine then_n ?_
      refine W_sq ?_
      refine W_sq ?_
      refine W_rg ?_
      refine WO_v (a_mv (v := v_cells) g₁_0) ?_
      refine WO_v (a_len (hO₃.rd0 s_cells.rd : Sl e_T_api_Cell k₃ v_cells cells) rfl) ?_
      refine WO_v (a_mv (v := .i .i64 0) rfl) ?_
      refine WO_end ?_
      refine then_n ?_
      refine W_bl ?_
      obtain ⟨o₁, ho₁, hp⟩ := bd_some hp
      refine W.mono (Q := fun e fr k => match (generalizing := false) o₁ with
          | .inl sum1 => e = (.exit 0) ∧ fr 7 = .i .i64 sum1 ∧ Own B h k []
          | .inr _ => e = .ret ∧ fr 4 = .i .i64 0 ∧ fr 5 = .i .i64 15 ∧ Own B h k []) ?_ ?_
      · clear hp
        refine W_loopF (fun st fr k => match st with | (sum, x2) => fr 1 = v_at_ ∧ fr 7 = .i .i64 sum ∧ fr 29 = v_cells ∧ fr 30 = .i .i64 (cells.length : Int) ∧ fr 31 = .i .i64 x2 ∧ Own B h k []) ho₁ (s := (0, 0)) (And.intro (g₁_1) (And.intro (rfl) (And.intro (rfl) (And.intro (rfl) (And.intro (rfl) (hO₃.pick [] rfl (by decide))))))) ?_
        rintro ⟨sum, x2⟩ q₂ k₅ ⟨q₂_1, q₂_7, q₂_29, q₂_30, q₂_31, hO₅⟩ o₂ hp
        dsimp only [p_arcs_Length.s0] at hp
        refine W_sq ?_
        refine W_rg ?_
        refine WO_v (a_lss (a := x2) (b := (cells.length : Int)) q₂_31 q₂_30) ?_
        refine WO_end ?_
        refine then_n ?_
        refine W_sq ?_
        rcases if_some hp with ⟨b₄, hp⟩ | ⟨b₄, hp⟩
        · refine W_cT (t := (decide (x2 < (cells.length : Int)))) rfl b₄ ?_
          refine W_sk ?_
          refine then_n ?_
          refine W_sq ?_
          refine W_bl ?_
          refine W_sq ?_
          refine W_rg ?_
          refine WO_v (a_mv (v := .i .i64 x2) q₂_31) ?_
          obtain ⟨c₁, hp⟩ := ck_some hp
          refine WO_v (a_ixa (E := e_T_api_Cell) (z := x2) (hO₅.rd0 s_cells.rd : Sl e_T_api_Cell k₅ v_cells cells) q₂_29 q₂_31 c₁) ?_
          refine WO_v (a_ldA (E := e_T_api_Cell) (hO₅.rd0 s_cells.rd : Sl e_T_api_Cell k₅ v_cells cells) rfl (toNat_lt c₁)) ?_
          refine WO_x (hO₅.alloc (cs := e_T_api_Cell.c (⟨⟨0, 0, 0, 0⟩, ⟨0, 0, 0, 0⟩⟩ : T_api_Cell)) hO₅.fr) ?_
          rintro _ k₆ ⟨r₁, rfl, n₁, f₁, hW⟩
          have hO₆ : Own B h k₆ [eBox r₁ (e_T_api_Cell.c (⟨⟨0, 0, 0, 0⟩, ⟨0, 0, 0, 0⟩⟩ : T_api_Cell))] := hW
          refine WO_v (a_mv (v := .i .i64 x2) rfl) ?_
          refine WO_x (hO₆.stb (ws := e_T_api_Cell.c (gi cells (x2 : Int).toNat)) (cs' := e_T_api_Cell.c (gi cells (x2 : Int).toNat)) (v := .ag (e_T_api_Cell.c (gi cells (x2 : Int).toNat))) 0 rfl rfl rfl rfl ⟨rfl, Nat.le_of_ble_eq_true rfl, rfl⟩ rfl) ?_
          rintro _ k₇ ⟨rfl, f₂, m₁, hW⟩
          have hO₇ : Own B h k₇ [eBox r₁ (e_T_api_Cell.c (gi cells (x2 : Int).toNat))] := hW
          refine WO_end ?_
          refine then_n ?_
          refine W_sq ?_
          refine W_rg ?_
          refine WO_x (hO₇.bsl (E := eInt) (l := ([0, 1] : List Int)) hO₇.fr (by rw [(ev_cons (v := .i .i64 0) rfl (ev_cons (v := .i .i64 1) rfl ev_nil))]; rfl) rfl) ?_
          rintro v₁ k₈ ⟨r₂, f₃, hW⟩
          have hO₈ : Own B h k₈ [eBox r₁ (e_T_api_Cell.c (gi cells (x2 : Int).toNat)), eSl eInt v₁ ([0, 1] : List Int)] := hW
          refine WO_v (a_len (hO₈.sl 1 rfl : Sl eInt k₈ v₁ ([0, 1] : List Int)) rfl) ?_
          refine WO_v (a_mv (v := .i .i64 0) rfl) ?_
          refine WO_end ?_
          refine then_n ?_
          refine W_bl ?_
          obtain ⟨o₃, ho₂, hp⟩ := bd_some hp
          refine W.mono (Q := fun e fr k => match (generalizing := false) o₃ with
              | .inl sum3 => e = (.exit 2) ∧ fr 1 = v_at_ ∧ fr 7 = .i .i64 sum3 ∧ fr 29 = v_cells ∧ fr 30 = .i .i64 (cells.length : Int) ∧ fr 31 = .i .i64 x2 ∧ Own B h k []
              | .inr _ => e = .ret ∧ fr 4 = .i .i64 0 ∧ fr 5 = .i .i64 15 ∧ Own B h k []) ?_ ?_
          · clear hp
            refine W_loopF (fun st fr k => match st with | (sum2, x3) => fr 1 = v_at_ ∧ fr 7 = .i .i64 sum2 ∧ fr 8 = .i .i64 x2 ∧ fr 9 = .p r₁ 0 ∧ fr 29 = v_cells ∧ fr 30 = .i .i64 (cells.length : Int) ∧ fr 31 = .i .i64 x2 ∧ fr 36 = v₁ ∧ fr 37 = .i .i64 (([0, 1] : List Int).length : Int) ∧ fr 38 = .i .i64 x3 ∧ Own B h k [eBox r₁ (e_T_api_Cell.c (gi cells (x2 : Int).toNat)), eSl eInt v₁ ([0, 1] : List Int)]) ho₂ (s := (sum, 0)) (And.intro (q₂_1) (And.intro (q₂_7) (And.intro (rfl) (And.intro (rfl) (And.intro (q₂_29) (And.intro (q₂_30) (And.intro (q₂_31) (And.intro (rfl) (And.intro (rfl) (And.intro (rfl) (hO₈.pick [0, 1] rfl (by decide)))))))))))) ?_
            rintro ⟨sum2, x3⟩ q₄ k₁₀ ⟨q₄_1, q₄_7, q₄_8, q₄_9, q₄_29, q₄_30, q₄_31, q₄_36, q₄_37, q₄_38, hO₁₀⟩ o₄ hp
            dsimp only [p_arcs_Length.s1] at hp
            refine W_sq ?_
            refine W_rg ?_
            refine WO_v (a_lss (a := x3) (b := (([0, 1] : List Int).length : Int)) q₄_38 q₄_37) ?_
            refine WO_end ?_
            refine then_n ?_
            refine W_sq ?_
            rcases if_some hp with ⟨b₅, hp⟩ | ⟨b₅, hp⟩
            · refine W_cT (t := (decide (x3 < (([0, 1] : List Int).length : Int)))) rfl b₅ ?_
              refine W_sk ?_
              refine then_n ?_
              refine W_sq ?_
              refine W_bl ?_
              refine W_sq ?_
              refine W_rg ?_
              obtain ⟨c₂, hp⟩ := ck_some hp
              refine WO_v (a_ixa (E := eInt) (z := x3) (hO₁₀.sl 1 rfl : Sl eInt k₁₀ v₁ ([0, 1] : List Int)) q₄_36 q₄_38 c₂) ?_
              refine WO_v (a_ldE (w := .i .i64 (gi ([0, 1] : List Int) (x3 : Int).toNat)) (hO₁₀.sl 1 rfl : Sl eInt k₁₀ v₁ ([0, 1] : List Int)) rfl (toNat_lt c₂) rfl) ?_
              refine WO_v (a_mv (v := .i .i64 (gi ([0, 1] : List Int) (x3 : Int).toNat)) rfl) ?_
              refine WO_end ?_
              refine then_n ?_
              refine W_sq ?_
              refine W_rg ?_
              refine WO_v (a_mv (v := .i .i64 (gi ([0, 1] : List Int) (x3 : Int).toNat)) rfl) ?_
              refine WO_v (a_fa (r := r₁) (o := 0) (o' := 0) q₄_9 rfl) ?_
              obtain ⟨c₃, hp⟩ := ck_some hp
              refine WO_v (a_ixaa (o := 0) (o' := (0 + (gi ([0, 1] : List Int) (x3 : Int).toNat : Int).toNat * 1)) (z := (gi ([0, 1] : List Int) (x3 : Int).toNat)) rfl rfl c₃ rfl) ?_
              refine WO_v (a_ldb (cs := (e_T_api_Cell.c (gi cells (x2 : Int).toNat))) (v := .i .i64 (((gi cells (x2 : Int).toNat).Next).get (gi ([0, 1] : List Int) (x3 : Int).toNat))) (hO₁₀.box 0 rfl) rfl (ld_T_api_Cell_Next c₃)) ?_
              refine WO_v (a_mv (v := .i .i64 (((gi cells (x2 : Int).toNat).Next).get (gi ([0, 1] : List Int) (x3 : Int).toNat))) rfl) ?_
              refine WO_end ?_
              refine then_n ?_
              refine W_sq ?_
              refine W_sq ?_
              refine W_rg ?_
              refine WO_v (a_mv (v := .i .i64 (((gi cells (x2 : Int).toNat).Next).get (gi ([0, 1] : List Int) (x3 : Int).toNat))) rfl) ?_
              refine WO_v (a_lss (a := (((gi cells (x2 : Int).toNat).Next).get (gi ([0, 1] : List Int) (x3 : Int).toNat))) (b := 0) rfl rfl) ?_
              refine WO_end ?_
              refine then_n ?_
              rcases if_some hp with ⟨b₆, hp⟩ | ⟨b₆, hp⟩
              · refine W_cT (t := (decide ((((gi cells (x2 : Int).toNat).Next).get (gi ([0, 1] : List Int) (x3 : Int).toNat)) < 0))) rfl b₆ ?_
                refine W_ex ?_
                refine then_e ?_
                refine blk_i ?_
                refine then_n ?_
                refine W_rg ?_
                obtain ⟨c₄, hp⟩ := ck_some hp
                refine WO_v (a_add (a := x3) (b := 1) q₄_38 rfl c₄) ?_
                refine WO_v (a_mv (v := .i .i64 (x3 + 1)) rfl) ?_
                refine WO_end ?_
                have hp := Option.some.inj hp; subst hp
                exact (Or.inl (Exists.intro (sum2, x3 + 1) (And.intro rfl (And.intro rfl (And.intro (q₄_1) (And.intro (q₄_7) (And.intro (q₄_8) (And.intro (q₄_9) (And.intro (q₄_29) (And.intro (q₄_30) (And.intro (q₄_31) (And.intro (q₄_36) (And.intro (q₄_37) (And.intro (rfl) (hO₁₀.pick [0, 1] rfl (by decide))))))))))))))))
              · refine W_cF (t := (decide ((((gi cells (x2 : Int).toNat).Next).get (gi ([0, 1] : List Int) (x3 : Int).toNat)) < 0))) rfl b₆ ?_
                refine W_sk ?_
                refine then_n ?_
                refine W_sq ?_
                refine W_sq ?_
                refine W_dr ?_
                have hW := hO₁₀.bump 14
                have fr₁ := Fresh.start k₁₀ 14
                have nb₁ : ∀ {i : Nat}, h.n ≤ k₁₀.n + i := Nat.le_trans hO₁₀.n (Nat.le_add_right _ _)
                have hO₁₁ : Own B h (k₁₀.bump 14) [eBox r₁ (e_T_api_Cell.c (gi cells (x2 : Int).toNat)), eSl eInt v₁ ([0, 1] : List Int)] := hW
                refine WD_v (a_mv (v := v_at_) q₄_1) ?_
                refine WD_v (a_mv (v := .i .i64 x2) q₄_8) ?_
                obtain ⟨c₅, hp⟩ := ck_some hp
                refine WD_v (a_ixa (E := e_T_api_Point) (z := x2) (hO₁₁.rd0 s_at_.rd : Sl e_T_api_Point (k₁₀.bump 14) v_at_ at_) rfl rfl c₅) ?_
                refine WD_v (a_ldA (E := e_T_api_Point) (hO₁₁.rd0 s_at_.rd : Sl e_T_api_Point (k₁₀.bump 14) v_at_ at_) rfl (toNat_lt c₅)) ?_
                refine WD_v (a_mv (v := v_at_) q₄_1) ?_
                refine WD_v (a_mv (v := .i .i64 (((gi cells (x2 : Int).toNat).Next).get (gi ([0, 1] : List Int) (x3 : Int).toNat))) rfl) ?_
                obtain ⟨c₆, hp⟩ := ck_some hp
                refine WD_v (a_ixa (E := e_T_api_Point) (z := (((gi cells (x2 : Int).toNat).Next).get (gi ([0, 1] : List Int) (x3 : Int).toNat))) (hO₁₁.rd0 s_at_.rd : Sl e_T_api_Point (k₁₀.bump 14) v_at_ at_) rfl rfl c₆) ?_
                refine WD_v (a_ldA (E := e_T_api_Point) (hO₁₁.rd0 s_at_.rd : Sl e_T_api_Point (k₁₀.bump 14) v_at_ at_) rfl (toNat_lt c₆)) ?_
                obtain ⟨⟨x4, x5⟩, hx₃, hp⟩ := bd_some hp
                obtain ⟨u₃, k₁₂, ca₃, rfl, hW₃⟩ := p_compass_Between.ok (h := (k₁₀.bump 14))   hx₃
                refine WD_c (id := 148) (caps := []) rfl (mp_cons (v := .ag (e_T_api_Point.c (gi at_ (x2 : Int).toNat))) rfl (mp_cons (v := .ag (e_T_api_Point.c (gi at_ (((gi cells (x2 : Int).toNat).Next).get (gi ([0, 1] : List Int) (x3 : Int).toNat) : Int).toNat))) rfl mp_nil)) ca₃ ?_
                have fr₂ := fr₁.call hW₃
                have hO₁₂ : Own B h k₁₂ [eBox r₁ (e_T_api_Cell.c (gi cells (x2 : Int).toNat)), eSl eInt v₁ ([0, 1] : List Int)] := hO₁₁.call hW₃ rfl
                refine WD_v (a_mv (v := .tu [.i .i64 x4, .b x5]) rfl) ?_
                refine WD_v (a_ext (vs := [.i .i64 x4, .b x5]) (v := .i .i64 x4) rfl rfl) ?_
                refine WD_v (a_ext (vs := [.i .i64 x4, .b x5]) (v := .b x5) rfl rfl) ?_
                refine WD_v (a_mv (v := .i .i64 x4) rfl) ?_
                refine WD_v (a_mv (v := .b x5) rfl) ?_
                refine WD_end ?_
                refine And.intro ?_ ?_
                · intro q hq
                  simp only [List.mem_cons, List.not_mem_nil, or_false] at hq
                  rcases hq with rfl
                  · refine ap_ll ?_ ?_
                    · exact (fun h => nomatch h)
                    · exact (fun h => nomatch h)
                refine then_n ?_
                refine W_sq ?_
                refine W_rg ?_
                refine WO_v (a_mv (v := .b x5) rfl) ?_
                refine WO_v (a_not (t := x5) rfl) ?_
                refine WO_v (a_mv (v := .b (!x5)) rfl) ?_
                refine WO_cut 4 (fun fr' k' => k₁₂ = k' ∧ fr' 66 = .b ((!x5) || (!(decide (x4 = gi ([0, 1] : List Int) (x3 : Int).toNat)))) ∧ fr' 1 = v_at_ ∧ fr' 11 = .i .i64 (gi ([0, 1] : List Int) (x3 : Int).toNat) ∧ fr' 12 = .i .i64 (((gi cells (x2 : Int).toNat).Next).get (gi ([0, 1] : List Int) (x3 : Int).toNat)) ∧ fr' 29 = v_cells ∧ fr' 30 = .i .i64 (cells.length : Int) ∧ fr' 31 = .i .i64 x2 ∧ fr' 36 = v₁ ∧ fr' 37 = .i .i64 (([0, 1] : List Int).length : Int) ∧ fr' 38 = .i .i64 x3 ∧ fr' 7 = .i .i64 sum2 ∧ fr' 8 = .i .i64 x2 ∧ fr' 9 = .p r₁ 0) ?_ ?_
                · rcases bc (!x5) with b₇ | b₇
                  · skip
                    refine WO_off rfl b₇ ?_
                    refine WO_off rfl b₇ ?_
                    refine WO_off rfl b₇ ?_
                    refine WO_v (a_pickT (t := (!x5)) (v := .b ((!x5) || (!(decide (x4 = gi ([0, 1] : List Int) (x3 : Int).toNat))))) rfl b₇ (Eq.trans (b := V.b true) rfl (or_off b₇))) ?_
                    refine WO_end ?_
                    exact ⟨rfl, rfl, q₄_1, rfl, rfl, q₄_29, q₄_30, q₄_31, q₄_36, q₄_37, q₄_38, q₄_7, q₄_8, q₄_9⟩
                  · skip
                    refine WO_on rfl b₇ ?_
                    refine WO_v (a_mv (v := .i .i64 x4) rfl) ?_
                    refine WO_on rfl b₇ ?_
                    refine WO_v (a_mv (v := .i .i64 (gi ([0, 1] : List Int) (x3 : Int).toNat)) rfl) ?_
                    refine WO_on rfl b₇ ?_
                    refine WO_v (a_neI (a := x4) (b := (gi ([0, 1] : List Int) (x3 : Int).toNat)) rfl rfl) ?_
                    refine WO_v (a_pickF (t := (!x5)) (v := .b ((!x5) || (!(decide (x4 = gi ([0, 1] : List Int) (x3 : Int).toNat))))) rfl b₇ (Eq.trans (b := V.b (!(decide (x4 = gi ([0, 1] : List Int) (x3 : Int).toNat)))) rfl (or_on b₇))) ?_
                    refine WO_end ?_
                    exact ⟨rfl, rfl, q₄_1, rfl, rfl, q₄_29, q₄_30, q₄_31, q₄_36, q₄_37, q₄_38, q₄_7, q₄_8, q₄_9⟩
                rintro frg₂ _ ⟨rfl, g₂_66, g₂_1, g₂_11, g₂_12, g₂_29, g₂_30, g₂_31, g₂_36, g₂_37, g₂_38, g₂_7, g₂_8, g₂_9⟩
                refine WO_end ?_
                refine then_n ?_
                rcases if_some hp with ⟨b₈, hp⟩ | ⟨b₈, hp⟩
                · refine W_cT (t := ((!x5) || (!(decide (x4 = gi ([0, 1] : List Int) (x3 : Int).toNat))))) g₂_66 b₈ ?_
                  refine W_sq ?_
                  refine W_rg ?_
                  refine WO_v (a_mv (v := .i .i64 0) rfl) ?_
                  refine WO_v (a_mv (v := .i .i64 15) rfl) ?_
                  refine WO_end ?_
                  refine then_n ?_
                  refine W_rt ?_
                  refine then_r ?_
                  refine blk_r ?_
                  refine then_r ?_
                  have hp := Option.some.inj hp; subst hp
                  refine (Or.inr (Exists.intro (.inr ()) (And.intro rfl (And.intro (fun h => nomatch h) (fun he => ?_)))))
                  subst he; exact (And.intro rfl (And.intro (rfl) (And.intro (rfl) (hO₁₂.pick [] rfl (by decide)))))
                · refine W_cF (t := ((!x5) || (!(decide (x4 = gi ([0, 1] : List Int) (x3 : Int).toNat))))) g₂_66 b₈ ?_
                  refine W_sk ?_
                  refine then_n ?_
                  refine W_dr ?_
                  have hW := hO₁₂.bump 32
                  have fr₃ := Fresh.start k₁₂ 32
                  have nb₂ : ∀ {i : Nat}, h.n ≤ k₁₂.n + i := Nat.le_trans hO₁₂.n (Nat.le_add_right _ _)
                  have hO₁₃ : Own B h (k₁₂.bump 32) [eBox r₁ (e_T_api_Cell.c (gi cells (x2 : Int).toNat)), eSl eInt v₁ ([0, 1] : List Int)] := hW
                  refine WD_v (a_mv (v := .i .i64 sum2) g₂_7) ?_
                  refine WD_v (a_mv (v := .i .i64 (gi ([0, 1] : List Int) (x3 : Int).toNat)) g₂_11) ?_
                  refine WD_v (a_fa (r := r₁) (o := 0) (o' := 4) g₂_9 rfl) ?_
                  refine WD_v (a_ixaa (o := 4) (o' := (4 + (gi ([0, 1] : List Int) (x3 : Int).toNat : Int).toNat * 1)) (z := (gi ([0, 1] : List Int) (x3 : Int).toNat)) rfl rfl c₃ rfl) ?_
                  refine WD_v (a_ldb (cs := (e_T_api_Cell.c (gi cells (x2 : Int).toNat))) (v := .i .i64 (((gi cells (x2 : Int).toNat).Owner).get (gi ([0, 1] : List Int) (x3 : Int).toNat))) (hO₁₃.box 0 rfl) rfl (ld_T_api_Cell_Owner c₃)) ?_
                  obtain ⟨x6, hx₄, hp⟩ := bd_some hp
                  obtain ⟨u₄, k₁₄, ca₄, rfl, hW₄⟩ := p_arcs_weight.ok (h := (k₁₂.bump 32))   hx₄
                  refine WD_c (id := 149) (caps := []) rfl (mp_cons (v := .i .i64 (((gi cells (x2 : Int).toNat).Owner).get (gi ([0, 1] : List Int) (x3 : Int).toNat))) rfl mp_nil) ca₄ ?_
                  have fr₄ := fr₃.call hW₄
                  have hO₁₄ : Own B h k₁₄ [eBox r₁ (e_T_api_Cell.c (gi cells (x2 : Int).toNat)), eSl eInt v₁ ([0, 1] : List Int)] := hO₁₃.call hW₄ rfl
                  refine WD_v (a_mv (v := v_at_) g₂_1) ?_
                  refine WD_v (a_mv (v := .i .i64 (((gi cells (x2 : Int).toNat).Next).get (gi ([0, 1] : List Int) (x3 : Int).toNat))) g₂_12) ?_
                  refine WD_v (a_ixa (E := e_T_api_Point) (z := (((gi cells (x2 : Int).toNat).Next).get (gi ([0, 1] : List Int) (x3 : Int).toNat))) (hO₁₄.rd0 s_at_.rd : Sl e_T_api_Point k₁₄ v_at_ at_) rfl rfl c₆) ?_
                  refine WD_v (a_faE (off' := 0) (off2 := 0) (hO₁₄.rd0 s_at_.rd : Sl e_T_api_Point k₁₄ v_at_ at_) (toNat_lt c₆) rfl rfl) ?_
                  refine WD_v (a_ldE (w := .i .i64 ((gi at_ (((gi cells (x2 : Int).toNat).Next).get (gi ([0, 1] : List Int) (x3 : Int).toNat) : Int).toNat).X)) (hO₁₄.rd0 s_at_.rd : Sl e_T_api_Point k₁₄ v_at_ at_) rfl (toNat_lt c₆) rfl) ?_
                  refine WD_v (a_mv (v := v_at_) g₂_1) ?_
                  refine WD_v (a_mv (v := .i .i64 x2) g₂_8) ?_
                  refine WD_v (a_ixa (E := e_T_api_Point) (z := x2) (hO₁₄.rd0 s_at_.rd : Sl e_T_api_Point k₁₄ v_at_ at_) rfl rfl c₅) ?_
                  refine WD_v (a_faE (off' := 0) (off2 := 0) (hO₁₄.rd0 s_at_.rd : Sl e_T_api_Point k₁₄ v_at_ at_) (toNat_lt c₅) rfl rfl) ?_
                  refine WD_v (a_ldE (w := .i .i64 ((gi at_ (x2 : Int).toNat).X)) (hO₁₄.rd0 s_at_.rd : Sl e_T_api_Point k₁₄ v_at_ at_) rfl (toNat_lt c₅) rfl) ?_
                  obtain ⟨c₇, hp⟩ := ck_some hp
                  refine WD_v (a_sub (a := ((gi at_ (((gi cells (x2 : Int).toNat).Next).get (gi ([0, 1] : List Int) (x3 : Int).toNat) : Int).toNat).X)) (b := ((gi at_ (x2 : Int).toNat).X)) rfl rfl c₇) ?_
                  refine WD_v (a_mv (v := v_at_) g₂_1) ?_
                  refine WD_v (a_mv (v := .i .i64 (((gi cells (x2 : Int).toNat).Next).get (gi ([0, 1] : List Int) (x3 : Int).toNat))) g₂_12) ?_
                  refine WD_v (a_ixa (E := e_T_api_Point) (z := (((gi cells (x2 : Int).toNat).Next).get (gi ([0, 1] : List Int) (x3 : Int).toNat))) (hO₁₄.rd0 s_at_.rd : Sl e_T_api_Point k₁₄ v_at_ at_) rfl rfl c₆) ?_
                  refine WD_v (a_faE (off' := 0) (off2 := 1) (hO₁₄.rd0 s_at_.rd : Sl e_T_api_Point k₁₄ v_at_ at_) (toNat_lt c₆) rfl rfl) ?_
                  refine WD_v (a_ldE (w := .i .i64 ((gi at_ (((gi cells (x2 : Int).toNat).Next).get (gi ([0, 1] : List Int) (x3 : Int).toNat) : Int).toNat).Y)) (hO₁₄.rd0 s_at_.rd : Sl e_T_api_Point k₁₄ v_at_ at_) rfl (toNat_lt c₆) rfl) ?_
                  obtain ⟨c₈, hp⟩ := ck_some hp
                  refine WD_v (a_add (a := (((gi at_ (((gi cells (x2 : Int).toNat).Next).get (gi ([0, 1] : List Int) (x3 : Int).toNat) : Int).toNat).X) - ((gi at_ (x2 : Int).toNat).X))) (b := ((gi at_ (((gi cells (x2 : Int).toNat).Next).get (gi ([0, 1] : List Int) (x3 : Int).toNat) : Int).toNat).Y)) rfl rfl c₈) ?_
                  refine WD_v (a_mv (v := v_at_) g₂_1) ?_
                  refine WD_v (a_mv (v := .i .i64 x2) g₂_8) ?_
                  refine WD_v (a_ixa (E := e_T_api_Point) (z := x2) (hO₁₄.rd0 s_at_.rd : Sl e_T_api_Point k₁₄ v_at_ at_) rfl rfl c₅) ?_
                  refine WD_v (a_faE (off' := 0) (off2 := 1) (hO₁₄.rd0 s_at_.rd : Sl e_T_api_Point k₁₄ v_at_ at_) (toNat_lt c₅) rfl rfl) ?_
                  refine WD_v (a_ldE (w := .i .i64 ((gi at_ (x2 : Int).toNat).Y)) (hO₁₄.rd0 s_at_.rd : Sl e_T_api_Point k₁₄ v_at_ at_) rfl (toNat_lt c₅) rfl) ?_
                  obtain ⟨c₉, hp⟩ := ck_some hp
                  refine WD_v (a_sub (a := ((((gi at_ (((gi cells (x2 : Int).toNat).Next).get (gi ([0, 1] : List Int) (x3 : Int).toNat) : Int).toNat).X) - ((gi at_ (x2 : Int).toNat).X)) + ((gi at_ (((gi cells (x2 : Int).toNat).Next).get (gi ([0, 1] : List Int) (x3 : Int).toNat) : Int).toNat).Y))) (b := ((gi at_ (x2 : Int).toNat).Y)) rfl rfl c₉) ?_
                  obtain ⟨c₁₀, hp⟩ := ck_some hp
                  refine WD_v (a_mul (a := x6) (b := (((((gi at_ (((gi cells (x2 : Int).toNat).Next).get (gi ([0, 1] : List Int) (x3 : Int).toNat) : Int).toNat).X) - ((gi at_ (x2 : Int).toNat).X)) + ((gi at_ (((gi cells (x2 : Int).toNat).Next).get (gi ([0, 1] : List Int) (x3 : Int).toNat) : Int).toNat).Y)) - ((gi at_ (x2 : Int).toNat).Y))) rfl rfl c₁₀) ?_
                  obtain ⟨c₁₁, hp⟩ := ck_some hp
                  refine WD_v (a_add (a := sum2) (b := (x6 * (((((gi at_ (((gi cells (x2 : Int).toNat).Next).get (gi ([0, 1] : List Int) (x3 : Int).toNat) : Int).toNat).X) - ((gi at_ (x2 : Int).toNat).X)) + ((gi at_ (((gi cells (x2 : Int).toNat).Next).get (gi ([0, 1] : List Int) (x3 : Int).toNat) : Int).toNat).Y)) - ((gi at_ (x2 : Int).toNat).Y)))) rfl rfl c₁₁) ?_
                  refine WD_v (a_mv (v := .i .i64 (sum2 + (x6 * (((((gi at_ (((gi cells (x2 : Int).toNat).Next).get (gi ([0, 1] : List Int) (x3 : Int).toNat) : Int).toNat).X) - ((gi at_ (x2 : Int).toNat).X)) + ((gi at_ (((gi cells (x2 : Int).toNat).Next).get (gi ([0, 1] : List Int) (x3 : Int).toNat) : Int).toNat).Y)) - ((gi at_ (x2 : Int).toNat).Y))))) rfl) ?_
                  refine WD_end ?_
                  refine And.intro ?_ ?_
                  · intro q hq
                    simp only [List.mem_cons, List.not_mem_nil, or_false] at hq
                    rcases hq with rfl | rfl | rfl | rfl | rfl | rfl | rfl | rfl | rfl | rfl | rfl | rfl | rfl | rfl
                    · refine ap_ll ?_ ?_
                      · exact (fun h => nomatch h)
                      · exact (fun h => nomatch h)
                    · refine ap_cl rfl ?_
                      · exact (fun r hm hc => hc (hW₄.base r (Nat.lt_of_lt_of_le (Nat.lt_of_lt_of_le (hO₁₂.lo _ (Rd.B s_at_.rd hO₁₂.lo (toNat_lt c₆) _ (refs_elt (tch (v := V.elt v_at_ (((gi cells (x2 : Int).toNat).Next).get (gi ([0, 1] : List Int) (x3 : Int).toNat) : Int).toNat 0) (ld_el hm) rfl)))) hO₁₂.n) (Nat.le_trans (Nat.le_add_right _ _) fr₃.n))))
                    · refine ap_ll ?_ ?_
                      · exact (fun h => nomatch h)
                      · exact (fun h => nomatch h)
                    · refine ap_cl rfl ?_
                      · exact (fun r hm hc => hc (hW₄.base r (Nat.lt_of_lt_of_le (Nat.lt_of_lt_of_le (hO₁₂.lo _ (Rd.B s_at_.rd hO₁₂.lo (toNat_lt c₅) _ (refs_elt (tch (v := V.elt v_at_ (x2 : Int).toNat 0) (ld_el hm) rfl)))) hO₁₂.n) (Nat.le_trans (Nat.le_add_right _ _) fr₃.n))))
                    · refine ap_ll ?_ ?_
                      · exact (fun h => nomatch h)
                      · exact (fun h => nomatch h)
                    · refine ap_ll ?_ ?_
                      · exact (fun h => nomatch h)
                      · exact (fun h => nomatch h)
                    · refine ap_cl rfl ?_
                      · exact (fun r hm hc => hc (hW₄.base r (Nat.lt_of_lt_of_le (Nat.lt_of_lt_of_le (hO₁₂.lo _ (Rd.B s_at_.rd hO₁₂.lo (toNat_lt c₆) _ (refs_elt (tch (v := V.elt v_at_ (((gi cells (x2 : Int).toNat).Next).get (gi ([0, 1] : List Int) (x3 : Int).toNat) : Int).toNat 1) (ld_el hm) rfl)))) hO₁₂.n) (Nat.le_trans (Nat.le_add_right _ _) fr₃.n))))
                    · refine ap_ll ?_ ?_
                      · exact (fun h => nomatch h)
                      · exact (fun h => nomatch h)
                    · refine ap_ll ?_ ?_
                      · exact (fun h => nomatch h)
                      · exact (fun h => nomatch h)
                    · refine ap_ll ?_ ?_
                      · exact (fun h => nomatch h)
                      · exact (fun h => nomatch h)
                    · refine ap_cl rfl ?_
                      · exact (fun r hm hc => hc (hW₄.base r (Nat.lt_of_lt_of_le (Nat.lt_of_lt_of_le (hO₁₂.lo _ (Rd.B s_at_.rd hO₁₂.lo (toNat_lt c₅) _ (refs_elt (tch (v := V.elt v_at_ (x2 : Int).toNat 1) (ld_el hm) rfl)))) hO₁₂.n) (Nat.le_trans (Nat.le_add_right _ _) fr₃.n))))
                    · refine ap_ll ?_ ?_
                      · exact (fun h => nomatch h)
                      · exact (fun h => nomatch h)
                    · refine ap_ll ?_ ?_
                      · exact (fun h => nomatch h)
                      · exact (fun h => nomatch h)
                    · refine ap_ll ?_ ?_
                      · exact (fun h => nomatch h)
                      · exact (fun h => nomatch h)
                  refine blk_n ?_
                  refine then_n ?_
                  refine W_rg ?_
                  obtain ⟨c₁₂, hp⟩ := ck_some hp
                  refine WO_v (a_add (a := x3) (b := 1) g₂_38 rfl c₁₂) ?_
                  refine WO_v (a_mv (v := .i .i64 (x3 + 1)) rfl) ?_
                  refine WO_end ?_
                  have hp := Option.some.inj hp; subst hp
                  exact (Or.inl (Exists.intro (sum2 + (x6 * (((((gi at_ (((gi cells (x2 : Int).toNat).Next).get (gi ([0, 1] : List Int) (x3 : Int).toNat) : Int).toNat).X) - ((gi at_ (x2 : Int).toNat).X)) + ((gi at_ (((gi cells (x2 : Int).toNat).Next).get (gi ([0, 1] : List Int) (x3 : Int).toNat) : Int).toNat).Y)) - ((gi at_ (x2 : Int).toNat).Y))), x3 + 1) (And.intro rfl (And.intro rfl (And.intro (g₂_1) (And.intro (rfl) (And.intro (g₂_8) (And.intro (g₂_9) (And.intro (g₂_29) (And.intro (g₂_30) (And.intro (g₂_31) (And.intro (g₂_36) (And.intro (g₂_37) (And.intro (rfl) (hO₁₄.pick [0, 1] rfl (by decide))))))))))))))))
            · refine W_cF (t := (decide (x3 < (([0, 1] : List Int).length : Int)))) rfl b₅ ?_
              refine W_ex ?_
              refine then_e ?_
              have hp := Option.some.inj hp; subst hp
              refine (Or.inr (Exists.intro (.inl sum2) (And.intro rfl (And.intro (fun h => nomatch h) (fun he => ?_)))))
              subst he; exact (And.intro rfl (And.intro (q₄_1) (And.intro (q₄_7) (And.intro (q₄_29) (And.intro (q₄_30) (And.intro (q₄_31) (hO₁₀.pick [] rfl (by decide))))))))
          intro e₂ q₃ k₉ hJ₂
          rcases o₃ with sum3 | _
          · obtain ⟨rfl, q₃_1, q₃_7, q₃_29, q₃_30, q₃_31, hO₉⟩ := hJ₂
            refine blk_i ?_
            refine blk_n ?_
            refine then_n ?_
            refine W_rg ?_
            obtain ⟨c₁₃, hp⟩ := ck_some hp
            refine WO_v (a_add (a := x2) (b := 1) q₃_31 rfl c₁₃) ?_
            refine WO_v (a_mv (v := .i .i64 (x2 + 1)) rfl) ?_
            refine WO_end ?_
            have hp := Option.some.inj hp; subst hp
            exact (Or.inl (Exists.intro (sum3, x2 + 1) (And.intro rfl (And.intro rfl (And.intro (q₃_1) (And.intro (q₃_7) (And.intro (q₃_29) (And.intro (q₃_30) (And.intro (rfl) (hO₉.pick [] rfl (by decide)))))))))))
          · obtain ⟨rfl, q₃_4, q₃_5, hO₉⟩ := hJ₂
            refine blk_r ?_
            refine blk_r ?_
            refine then_r ?_
            have hp := Option.some.inj hp; subst hp
            refine (Or.inr (Exists.intro (.inr ()) (And.intro rfl (And.intro (fun h => nomatch h) (fun he => ?_)))))
            subst he; exact (And.intro rfl (And.intro (q₃_4) (And.intro (q₃_5) (hO₉.pick [] rfl (by decide)))))
        · refine W_cF (t := (decide (x2 < (cells.length : Int)))) rfl b₄ ?_
          refine W_ex ?_
          refine then_e ?_
          have hp := Option.some.inj hp; subst hp
          refine (Or.inr (Exists.intro (.inl sum) (And.intro rfl (And.intro (fun h => nomatch h) (fun he => ?_)))))
          subst he; exact (And.intro rfl (And.intro (q₂_7) (hO₅.pick [] rfl (by decide))))
      intro e₁ q₁ k₄ hJ₁
      rcases o₁ with sum1 | _
      · obtain ⟨rfl, q₁_7, hO₄⟩ := hJ₁
        refine blk_i ?_
        refine then_n ?_
        refine W_sq ?_
        refine W_rg ?_
        refine WO_v (a_mv (v := .i .i64 sum1) q₁_7) ?_
        refine WO_v (a_mv (v := .i .i64 sum1) rfl) ?_
        refine WO_v (a_mv (v := .i .i64 0) rfl) ?_
        refine WO_end ?_
        refine then_n ?_
        refine W_rt ?_
        refine Ret_r (rs_t (n := 4) (v := .i .i64 sum1) rfl (rs_t (n := 5) (v := .i .i64 0) rfl rs_nil)) ?_
        have hp := Option.some.inj hp; subst hp
        exact (And.intro rfl (hO₄.pick [] rfl (by decide)))
      · obtain ⟨rfl, q₁_4, q₁_5, hO₄⟩ := hJ₁
        refine blk_r ?_
        refine then_r ?_
        refine Ret_r (rs_t (n := 4) (v := .i .i64 0) q₁_4 (rs_t (n := 5) (v := .i .i64 15) q₁_5 rs_nil)) ?_
        have hp := Option.some.inj hp; subst hp
        exact (And.intro rfl (hO₄.pick [] rfl (by decide)))

theorem p_muntinlaw17_wakes.ok {h : Hp}    {r : Bool} (hp : p_muntinlaw17_wakes  = some r) :
    ∃ u k', Is G 130 [] h u k' ∧ V.b r = u ∧ Own (fun r => r < h.n) h k' [] := by
  refine WC.is (WC_of G_F_muntinlaw17_wakes ?_)
  unfold p_muntinlaw17_wakes at hp
  let B : Nat → Prop := (fun r => r < h.n)
  have hO : Own B h h [] := Own.start0 h
  refine W_sq ?_
  refine W_rg ?_
  refine WO_v (a_mv (v := .b false) rfl) ?_
  refine WO_end ?_
  refine then_n ?_
  refine W_sq ?_
  refine W_rg ?_
  obtain ⟨x, hx₁, hp⟩ := bd_some hp
  obtain ⟨u₁, k₁, ca₁, v₁, rfl, hW₁⟩ := p_muntinlaw17_square.ok (h := h)   hx₁
  refine WO_c (id := 145) (caps := []) rfl mp_nil ca₁ ?_
  have hO₁ : Own B h k₁ [eSl e_T_api_Cell v₁ x] := hO.call hW₁ rfl
  obtain ⟨⟨x1, x2⟩, hx₂, hp⟩ := bd_some hp
  obtain ⟨u₂, k₂, ca₂, v₂, v₃, v₄, vs₁, v₅, vs₂, v₆, v₇, rfl, hW₂⟩ := p_arcs_Of.ok (h := k₁)  (hO₁.sl 0 rfl : Sl e_T_api_Cell k₁ v₁ x) hx₂
  refine WO_c (id := 129) (caps := []) rfl (mp_cons (v := v₁) rfl mp_nil) ca₂ ?_
  have hO₂ : Own B h k₂ [eSl e_T_api_Cell v₁ x, eSl eInt v₂ x1.Chains.X, eSl eInt v₃ x1.Chains.Y, eSl eV v₄ vs₁, eAll eInt vs₁ x1.Chains.Vert, eSl eV v₅ vs₂, eAll eInt vs₂ x1.Chains.Horz, eSl e_T_api_Arc v₆ x1.H, eSl e_T_api_Arc v₇ x1.V] := hO₁.call hW₂ rfl
  refine WO_v (a_mv (v := .tu [.ag [v₂, v₃, v₄, v₅, v₆, v₇], .i .i64 x2]) rfl) ?_
  refine WO_v (a_ext (vs := [.ag [v₂, v₃, v₄, v₅, v₆, v₇], .i .i64 x2]) (v := .ag [v₂, v₃, v₄, v₅, v₆, v₇]) rfl rfl) ?_
  refine WO_v (a_ext (vs := [.ag [v₂, v₃, v₄, v₅, v₆, v₇], .i .i64 x2]) (v := .i .i64 x2) rfl rfl) ?_
  refine WO_x (hO₂.alloc (cs := [.sn, .sn, .sn, .sn, .sn, .sn]) hO₂.fr) ?_
  rintro _ k₃ ⟨r₁, rfl, n₁, f₁, hW⟩
  have hO₃ : Own B h k₃ [eSl e_T_api_Cell v₁ x, eSl eInt v₂ x1.Chains.X, eSl eInt v₃ x1.Chains.Y, eSl eV v₄ vs₁, eAll eInt vs₁ x1.Chains.Vert, eSl eV v₅ vs₂, eAll eInt vs₂ x1.Chains.Horz, eSl e_T_api_Arc v₆ x1.H, eSl e_T_api_Arc v₇ x1.V, eBox r₁ [.sn, .sn, .sn, .sn, .sn, .sn]] := hW
  refine WO_x (hO₃.stb (ws := [v₂, v₃, v₄, v₅, v₆, v₇]) (cs' := [v₂, v₃, v₄, v₅, v₆, v₇]) (v := .ag [v₂, v₃, v₄, v₅, v₆, v₇]) 9 rfl rfl rfl rfl ⟨rfl, Nat.le_of_ble_eq_true rfl, (all_cons (hO₃.sl 1 rfl : Sl eInt k₃ v₂ x1.Chains.X).oneV (all_cons (hO₃.sl 2 rfl : Sl eInt k₃ v₃ x1.Chains.Y).oneV (all_cons (hO₃.sl 3 rfl : Sl eV k₃ v₄ vs₁).oneV (all_cons (hO₃.sl 5 rfl : Sl eV k₃ v₅ vs₂).oneV (all_cons (hO₃.sl 7 rfl : Sl e_T_api_Arc k₃ v₆ x1.H).oneV (all_cons (hO₃.sl 8 rfl : Sl e_T_api_Arc k₃ v₇ x1.V).oneV all_nil))))))⟩ rfl) ?_
  rintro _ k₄ ⟨rfl, f₂, m₁, hW⟩
  have hO₄ : Own B h k₄ [eSl e_T_api_Cell v₁ x, eSl eInt v₂ x1.Chains.X, eSl eInt v₃ x1.Chains.Y, eSl eV v₄ vs₁, eAll eInt vs₁ x1.Chains.Vert, eSl eV v₅ vs₂, eAll eInt vs₂ x1.Chains.Horz, eSl e_T_api_Arc v₆ x1.H, eSl e_T_api_Arc v₇ x1.V, eBox r₁ [v₂, v₃, v₄, v₅, v₆, v₇]] := hW
  refine WO_v (a_mv (v := .i .i64 x2) rfl) ?_
  refine WO_end ?_
  refine then_n ?_
  refine W_sq ?_
  refine W_sq ?_
  refine W_rg ?_
  refine WO_v (a_mv (v := .i .i64 x2) rfl) ?_
  refine WO_v (a_neI (a := x2) (b := 0) rfl rfl) ?_
  refine WO_v (a_mv (v := .b (!(decide (x2 = 0)))) rfl) ?_
  refine WO_cut 5 (fun fr' k' => k₄ = k' ∧ fr' 19 = .b ((!(decide (x2 = 0))) || (!(decide ((x1.H.length : Int) = 2)))) ∧ fr' 1 = .p r₁ 0) ?_ ?_
  · rcases bc (!(decide (x2 = 0))) with b₁ | b₁
    · skip
      refine WO_off rfl b₁ ?_
      refine WO_off rfl b₁ ?_
      refine WO_off rfl b₁ ?_
      refine WO_off rfl b₁ ?_
      refine WO_v (a_pickT (t := (!(decide (x2 = 0)))) (v := .b ((!(decide (x2 = 0))) || (!(decide ((x1.H.length : Int) = 2))))) rfl b₁ (Eq.trans (b := V.b true) rfl (or_off b₁))) ?_
      refine WO_end ?_
      exact ⟨rfl, rfl, rfl⟩
    · skip
      refine WO_on rfl b₁ ?_
      refine WO_v (a_fa (r := r₁) (o := 0) (o' := 4) rfl rfl) ?_
      refine WO_on rfl b₁ ?_
      refine WO_v (a_ldb (cs := [v₂, v₃, v₄, v₅, v₆, v₇]) (v := v₆) (hO₄.box 9 rfl) rfl rfl) ?_
      refine WO_on rfl b₁ ?_
      refine WO_v (a_len (hO₄.sl 7 rfl : Sl e_T_api_Arc k₄ v₆ x1.H) rfl) ?_
      refine WO_on rfl b₁ ?_
      refine WO_v (a_neI (a := (x1.H.length : Int)) (b := 2) rfl rfl) ?_
      refine WO_v (a_pickF (t := (!(decide (x2 = 0)))) (v := .b ((!(decide (x2 = 0))) || (!(decide ((x1.H.length : Int) = 2))))) rfl b₁ (Eq.trans (b := V.b (!(decide ((x1.H.length : Int) = 2)))) rfl (or_on b₁))) ?_
      refine WO_end ?_
      exact ⟨rfl, rfl, rfl⟩
  rintro frg₁ _ ⟨rfl, g₁_19, g₁_1⟩
  refine WO_v (a_mv (v := .b ((!(decide (x2 = 0))) || (!(decide ((x1.H.length : Int) = 2))))) g₁_19) ?_
  obtain ⟨t, hv₁, hp⟩ := bd_some hp
  refine WO_cut 7 (fun fr' k' => k₄ = k' ∧ fr' 27 = .b t ∧ fr' 1 = .p r₁ 0) ?_ ?_
  · clear hp; rcases if_some hv₁ with ⟨b₂, hp⟩ | ⟨b₂, hp⟩
    · skip
      refine WO_off rfl b₂ ?_
      refine WO_off rfl b₂ ?_
      refine WO_off rfl b₂ ?_
      refine WO_off rfl b₂ ?_
      refine WO_off rfl b₂ ?_
      refine WO_off rfl b₂ ?_
      refine WO_v (a_pickT (t := ((!(decide (x2 = 0))) || (!(decide ((x1.H.length : Int) = 2))))) (v := .b t) rfl b₂ (Eq.trans (b := V.b true) rfl (congrArg V.b (Option.some.inj hp)))) ?_
      refine WO_end ?_
      exact ⟨rfl, rfl, g₁_1⟩
    · skip
      refine WO_on rfl b₂ ?_
      refine WO_v (a_fa (r := r₁) (o := 0) (o' := 4) g₁_1 rfl) ?_
      refine WO_on rfl b₂ ?_
      refine WO_v (a_ldb (cs := [v₂, v₃, v₄, v₅, v₆, v₇]) (v := v₆) (hO₄.box 9 rfl) rfl rfl) ?_
      refine WO_on rfl b₂ ?_
      obtain ⟨c₁, hp⟩ := ck_some hp
      refine WO_v (a_ixa (E := e_T_api_Arc) (z := 1) (hO₄.sl 7 rfl : Sl e_T_api_Arc k₄ v₆ x1.H) rfl rfl c₁) ?_
      refine WO_on rfl b₂ ?_
      refine WO_v (a_ldA (E := e_T_api_Arc) (hO₄.sl 7 rfl : Sl e_T_api_Arc k₄ v₆ x1.H) rfl (toNat_lt c₁)) ?_
      refine WO_on rfl b₂ ?_
      refine WO_v (a_build (cs := e_T_api_Arc.c (⟨0, 1, 1⟩ : T_api_Arc)) (by rw [(ev_cons (v := .i .i64 0) rfl (ev_cons (v := .i .i64 1) rfl (ev_cons (v := .i .i64 1) rfl ev_nil)))]; rfl)) ?_
      refine WO_on rfl b₂ ?_
      refine WO_v (a_neA (as := e_T_api_Arc.c (gi x1.H (1 : Int).toNat)) (bs := e_T_api_Arc.c (⟨0, 1, 1⟩ : T_api_Arc)) rfl rfl (Mu.e_T_api_Arc.same _ _)) ?_
      refine WO_v (a_pickF (t := ((!(decide (x2 = 0))) || (!(decide ((x1.H.length : Int) = 2))))) (v := .b t) rfl b₂ (Eq.trans (b := V.b (!(decide (gi x1.H (1 : Int).toNat = (⟨0, 1, 1⟩ : T_api_Arc))))) rfl (congrArg V.b (Option.some.inj hp)))) ?_
      refine WO_end ?_
      exact ⟨rfl, rfl, g₁_1⟩
  rintro frg₂ _ ⟨rfl, g₂_27, g₂_1⟩
  refine WO_v (a_mv (v := .b t) g₂_27) ?_
  obtain ⟨t1, hv₂, hp⟩ := bd_some hp
  refine WO_cut 7 (fun fr' k' => k₄ = k' ∧ fr' 35 = .b t1 ∧ fr' 1 = .p r₁ 0) ?_ ?_
  · clear hp; rcases if_some hv₂ with ⟨b₃, hp⟩ | ⟨b₃, hp⟩
    · skip
      refine WO_off rfl b₃ ?_
      refine WO_off rfl b₃ ?_
      refine WO_off rfl b₃ ?_
      refine WO_off rfl b₃ ?_
      refine WO_off rfl b₃ ?_
      refine WO_off rfl b₃ ?_
      refine WO_v (a_pickT (t := t) (v := .b t1) rfl b₃ (Eq.trans (b := V.b true) rfl (congrArg V.b (Option.some.inj hp)))) ?_
      refine WO_end ?_
      exact ⟨rfl, rfl, g₂_1⟩
    · skip
      refine WO_on rfl b₃ ?_
      refine WO_v (a_fa (r := r₁) (o := 0) (o' := 5) g₂_1 rfl) ?_
      refine WO_on rfl b₃ ?_
      refine WO_v (a_ldb (cs := [v₂, v₃, v₄, v₅, v₆, v₇]) (v := v₇) (hO₄.box 9 rfl) rfl rfl) ?_
      refine WO_on rfl b₃ ?_
      obtain ⟨c₂, hp⟩ := ck_some hp
      refine WO_v (a_ixa (E := e_T_api_Arc) (z := 0) (hO₄.sl 8 rfl : Sl e_T_api_Arc k₄ v₇ x1.V) rfl rfl c₂) ?_
      refine WO_on rfl b₃ ?_
      refine WO_v (a_ldA (E := e_T_api_Arc) (hO₄.sl 8 rfl : Sl e_T_api_Arc k₄ v₇ x1.V) rfl (toNat_lt c₂)) ?_
      refine WO_on rfl b₃ ?_
      refine WO_v (a_build (cs := e_T_api_Arc.c (⟨0, 1, (0 : Int)⟩ : T_api_Arc)) (by rw [(ev_cons (v := .i .i64 0) rfl (ev_cons (v := .i .i64 1) rfl ev_nil))]; rfl)) ?_
      refine WO_on rfl b₃ ?_
      refine WO_v (a_neA (as := e_T_api_Arc.c (gi x1.V (0 : Int).toNat)) (bs := e_T_api_Arc.c (⟨0, 1, (0 : Int)⟩ : T_api_Arc)) rfl rfl (Mu.e_T_api_Arc.same _ _)) ?_
      refine WO_v (a_pickF (t := t) (v := .b t1) rfl b₃ (Eq.trans (b := V.b (!(decide (gi x1.V (0 : Int).toNat = (⟨0, 1, (0 : Int)⟩ : T_api_Arc))))) rfl (congrArg V.b (Option.some.inj hp)))) ?_
      refine WO_end ?_
      exact ⟨rfl, rfl, g₂_1⟩
  rintro frg₃ _ ⟨rfl, g₃_35, g₃_1⟩
  refine WO_end ?_
  refine then_n ?_
  rcases if_some hp with ⟨b₄, hp⟩ | ⟨b₄, hp⟩
  · refine W_cT (t := t1) g₃_35 b₄ ?_
    refine W_sq ?_
    refine W_rg ?_
    refine WO_v (a_mv (v := .b false) rfl) ?_
    refine WO_end ?_
    refine then_n ?_
    refine W_rt ?_
    refine then_r ?_
    refine Ret_r (rs_t (n := 0) (v := .b false) rfl rs_nil) ?_
    have hp := Option.some.inj hp; subst hp
    exact (And.intro rfl (hO₄.pick [] rfl (by decide)))
  · refine W_cF (t := t1) g₃_35 b₄ ?_
    refine W_sk ?_
    refine then_n ?_
    refine W_sq ?_
    refine W_rg ?_
    refine WO_v (a_fa (r := r₁) (o := 0) (o' := 0) g₃_1 rfl) ?_
    refine WO_v (a_ldbA (cs := [v₂, v₃, v₄, v₅, v₆, v₇]) (ws := [v₂, v₃, v₄, v₅]) (hO₄.box 9 rfl) rfl rfl) ?_
    refine WO_x (hO₄.bsl (E := eInt) (l := ([0, 5] : List Int)) hO₄.fr (by rw [(ev_cons (v := .i .i64 0) rfl (ev_cons (v := .i .i64 5) rfl ev_nil))]; rfl) rfl) ?_
    rintro v₈ k₅ ⟨r₂, f₃, hW⟩
    have hO₅ : Own B h k₅ [eSl e_T_api_Cell v₁ x, eSl eInt v₂ x1.Chains.X, eSl eInt v₃ x1.Chains.Y, eSl eV v₄ vs₁, eAll eInt vs₁ x1.Chains.Vert, eSl eV v₅ vs₂, eAll eInt vs₂ x1.Chains.Horz, eSl e_T_api_Arc v₆ x1.H, eSl e_T_api_Arc v₇ x1.V, eBox r₁ [v₂, v₃, v₄, v₅, v₆, v₇], eSl eInt v₈ ([0, 5] : List Int)] := hW
    refine WO_x (hO₅.bsl (E := eInt) (l := ([0, 2] : List Int)) hO₅.fr (by rw [(ev_cons (v := .i .i64 0) rfl (ev_cons (v := .i .i64 2) rfl ev_nil))]; rfl) rfl) ?_
    rintro v₉ k₆ ⟨r₃, f₄, hW⟩
    have hO₆ : Own B h k₆ [eSl e_T_api_Cell v₁ x, eSl eInt v₂ x1.Chains.X, eSl eInt v₃ x1.Chains.Y, eSl eV v₄ vs₁, eAll eInt vs₁ x1.Chains.Vert, eSl eV v₅ vs₂, eAll eInt vs₂ x1.Chains.Horz, eSl e_T_api_Arc v₆ x1.H, eSl e_T_api_Arc v₇ x1.V, eBox r₁ [v₂, v₃, v₄, v₅, v₆, v₇], eSl eInt v₈ ([0, 5] : List Int), eSl eInt v₉ ([0, 2] : List Int)] := hW
    obtain ⟨⟨x3, x4⟩, hx₃, hp⟩ := bd_some hp
    obtain ⟨u₃, k₇, ca₃, v₁₀, rfl, hW₃⟩ := p_arcs_Place.ok (h := k₆)  (hO₆.sl 1 rfl : Sl eInt k₆ v₂ x1.Chains.X) (hO₆.sl 2 rfl : Sl eInt k₆ v₃ x1.Chains.Y) (hO₆.sl 3 rfl : Sl eV k₆ v₄ vs₁) (hO₆.allLen 4 rfl : (vs₁).length = (x1.Chains.Vert).length) (fun j hj => hO₆.inn 4 rfl hj) (hO₆.sl 5 rfl : Sl eV k₆ v₅ vs₂) (hO₆.allLen 6 rfl : (vs₂).length = (x1.Chains.Horz).length) (fun j hj => hO₆.inn 6 rfl hj) (hO₆.sl 10 rfl : Sl eInt k₆ v₈ ([0, 5] : List Int)) (hO₆.sl 11 rfl : Sl eInt k₆ v₉ ([0, 2] : List Int)) hx₃
    refine WO_c (id := 132) (caps := []) rfl (mp_cons (v := .ag [v₂, v₃, v₄, v₅]) rfl (mp_cons (v := v₈) rfl (mp_cons (v := v₉) rfl mp_nil))) ca₃ ?_
    have hO₇ : Own B h k₇ [eSl e_T_api_Cell v₁ x, eSl eInt v₂ x1.Chains.X, eSl eInt v₃ x1.Chains.Y, eSl eV v₄ vs₁, eAll eInt vs₁ x1.Chains.Vert, eSl eV v₅ vs₂, eAll eInt vs₂ x1.Chains.Horz, eSl e_T_api_Arc v₆ x1.H, eSl e_T_api_Arc v₇ x1.V, eBox r₁ [v₂, v₃, v₄, v₅, v₆, v₇], eSl eInt v₈ ([0, 5] : List Int), eSl eInt v₉ ([0, 2] : List Int), eSl e_T_api_Point v₁₀ x3] := hO₆.call hW₃ rfl
    refine WO_v (a_mv (v := .tu [v₁₀, .i .i64 x4]) rfl) ?_
    refine WO_v (a_ext (vs := [v₁₀, .i .i64 x4]) (v := v₁₀) rfl rfl) ?_
    refine WO_v (a_ext (vs := [v₁₀, .i .i64 x4]) (v := .i .i64 x4) rfl rfl) ?_
    refine WO_v (a_mv (v := v₁₀) rfl) ?_
    refine WO_v (a_mv (v := .i .i64 x4) rfl) ?_
    refine WO_end ?_
    refine then_n ?_
    refine W_sq ?_
    refine W_rg ?_
    obtain ⟨x5, hx₄, hp⟩ := bd_some hp
    obtain ⟨u₄, k₈, ca₄, v₁₁, rfl, hW₄⟩ := p_muntinlaw17_square.ok (h := k₇)   hx₄
    refine WO_c (id := 145) (caps := []) rfl mp_nil ca₄ ?_
    have hO₈ : Own B h k₈ [eSl e_T_api_Cell v₁ x, eSl eInt v₂ x1.Chains.X, eSl eInt v₃ x1.Chains.Y, eSl eV v₄ vs₁, eAll eInt vs₁ x1.Chains.Vert, eSl eV v₅ vs₂, eAll eInt vs₂ x1.Chains.Horz, eSl e_T_api_Arc v₆ x1.H, eSl e_T_api_Arc v₇ x1.V, eBox r₁ [v₂, v₃, v₄, v₅, v₆, v₇], eSl eInt v₈ ([0, 5] : List Int), eSl eInt v₉ ([0, 2] : List Int), eSl e_T_api_Point v₁₀ x3, eSl e_T_api_Cell v₁₁ x5] := hO₇.call hW₄ rfl
    refine WO_v (a_mv (v := v₁₀) rfl) ?_
    obtain ⟨⟨x6, x7⟩, hx₅, hp⟩ := bd_some hp
    obtain ⟨u₅, k₉, ca₅, rfl, hW₅⟩ := p_arcs_Length.ok (h := k₈)  (hO₈.sl 13 rfl : Sl e_T_api_Cell k₈ v₁₁ x5) (hO₈.sl 12 rfl : Sl e_T_api_Point k₈ v₁₀ x3) hx₅
    refine WO_c (id := 133) (caps := []) rfl (mp_cons (v := v₁₁) rfl (mp_cons (v := v₁₀) rfl mp_nil)) ca₅ ?_
    have hO₉ : Own B h k₉ [eSl e_T_api_Cell v₁ x, eSl eInt v₂ x1.Chains.X, eSl eInt v₃ x1.Chains.Y, eSl eV v₄ vs₁, eAll eInt vs₁ x1.Chains.Vert, eSl eV v₅ vs₂, eAll eInt vs₂ x1.Chains.Horz, eSl e_T_api_Arc v₆ x1.H, eSl e_T_api_Arc v₇ x1.V, eBox r₁ [v₂, v₃, v₄, v₅, v₆, v₇], eSl eInt v₈ ([0, 5] : List Int), eSl eInt v₉ ([0, 2] : List Int), eSl e_T_api_Point v₁₀ x3, eSl e_T_api_Cell v₁₁ x5] := hO₈.call hW₅ rfl
    refine WO_v (a_mv (v := .tu [.i .i64 x6, .i .i64 x7]) rfl) ?_
    refine WO_v (a_ext (vs := [.i .i64 x6, .i .i64 x7]) (v := .i .i64 x6) rfl rfl) ?_
    refine WO_v (a_ext (vs := [.i .i64 x6, .i .i64 x7]) (v := .i .i64 x7) rfl rfl) ?_
    refine WO_v (a_mv (v := .i .i64 x6) rfl) ?_
    refine WO_v (a_mv (v := .i .i64 x7) rfl) ?_
    refine WO_end ?_
    refine then_n ?_
    refine W_sq ?_
    refine W_rg ?_
    refine WO_v (a_mv (v := .i .i64 x4) rfl) ?_
    refine WO_v (a_eqI (a := x4) (b := 0) rfl rfl) ?_
    refine WO_v (a_mv (v := .b (decide (x4 = 0))) rfl) ?_
    refine WO_cut 4 (fun fr' k' => k₉ = k' ∧ fr' 56 = .b ((decide (x4 = 0)) && (decide ((x3.length : Int) = 4))) ∧ fr' 3 = v₁₀ ∧ fr' 5 = .i .i64 x6 ∧ fr' 6 = .i .i64 x7) ?_ ?_
    · rcases bc (decide (x4 = 0)) with b₅ | b₅
      · skip
        refine WO_on rfl b₅ ?_
        refine WO_v (a_mv (v := v₁₀) rfl) ?_
        refine WO_on rfl b₅ ?_
        refine WO_v (a_len (hO₉.sl 12 rfl : Sl e_T_api_Point k₉ v₁₀ x3) rfl) ?_
        refine WO_on rfl b₅ ?_
        refine WO_v (a_eqI (a := (x3.length : Int)) (b := 4) rfl rfl) ?_
        refine WO_v (a_pickT (t := (decide (x4 = 0))) (v := .b ((decide (x4 = 0)) && (decide ((x3.length : Int) = 4)))) rfl b₅ (Eq.trans (b := V.b (decide ((x3.length : Int) = 4))) rfl (and_on b₅))) ?_
        refine WO_end ?_
        exact ⟨rfl, rfl, rfl, rfl, rfl⟩
      · skip
        refine WO_off rfl b₅ ?_
        refine WO_off rfl b₅ ?_
        refine WO_off rfl b₅ ?_
        refine WO_v (a_pickF (t := (decide (x4 = 0))) (v := .b ((decide (x4 = 0)) && (decide ((x3.length : Int) = 4)))) rfl b₅ (Eq.trans (b := V.b false) rfl (and_off b₅))) ?_
        refine WO_end ?_
        exact ⟨rfl, rfl, rfl, rfl, rfl⟩
    rintro frg₄ _ ⟨rfl, g₄_56, g₄_3, g₄_5, g₄_6⟩
    refine WO_v (a_mv (v := .b ((decide (x4 = 0)) && (decide ((x3.length : Int) = 4)))) g₄_56) ?_
    obtain ⟨t2, hv₃, hp⟩ := bd_some hp
    refine WO_cut 6 (fun fr' k' => k₉ = k' ∧ fr' 63 = .b t2 ∧ fr' 5 = .i .i64 x6 ∧ fr' 6 = .i .i64 x7) ?_ ?_
    · clear hp; rcases if_some hv₃ with ⟨b₆, hp⟩ | ⟨b₆, hp⟩
      · skip
        refine WO_on rfl b₆ ?_
        refine WO_v (a_mv (v := v₁₀) g₄_3) ?_
        refine WO_on rfl b₆ ?_
        obtain ⟨c₃, hp⟩ := ck_some hp
        refine WO_v (a_ixa (E := e_T_api_Point) (z := 2) (hO₉.sl 12 rfl : Sl e_T_api_Point k₉ v₁₀ x3) rfl rfl c₃) ?_
        refine WO_on rfl b₆ ?_
        refine WO_v (a_ldA (E := e_T_api_Point) (hO₉.sl 12 rfl : Sl e_T_api_Point k₉ v₁₀ x3) rfl (toNat_lt c₃)) ?_
        refine WO_on rfl b₆ ?_
        refine WO_v (a_build (cs := e_T_api_Point.c (⟨5, 2⟩ : T_api_Point)) (by rw [(ev_cons (v := .i .i64 5) rfl (ev_cons (v := .i .i64 2) rfl ev_nil))]; rfl)) ?_
        refine WO_on rfl b₆ ?_
        refine WO_v (a_eqA (as := e_T_api_Point.c (gi x3 (2 : Int).toNat)) (bs := e_T_api_Point.c (⟨5, 2⟩ : T_api_Point)) rfl rfl (Mu.e_T_api_Point.same _ _)) ?_
        refine WO_v (a_pickT (t := ((decide (x4 = 0)) && (decide ((x3.length : Int) = 4)))) (v := .b t2) rfl b₆ (Eq.trans (b := V.b (decide (gi x3 (2 : Int).toNat = (⟨5, 2⟩ : T_api_Point)))) rfl (congrArg V.b (Option.some.inj hp)))) ?_
        refine WO_end ?_
        exact ⟨rfl, rfl, g₄_5, g₄_6⟩
      · skip
        refine WO_off rfl b₆ ?_
        refine WO_off rfl b₆ ?_
        refine WO_off rfl b₆ ?_
        refine WO_off rfl b₆ ?_
        refine WO_off rfl b₆ ?_
        refine WO_v (a_pickF (t := ((decide (x4 = 0)) && (decide ((x3.length : Int) = 4)))) (v := .b t2) rfl b₆ (Eq.trans (b := V.b false) rfl (congrArg V.b (Option.some.inj hp)))) ?_
        refine WO_end ?_
        exact ⟨rfl, rfl, g₄_5, g₄_6⟩
    rintro frg₅ _ ⟨rfl, g₅_63, g₅_5, g₅_6⟩
    refine WO_v (a_mv (v := .b t2) g₅_63) ?_
    refine WO_cut 3 (fun fr' k' => k₉ = k' ∧ fr' 67 = .b (t2 && (decide (x6 = 12))) ∧ fr' 6 = .i .i64 x7) ?_ ?_
    · rcases bc t2 with b₇ | b₇
      · skip
        refine WO_on rfl b₇ ?_
        refine WO_v (a_mv (v := .i .i64 x6) g₅_5) ?_
        refine WO_on rfl b₇ ?_
        refine WO_v (a_eqI (a := x6) (b := 12) rfl rfl) ?_
        refine WO_v (a_pickT (t := t2) (v := .b (t2 && (decide (x6 = 12)))) rfl b₇ (Eq.trans (b := V.b (decide (x6 = 12))) rfl (and_on b₇))) ?_
        refine WO_end ?_
        exact ⟨rfl, rfl, g₅_6⟩
      · skip
        refine WO_off rfl b₇ ?_
        refine WO_off rfl b₇ ?_
        refine WO_v (a_pickF (t := t2) (v := .b (t2 && (decide (x6 = 12)))) rfl b₇ (Eq.trans (b := V.b false) rfl (and_off b₇))) ?_
        refine WO_end ?_
        exact ⟨rfl, rfl, g₅_6⟩
    rintro frg₆ _ ⟨rfl, g₆_67, g₆_6⟩
    refine WO_v (a_mv (v := .b (t2 && (decide (x6 = 12)))) g₆_67) ?_
    refine WO_cut 3 (fun fr' k' => k₉ = k' ∧ fr' 71 = .b ((t2 && (decide (x6 = 12))) && (decide (x7 = 0)))) ?_ ?_
    · rcases bc (t2 && (decide (x6 = 12))) with b₈ | b₈
      · skip
        refine WO_on rfl b₈ ?_
        refine WO_v (a_mv (v := .i .i64 x7) g₆_6) ?_
        refine WO_on rfl b₈ ?_
        refine WO_v (a_eqI (a := x7) (b := 0) rfl rfl) ?_
        refine WO_v (a_pickT (t := (t2 && (decide (x6 = 12)))) (v := .b ((t2 && (decide (x6 = 12))) && (decide (x7 = 0)))) rfl b₈ (Eq.trans (b := V.b (decide (x7 = 0))) rfl (and_on b₈))) ?_
        refine WO_end ?_
        exact ⟨rfl, rfl⟩
      · skip
        refine WO_off rfl b₈ ?_
        refine WO_off rfl b₈ ?_
        refine WO_v (a_pickF (t := (t2 && (decide (x6 = 12)))) (v := .b ((t2 && (decide (x6 = 12))) && (decide (x7 = 0)))) rfl b₈ (Eq.trans (b := V.b false) rfl (and_off b₈))) ?_
        refine WO_end ?_
        exact ⟨rfl, rfl⟩
    rintro frg₇ _ ⟨rfl, g₇_71⟩
    refine WO_v (a_mv (v := .b ((t2 && (decide (x6 = 12))) && (decide (x7 = 0)))) g₇_71) ?_
    refine WO_end ?_
    refine then_n ?_
    refine W_rt ?_
    refine Ret_r (rs_t (n := 0) (v := .b ((t2 && (decide (x6 = 12))) && (decide (x7 = 0)))) rfl rs_nil) ?_
    have hp := Option.some.inj hp; subst hp
    exact (And.intro rfl (hO₉.pick [] rfl (by decide)))

theorem p_muntinlaw17_numbers.ok {h : Hp} {l : List Int} {n : Int} {wide : Int} {v_l : V} (s_l : Sl eInt h v_l l) {r : (List Int)} (hp : p_muntinlaw17_numbers l n wide = some r) :
    ∃ u k', Is G 131 [v_l, .i .i64 n, .i .i64 wide] h u k' ∧ ∃ (v₁ : V), v₁ = u ∧ Own (fun r => r < h.n) h k' [eSl eInt v₁ r] := by
  refine WC.is (WC_of G_F_muntinlaw17_numbers ?_)
  unfold p_muntinlaw17_numbers at hp
  let B : Nat → Prop := (fun r => r < h.n)
  have hO : Own B h h [] := Own.start0 h
  refine W_sq ?_
  refine W_rg ?_
  refine WO_v (a_mv (v := .sn) rfl) ?_
  refine WO_end ?_
  refine then_n ?_
  refine W_sq ?_
  refine W_rg ?_
  refine WO_v (a_mv (v := .sn) rfl) ?_
  refine WO_end ?_
  refine then_n ?_
  refine W_sq ?_
  refine W_sq ?_
  refine W_rg ?_
  refine WO_v (a_mv (v := .i .i64 n) rfl) ?_
  refine WO_v (a_mv (v := .i .i64 0) rfl) ?_
  refine WO_end ?_
  refine then_n ?_
  refine W_bl ?_
  obtain ⟨o₁, ho₁, hp⟩ := bd_some hp
  refine W.mono (Q := fun e fr k => match (generalizing := false) o₁ with
      | out1 => e = (.exit 0) ∧ ∃ (v₃ : V), fr 7 = v₃ ∧ Own B h k [eSl eInt v₃ out1]) ?_ ?_
  · clear hp
    have hO₂ : Own B h h [eSl eInt .sn ([] : List Int)] := hO.nil eInt
    refine W_loopF (fun st fr k => match st with | (out, x) => ∃ (v₂ : V), fr 0 = v_l ∧ fr 2 = .i .i64 wide ∧ fr 7 = v₂ ∧ fr 10 = .i .i64 n ∧ fr 11 = .i .i64 x ∧ Own B h k [eSl eInt v₂ out]) ho₁ (s := (([] : List Int), 0)) (Exists.intro V.sn (And.intro (rfl) (And.intro (rfl) (And.intro (rfl) (And.intro (rfl) (And.intro (rfl) (hO₂.pick [0] rfl (by decide)))))))) ?_
    rintro ⟨out, x⟩ q₂ k₂ ⟨v₂, q₂_0, q₂_2, q₂_7, q₂_10, q₂_11, hO₃⟩ o₂ hp
    dsimp only [p_muntinlaw17_numbers.s0] at hp
    refine W_sq ?_
    refine W_rg ?_
    refine WO_v (a_lss (a := x) (b := n) q₂_11 q₂_10) ?_
    refine WO_end ?_
    refine then_n ?_
    refine W_sq ?_
    rcases if_some hp with ⟨b₁, hp⟩ | ⟨b₁, hp⟩
    · refine W_cT (t := (decide (x < n))) rfl b₁ ?_
      refine W_sk ?_
      refine then_n ?_
      refine W_sq ?_
      refine W_bl ?_
      refine W_sq ?_
      refine W_rg ?_
      refine WO_v (a_mv (v := .i .i64 x) q₂_11) ?_
      refine WO_v (a_mv (v := .i .i64 x) rfl) ?_
      refine WO_end ?_
      refine then_n ?_
      refine W_sq ?_
      refine W_rg ?_
      refine WO_v (a_mv (v := .i .i64 x) rfl) ?_
      refine WO_v (a_mv (v := .i .i64 x) rfl) ?_
      refine WO_end ?_
      refine then_n ?_
      refine W_sq ?_
      refine W_sq ?_
      refine W_rg ?_
      refine WO_v (a_mv (v := .i .i64 x) rfl) ?_
      refine WO_v (a_mv (v := v_l) q₂_0) ?_
      refine WO_v (a_len (hO₃.rd0 s_l.rd : Sl eInt k₂ v_l l) rfl) ?_
      refine WO_v (a_lss (a := x) (b := (l.length : Int)) rfl rfl) ?_
      refine WO_end ?_
      refine then_n ?_
      rcases if_some hp with ⟨b₂, hp⟩ | ⟨b₂, hp⟩
      · refine W_cT (t := (decide (x < (l.length : Int)))) rfl b₂ ?_
        refine W_sq ?_
        refine W_rg ?_
        refine WO_v (a_mv (v := v_l) q₂_0) ?_
        refine WO_v (a_mv (v := .i .i64 x) rfl) ?_
        obtain ⟨c₁, hp⟩ := ck_some hp
        refine WO_v (a_ixa (E := eInt) (z := x) (hO₃.rd0 s_l.rd : Sl eInt k₂ v_l l) rfl rfl c₁) ?_
        refine WO_v (a_ldE (w := .i .i64 (gi l (x : Int).toNat)) (hO₃.rd0 s_l.rd : Sl eInt k₂ v_l l) rfl (toNat_lt c₁) rfl) ?_
        refine WO_v (a_mv (v := .i .i64 (gi l (x : Int).toNat)) rfl) ?_
        refine WO_end ?_
        refine then_n ?_
        refine W_sq ?_
        refine W_rg ?_
        refine WO_v (a_mv (v := .i .i64 wide) q₂_2) ?_
        refine WO_v (a_gtr (a := wide) (b := 0) rfl rfl) ?_
        refine WO_end ?_
        refine then_n ?_
        rcases if_some hp with ⟨b₃, hp⟩ | ⟨b₃, hp⟩
        · refine W_cT (t := (decide (0 < wide))) rfl b₃ ?_
          refine W_rg ?_
          refine WO_v (a_mv (v := .i .i64 (gi l (x : Int).toNat)) rfl) ?_
          refine WO_v (a_mv (v := .i .i64 wide) q₂_2) ?_
          obtain ⟨c₂, hp⟩ := ck_some hp
          refine WO_v (a_rem (a := (gi l (x : Int).toNat)) (b := wide) rfl rfl c₂) ?_
          refine WO_v (a_mv (v := .i .i64 ((gi l (x : Int).toNat).tmod wide)) rfl) ?_
          refine WO_end ?_
          refine then_n ?_
          refine W_rg ?_
          refine WO_v (a_mv (v := v₂) q₂_7) ?_
          refine WO_v (a_mv (v := .i .i64 ((gi l (x : Int).toNat).tmod wide)) rfl) ?_
          refine WO_x (hO₃.bsl (E := eInt) (l := [(gi l (x : Int).toNat).tmod wide]) hO₃.fr (by rw [(ev_cons (v := .i .i64 ((gi l (x : Int).toNat).tmod wide)) rfl ev_nil)]; rfl) rfl) ?_
          rintro v₄ k₃ ⟨r₁, f₁, hW⟩
          have hO₄ : Own B h k₃ [eSl eInt v₂ out, eSl eInt v₄ [(gi l (x : Int).toNat).tmod wide]] := hW
          obtain ⟨c₃, hp⟩ := ck_some hp
          refine WO_x (hO₄.app (E := eInt) (bytes := 8) 0 hO₄.fr rfl (hO₄.sl 1 rfl : Sl eInt k₃ v₄ [(gi l (x : Int).toNat).tmod wide]) rfl rfl (fun _ => rfl) c₃ (by decide)) ?_
          rintro v₅ k₄ ⟨f₂, hW⟩
          have hO₅ : Own B h k₄ [eSl eInt v₅ (out ++ [(gi l (x : Int).toNat).tmod wide]), eSl eInt v₄ [(gi l (x : Int).toNat).tmod wide]] := hW
          refine WO_v (a_mv (v := v₅) rfl) ?_
          refine WO_end ?_
          refine blk_n ?_
          refine then_n ?_
          refine W_rg ?_
          obtain ⟨c₄, hp⟩ := ck_some hp
          refine WO_v (a_add (a := x) (b := 1) q₂_11 rfl c₄) ?_
          refine WO_v (a_mv (v := .i .i64 (x + 1)) rfl) ?_
          refine WO_end ?_
          have hp := Option.some.inj hp; subst hp
          exact (Or.inl (Exists.intro (out ++ [(gi l (x : Int).toNat).tmod wide], x + 1) (And.intro rfl (And.intro rfl (Exists.intro v₅ (And.intro (q₂_0) (And.intro (q₂_2) (And.intro (rfl) (And.intro (q₂_10) (And.intro (rfl) (hO₅.pick [0] rfl (by decide))))))))))))
        · refine W_cF (t := (decide (0 < wide))) rfl b₃ ?_
          refine W_sk ?_
          refine then_n ?_
          refine W_rg ?_
          refine WO_v (a_mv (v := v₂) q₂_7) ?_
          refine WO_v (a_mv (v := .i .i64 (gi l (x : Int).toNat)) rfl) ?_
          refine WO_x (hO₃.bsl (E := eInt) (l := [gi l (x : Int).toNat]) hO₃.fr (by rw [(ev_cons (v := .i .i64 (gi l (x : Int).toNat)) rfl ev_nil)]; rfl) rfl) ?_
          rintro v₆ k₅ ⟨r₂, f₃, hW⟩
          have hO₆ : Own B h k₅ [eSl eInt v₂ out, eSl eInt v₆ [gi l (x : Int).toNat]] := hW
          obtain ⟨c₅, hp⟩ := ck_some hp
          refine WO_x (hO₆.app (E := eInt) (bytes := 8) 0 hO₆.fr rfl (hO₆.sl 1 rfl : Sl eInt k₅ v₆ [gi l (x : Int).toNat]) rfl rfl (fun _ => rfl) c₅ (by decide)) ?_
          rintro v₇ k₆ ⟨f₄, hW⟩
          have hO₇ : Own B h k₆ [eSl eInt v₇ (out ++ [gi l (x : Int).toNat]), eSl eInt v₆ [gi l (x : Int).toNat]] := hW
          refine WO_v (a_mv (v := v₇) rfl) ?_
          refine WO_end ?_
          refine blk_n ?_
          refine then_n ?_
          refine W_rg ?_
          obtain ⟨c₆, hp⟩ := ck_some hp
          refine WO_v (a_add (a := x) (b := 1) q₂_11 rfl c₆) ?_
          refine WO_v (a_mv (v := .i .i64 (x + 1)) rfl) ?_
          refine WO_end ?_
          have hp := Option.some.inj hp; subst hp
          exact (Or.inl (Exists.intro (out ++ [gi l (x : Int).toNat], x + 1) (And.intro rfl (And.intro rfl (Exists.intro v₇ (And.intro (q₂_0) (And.intro (q₂_2) (And.intro (rfl) (And.intro (q₂_10) (And.intro (rfl) (hO₇.pick [0] rfl (by decide))))))))))))
      · refine W_cF (t := (decide (x < (l.length : Int)))) rfl b₂ ?_
        refine W_sk ?_
        refine then_n ?_
        refine W_rg ?_
        refine WO_v (a_mv (v := v₂) q₂_7) ?_
        refine WO_v (a_mv (v := .i .i64 x) rfl) ?_
        refine WO_x (hO₃.bsl (E := eInt) (l := [x]) hO₃.fr (by rw [(ev_cons (v := .i .i64 x) rfl ev_nil)]; rfl) rfl) ?_
        rintro v₈ k₇ ⟨r₃, f₅, hW⟩
        have hO₈ : Own B h k₇ [eSl eInt v₂ out, eSl eInt v₈ [x]] := hW
        obtain ⟨c₇, hp⟩ := ck_some hp
        refine WO_x (hO₈.app (E := eInt) (bytes := 8) 0 hO₈.fr rfl (hO₈.sl 1 rfl : Sl eInt k₇ v₈ [x]) rfl rfl (fun _ => rfl) c₇ (by decide)) ?_
        rintro v₉ k₈ ⟨f₆, hW⟩
        have hO₉ : Own B h k₈ [eSl eInt v₉ (out ++ [x]), eSl eInt v₈ [x]] := hW
        refine WO_v (a_mv (v := v₉) rfl) ?_
        refine WO_end ?_
        refine blk_n ?_
        refine then_n ?_
        refine W_rg ?_
        obtain ⟨c₈, hp⟩ := ck_some hp
        refine WO_v (a_add (a := x) (b := 1) q₂_11 rfl c₈) ?_
        refine WO_v (a_mv (v := .i .i64 (x + 1)) rfl) ?_
        refine WO_end ?_
        have hp := Option.some.inj hp; subst hp
        exact (Or.inl (Exists.intro (out ++ [x], x + 1) (And.intro rfl (And.intro rfl (Exists.intro v₉ (And.intro (q₂_0) (And.intro (q₂_2) (And.intro (rfl) (And.intro (q₂_10) (And.intro (rfl) (hO₉.pick [0] rfl (by decide))))))))))))
    · refine W_cF (t := (decide (x < n))) rfl b₁ ?_
      refine W_ex ?_
      refine then_e ?_
      have hp := Option.some.inj hp; subst hp
      refine (Or.inr (Exists.intro out (And.intro rfl (And.intro (fun h => nomatch h) (fun he => ?_)))))
      subst he; exact (And.intro rfl (Exists.intro v₂ (And.intro (q₂_7) (hO₃.pick [0] rfl (by decide)))))
  intro e₁ q₁ k₁ hJ₁
  obtain ⟨out1, rfl⟩ : ∃ x, x = o₁ := ⟨_, rfl⟩
  obtain ⟨rfl, v₃, q₁_7, hO₁⟩ := hJ₁
  refine blk_i ?_
  refine then_n ?_
  refine W_sq ?_
  refine W_rg ?_
  refine WO_v (a_mv (v := v₃) q₁_7) ?_
  refine WO_v (a_mv (v := v₃) rfl) ?_
  refine WO_end ?_
  refine then_n ?_
  refine W_rt ?_
  refine Ret_r (rs_t (n := 6) (v := v₃) rfl rs_nil) ?_
  have hp := Option.some.inj hp; subst hp
  exact (Exists.intro v₃ (And.intro rfl (hO₁.pick [0] rfl (by decide))))

theorem p_muntinref17_Place.ok {h : Hp} {c : T_muntinref16_Chains} {x : List Int} {y : List Int} {v_c_X : V} {v_c_Y : V} {v_c_Vert : V} {vs_c_Vert : List V} {v_c_Horz : V} {vs_c_Horz : List V} {v_x : V} {v_y : V} (s_c_X : Sl eInt h v_c_X c.X) (s_c_Y : Sl eInt h v_c_Y c.Y) (sN_c_Vert : Sl eV h v_c_Vert vs_c_Vert) (lN_c_Vert : vs_c_Vert.length = c.Vert.length) (iN_c_Vert : ∀ j, j < c.Vert.length → Sl eInt h (gi vs_c_Vert j) (gi c.Vert j)) (sN_c_Horz : Sl eV h v_c_Horz vs_c_Horz) (lN_c_Horz : vs_c_Horz.length = c.Horz.length) (iN_c_Horz : ∀ j, j < c.Horz.length → Sl eInt h (gi vs_c_Horz j) (gi c.Horz j)) (s_x : Sl eInt h v_x x) (s_y : Sl eInt h v_y y) {r : (List T_api_Point)} (hp : p_muntinref17_Place c x y = some r) :
    ∃ u k', Is G 169 [.ag [v_c_X, v_c_Y, v_c_Vert, v_c_Horz], v_x, v_y] h u k' ∧ ∃ (v₁ : V), v₁ = u ∧ Own (fun r => r < h.n) h k' [eSl e_T_api_Point v₁ r] := by
  refine WC.is (WC_of G_F_muntinref17_Place ?_)
  unfold p_muntinref17_Place at hp
  let B : Nat → Prop := (fun r => r < h.n)
  have hO : Own B h h [] := Own.start0 h
  refine W_sq ?_
  refine W_rg ?_
  refine WO_x (hO.boxd (v := .ag [v_c_X, v_c_Y, v_c_Vert, v_c_Horz]) (cs := [v_c_X, v_c_Y, v_c_Vert, v_c_Horz]) hO.fr rfl rfl) ?_
  rintro _ k₁ ⟨r₁, rfl, n₁, f₁, hW⟩
  have hO₁ : Own B h k₁ [eBox r₁ [v_c_X, v_c_Y, v_c_Vert, v_c_Horz]] := hW
  refine WO_v (a_mv (v := .sn) rfl) ?_
  refine WO_end ?_
  refine then_n ?_
  refine W_sq ?_
  refine W_rg ?_
  refine WO_v (a_mv (v := .sn) rfl) ?_
  refine WO_end ?_
  refine then_n ?_
  refine W_sq ?_
  refine W_sq ?_
  refine W_rg ?_
  refine WO_v (a_mv (v := .i .i64 0) rfl) ?_
  refine WO_end ?_
  refine then_n ?_
  refine W_bl ?_
  obtain ⟨o₁, ho₁, hp⟩ := bd_some hp
  refine W.mono (Q := fun e fr k => match (generalizing := false) o₁ with
      | out1 => e = (.exit 0) ∧ ∃ (v₃ : V), fr 7 = v₃ ∧ Own B h k [eSl e_T_api_Point v₃ out1]) ?_ ?_
  · clear hp
    have hO₃ : Own B h k₁ [eBox r₁ [v_c_X, v_c_Y, v_c_Vert, v_c_Horz], eSl e_T_api_Point .sn ([] : List T_api_Point)] := hO₁.nil e_T_api_Point
    refine W_loopF (fun st fr k => match st with | (out, v) => ∃ (v₂ : V), fr 1 = v_x ∧ fr 2 = v_y ∧ fr 3 = .p r₁ 0 ∧ fr 7 = v₂ ∧ fr 8 = .i .i64 v ∧ Own B h k [eBox r₁ [v_c_X, v_c_Y, v_c_Vert, v_c_Horz], eSl e_T_api_Point v₂ out]) ho₁ (s := (([] : List T_api_Point), 0)) (Exists.intro V.sn (And.intro (rfl) (And.intro (rfl) (And.intro (rfl) (And.intro (rfl) (And.intro (rfl) (hO₃.pick [0, 1] rfl (by decide)))))))) ?_
    rintro ⟨out, v⟩ q₂ k₃ ⟨v₂, q₂_1, q₂_2, q₂_3, q₂_7, q₂_8, hO₄⟩ o₂ hp
    dsimp only [p_muntinref17_Place.s0] at hp
    refine W_sq ?_
    refine W_sq ?_
    refine W_rg ?_
    refine WO_v (a_mv (v := .i .i64 v) q₂_8) ?_
    refine WO_v (a_fa (r := r₁) (o := 0) (o' := 0) q₂_3 rfl) ?_
    refine WO_v (a_ldb (cs := [v_c_X, v_c_Y, v_c_Vert, v_c_Horz]) (v := v_c_X) (hO₄.box 0 rfl) rfl rfl) ?_
    refine WO_v (a_len (hO₄.rd0 s_c_X.rd : Sl eInt k₃ v_c_X c.X) rfl) ?_
    refine WO_v (a_lss (a := v) (b := (c.X.length : Int)) rfl rfl) ?_
    refine WO_end ?_
    refine then_n ?_
    rcases if_some hp with ⟨b₁, hp⟩ | ⟨b₁, hp⟩
    · refine W_cT (t := (decide (v < (c.X.length : Int)))) rfl b₁ ?_
      refine W_sk ?_
      refine then_n ?_
      refine W_sq ?_
      refine W_bl ?_
      refine W_dr ?_
      have hW := hO₄.bump 21
      have fr₁ := Fresh.start k₃ 21
      have nb₁ : ∀ {i : Nat}, h.n ≤ k₃.n + i := Nat.le_trans hO₄.n (Nat.le_add_right _ _)
      have hO₅ : Own B h (k₃.bump 21) [eBox r₁ [v_c_X, v_c_Y, v_c_Vert, v_c_Horz], eSl e_T_api_Point v₂ out] := hW
      refine WD_v (a_mv (v := v₂) q₂_7) ?_
      refine WD_v (a_mv (v := v_x) q₂_1) ?_
      refine WD_v (a_fa (r := r₁) (o := 0) (o' := 0) q₂_3 rfl) ?_
      refine WD_v (a_ldb (cs := [v_c_X, v_c_Y, v_c_Vert, v_c_Horz]) (v := v_c_X) (hO₅.box 0 rfl) rfl rfl) ?_
      refine WD_v (a_mv (v := .i .i64 v) q₂_8) ?_
      obtain ⟨c₁, hp⟩ := ck_some hp
      refine WD_v (a_ixa (E := eInt) (z := v) (hO₅.rd0 s_c_X.rd : Sl eInt (k₃.bump 21) v_c_X c.X) rfl rfl c₁) ?_
      refine WD_v (a_ldE (w := .i .i64 (gi c.X (v : Int).toNat)) (hO₅.rd0 s_c_X.rd : Sl eInt (k₃.bump 21) v_c_X c.X) rfl (toNat_lt c₁) rfl) ?_
      obtain ⟨c₂, hp⟩ := ck_some hp
      refine WD_v (a_ixa (E := eInt) (z := (gi c.X (v : Int).toNat)) (hO₅.rd0 s_x.rd : Sl eInt (k₃.bump 21) v_x x) rfl rfl c₂) ?_
      refine WD_v (a_ldE (w := .i .i64 (gi x (gi c.X (v : Int).toNat : Int).toNat)) (hO₅.rd0 s_x.rd : Sl eInt (k₃.bump 21) v_x x) rfl (toNat_lt c₂) rfl) ?_
      refine WD_v (a_mv (v := v_y) q₂_2) ?_
      refine WD_v (a_fa (r := r₁) (o := 0) (o' := 1) q₂_3 rfl) ?_
      refine WD_v (a_ldb (cs := [v_c_X, v_c_Y, v_c_Vert, v_c_Horz]) (v := v_c_Y) (hO₅.box 0 rfl) rfl rfl) ?_
      refine WD_v (a_mv (v := .i .i64 v) q₂_8) ?_
      obtain ⟨c₃, hp⟩ := ck_some hp
      refine WD_v (a_ixa (E := eInt) (z := v) (hO₅.rd0 s_c_Y.rd : Sl eInt (k₃.bump 21) v_c_Y c.Y) rfl rfl c₃) ?_
      refine WD_v (a_ldE (w := .i .i64 (gi c.Y (v : Int).toNat)) (hO₅.rd0 s_c_Y.rd : Sl eInt (k₃.bump 21) v_c_Y c.Y) rfl (toNat_lt c₃) rfl) ?_
      obtain ⟨c₄, hp⟩ := ck_some hp
      refine WD_v (a_ixa (E := eInt) (z := (gi c.Y (v : Int).toNat)) (hO₅.rd0 s_y.rd : Sl eInt (k₃.bump 21) v_y y) rfl rfl c₄) ?_
      refine WD_v (a_ldE (w := .i .i64 (gi y (gi c.Y (v : Int).toNat : Int).toNat)) (hO₅.rd0 s_y.rd : Sl eInt (k₃.bump 21) v_y y) rfl (toNat_lt c₄) rfl) ?_
      refine WD_v (a_build (cs := e_T_api_Point.c (⟨gi x (gi c.X (v : Int).toNat : Int).toNat, gi y (gi c.Y (v : Int).toNat : Int).toNat⟩ : T_api_Point)) (by rw [(ev_cons (v := .i .i64 (gi x (gi c.X (v : Int).toNat : Int).toNat)) rfl (ev_cons (v := .i .i64 (gi y (gi c.Y (v : Int).toNat : Int).toNat)) rfl ev_nil))]; rfl)) ?_
      refine WD_x (hO₅.bsl (E := e_T_api_Point) (l := [(⟨gi x (gi c.X (v : Int).toNat : Int).toNat, gi y (gi c.Y (v : Int).toNat : Int).toNat⟩ : T_api_Point)]) ⟨fr₁.m 18 (by decide) (by decide), nb₁⟩ (by rw [(ev_cons (v := .ag (e_T_api_Point.c (⟨gi x (gi c.X (v : Int).toNat : Int).toNat, gi y (gi c.Y (v : Int).toNat : Int).toNat⟩ : T_api_Point))) rfl ev_nil)]; rfl) rfl) ?_
      rintro v₄ k₅ z₁ ⟨r₂, f₂, hW⟩
      have fr₂ := fr₁.kept f₂ (by decide)
      have hO₆ : Own B h k₅ [eBox r₁ [v_c_X, v_c_Y, v_c_Vert, v_c_Horz], eSl e_T_api_Point v₂ out, eSl e_T_api_Point v₄ [(⟨gi x (gi c.X (v : Int).toNat : Int).toNat, gi y (gi c.Y (v : Int).toNat : Int).toNat⟩ : T_api_Point)]] := hW
      obtain ⟨c₅, hp⟩ := ck_some hp
      refine WD_x (hO₆.app (E := e_T_api_Point) (bytes := 16) 1 ⟨fr₂.m 19 (by decide) (by decide), nb₁⟩ rfl (hO₆.sl 2 rfl : Sl e_T_api_Point k₅ v₄ [(⟨gi x (gi c.X (v : Int).toNat : Int).toNat, gi y (gi c.Y (v : Int).toNat : Int).toNat⟩ : T_api_Point)]) rfl rfl (fun _ => rfl) c₅ (by decide)) ?_
      rintro v₅ k₆ z₂ ⟨f₃, hW⟩
      have fr₃ := fr₂.kept f₃ (by decide)
      have hO₇ : Own B h k₆ [eBox r₁ [v_c_X, v_c_Y, v_c_Vert, v_c_Horz], eSl e_T_api_Point v₅ (out ++ [(⟨gi x (gi c.X (v : Int).toNat : Int).toNat, gi y (gi c.Y (v : Int).toNat : Int).toNat⟩ : T_api_Point)]), eSl e_T_api_Point v₄ [(⟨gi x (gi c.X (v : Int).toNat : Int).toNat, gi y (gi c.Y (v : Int).toNat : Int).toNat⟩ : T_api_Point)]] := hW
      refine WD_v (a_mv (v := v₅) rfl) ?_
      refine WD_end ?_
      refine And.intro ?_ ?_
      · intro q hq
        simp only [List.mem_cons, List.not_mem_nil, or_false] at hq
        rcases hq with rfl | rfl | rfl | rfl | rfl | rfl | rfl | rfl | rfl
        · refine ap_ll ?_ ?_
          · exact (fun h => nomatch h)
          · exact (fun h => nomatch h)
        · refine ap_ll ?_ ?_
          · exact (fun h => nomatch h)
          · exact (fun h => nomatch h)
        · refine ap_ll ?_ ?_
          · exact (fun h => nomatch h)
          · exact (fun h => nomatch h)
        · refine ap_ll ?_ ?_
          · exact (fun h => nomatch h)
          · exact (fun h => nomatch h)
        · refine ap_ll ?_ ?_
          · exact (fun h => nomatch h)
          · exact (fun h => nomatch h)
        · refine ap_ll ?_ ?_
          · exact (fun h => nomatch h)
          · exact (fun h => nomatch h)
        · refine ap_ll ?_ ?_
          · exact (fun h => nomatch h)
          · exact (fun h => nomatch h)
        · refine ap_ll ?_ ?_
          · exact (fun h => nomatch h)
          · exact (fun h => nomatch h)
        · refine ap_ll ?_ ?_
          · exact (fun h => nomatch h)
          · exact (fun h => nomatch h)
      refine blk_n ?_
      refine then_n ?_
      refine W_rg ?_
      refine WO_v (a_mv (v := .i .i64 v) q₂_8) ?_
      obtain ⟨c₆, hp⟩ := ck_some hp
      refine WO_v (a_add (a := v) (b := 1) rfl rfl c₆) ?_
      refine WO_v (a_mv (v := .i .i64 (v + 1)) rfl) ?_
      refine WO_end ?_
      have hp := Option.some.inj hp; subst hp
      exact (Or.inl (Exists.intro (out ++ [(⟨gi x (gi c.X (v : Int).toNat : Int).toNat, gi y (gi c.Y (v : Int).toNat : Int).toNat⟩ : T_api_Point)], v + 1) (And.intro rfl (And.intro rfl (Exists.intro v₅ (And.intro (q₂_1) (And.intro (q₂_2) (And.intro (q₂_3) (And.intro (rfl) (And.intro (rfl) (hO₇.pick [0, 1] rfl (by decide))))))))))))
    · refine W_cF (t := (decide (v < (c.X.length : Int)))) rfl b₁ ?_
      refine W_ex ?_
      refine then_e ?_
      have hp := Option.some.inj hp; subst hp
      refine (Or.inr (Exists.intro out (And.intro rfl (And.intro (fun h => nomatch h) (fun he => ?_)))))
      subst he; exact (And.intro rfl (Exists.intro v₂ (And.intro (q₂_7) (hO₄.pick [1] rfl (by decide)))))
  intro e₁ q₁ k₂ hJ₁
  obtain ⟨out1, rfl⟩ : ∃ x, x = o₁ := ⟨_, rfl⟩
  obtain ⟨rfl, v₃, q₁_7, hO₂⟩ := hJ₁
  refine blk_i ?_
  refine then_n ?_
  refine W_sq ?_
  refine W_rg ?_
  refine WO_v (a_mv (v := v₃) q₁_7) ?_
  refine WO_v (a_mv (v := v₃) rfl) ?_
  refine WO_end ?_
  refine then_n ?_
  refine W_rt ?_
  refine Ret_r (rs_t (n := 6) (v := v₃) rfl rs_nil) ?_
  have hp := Option.some.inj hp; subst hp
  exact (Exists.intro v₃ (And.intro rfl (hO₂.pick [0] rfl (by decide))))

theorem p_slices_Equal_api_Point.ok {h : Hp} {s1 : List T_api_Point} {s2 : List T_api_Point} {v_s1 : V} {v_s2 : V} (s_s1 : Sl e_T_api_Point h v_s1 s1) (s_s2 : Sl e_T_api_Point h v_s2 s2) {r : Bool} (hp : p_slices_Equal_api_Point s1 s2 = some r) :
    ∃ u k', Is G 168 [v_s1, v_s2] h u k' ∧ V.b r = u ∧ Own (fun r => r < h.n) h k' [] := by
  refine WC.is (WC_of G_F_slices_Equal_api_Point ?_)
  unfold p_slices_Equal_api_Point at hp
  let B : Nat → Prop := (fun r => r < h.n)
  have hO : Own B h h [] := Own.start0 h
  refine W_sq ?_
  refine W_rg ?_
  refine WO_v (a_mv (v := .b false) rfl) ?_
  refine WO_end ?_
  refine then_n ?_
  refine W_sq ?_
  refine W_sq ?_
  refine W_rg ?_
  refine WO_v (a_mv (v := v_s1) rfl) ?_
  refine WO_v (a_len (hO.rd0 s_s1.rd : Sl e_T_api_Point h v_s1 s1) rfl) ?_
  refine WO_v (a_mv (v := v_s2) rfl) ?_
  refine WO_v (a_len (hO.rd0 s_s2.rd : Sl e_T_api_Point h v_s2 s2) rfl) ?_
  refine WO_v (a_neI (a := (s1.length : Int)) (b := (s2.length : Int)) rfl rfl) ?_
  refine WO_end ?_
  refine then_n ?_
  rcases if_some hp with ⟨b₁, hp⟩ | ⟨b₁, hp⟩
  · refine W_cT (t := (!(decide ((s1.length : Int) = (s2.length : Int))))) rfl b₁ ?_
    refine W_sq ?_
    refine W_rg ?_
    refine WO_v (a_mv (v := .b false) rfl) ?_
    refine WO_end ?_
    refine then_n ?_
    refine W_rt ?_
    refine then_r ?_
    refine Ret_r (rs_t (n := 4) (v := .b false) rfl rs_nil) ?_
    have hp := Option.some.inj hp; subst hp
    exact (And.intro rfl (hO.pick [] rfl (by decide)))
  · refine W_cF (t := (!(decide ((s1.length : Int) = (s2.length : Int))))) rfl b₁ ?_
    refine W_sk ?_
    refine then_n ?_
    refine W_sq ?_
    refine W_sq ?_
    refine W_rg ?_
    refine WO_v (a_mv (v := v_s1) rfl) ?_
    refine WO_v (a_len (hO.rd0 s_s1.rd : Sl e_T_api_Point h v_s1 s1) rfl) ?_
    refine WO_v (a_mv (v := .i .i64 0) rfl) ?_
    refine WO_end ?_
    refine then_n ?_
    refine W_bl ?_
    obtain ⟨o₁, ho₁, hp⟩ := bd_some hp
    refine W.mono (Q := fun e fr k => match (generalizing := false) o₁ with
        | .inl _ => e = (.exit 0) ∧ Own B h k []
        | .inr _ => e = .ret ∧ fr 4 = .b false ∧ Own B h k []) ?_ ?_
    · clear hp
      refine W_loopF (fun st fr k => match st with | x => fr 0 = v_s1 ∧ fr 1 = v_s2 ∧ fr 12 = .i .i64 (s1.length : Int) ∧ fr 13 = .i .i64 x ∧ Own B h k []) ho₁ (s := 0) (And.intro (rfl) (And.intro (rfl) (And.intro (rfl) (And.intro (rfl) (hO.pick [] rfl (by decide)))))) ?_
      rintro x q₂ k₂ ⟨q₂_0, q₂_1, q₂_12, q₂_13, hO₂⟩ o₂ hp
      dsimp only [p_slices_Equal_api_Point.s0] at hp
      refine W_sq ?_
      refine W_rg ?_
      refine WO_v (a_lss (a := x) (b := (s1.length : Int)) q₂_13 q₂_12) ?_
      refine WO_end ?_
      refine then_n ?_
      refine W_sq ?_
      rcases if_some hp with ⟨b₂, hp⟩ | ⟨b₂, hp⟩
      · refine W_cT (t := (decide (x < (s1.length : Int)))) rfl b₂ ?_
        refine W_sk ?_
        refine then_n ?_
        refine W_sq ?_
        refine W_bl ?_
        refine W_sq ?_
        refine W_rg ?_
        refine WO_v (a_mv (v := .i .i64 x) q₂_13) ?_
        refine WO_v (a_mv (v := .i .i64 x) rfl) ?_
        refine WO_end ?_
        refine then_n ?_
        refine W_sq ?_
        refine W_qd ?_
        have hW := hO₂.bump 9
        have hO₃ : Own B h (k₂.bump 9) [] := hW
        refine WQ_v rfl (a_mv (v := v_s1) q₂_0) ?_
        refine WQ_v rfl (a_mv (v := .i .i64 x) rfl) ?_
        obtain ⟨c₁, hp⟩ := ck_some hp
        refine WQ_v rfl (a_ixa (E := e_T_api_Point) (z := x) (hO₃.rd0 s_s1.rd : Sl e_T_api_Point (k₂.bump 9) v_s1 s1) rfl rfl c₁) ?_
        refine WQ_v rfl (a_ldA (E := e_T_api_Point) (hO₃.rd0 s_s1.rd : Sl e_T_api_Point (k₂.bump 9) v_s1 s1) rfl (toNat_lt c₁)) ?_
        refine WQ_v rfl (a_mv (v := v_s2) q₂_1) ?_
        refine WQ_v rfl (a_mv (v := .i .i64 x) rfl) ?_
        obtain ⟨c₂, hp⟩ := ck_some hp
        refine WQ_v rfl (a_ixa (E := e_T_api_Point) (z := x) (hO₃.rd0 s_s2.rd : Sl e_T_api_Point (k₂.bump 9) v_s2 s2) rfl rfl c₂) ?_
        refine WQ_v rfl (a_ldA (E := e_T_api_Point) (hO₃.rd0 s_s2.rd : Sl e_T_api_Point (k₂.bump 9) v_s2 s2) rfl (toNat_lt c₂)) ?_
        refine WQ_v rfl (a_neA (as := e_T_api_Point.c (gi s1 (x : Int).toNat)) (bs := e_T_api_Point.c (gi s2 (x : Int).toNat)) rfl rfl (Mu.e_T_api_Point.same _ _)) ?_
        refine WQ_end ?_
        refine then_n ?_
        rcases if_some hp with ⟨b₃, hp⟩ | ⟨b₃, hp⟩
        · refine W_cT (t := (!(decide (gi s1 (x : Int).toNat = gi s2 (x : Int).toNat)))) rfl b₃ ?_
          refine W_sq ?_
          refine W_rg ?_
          refine WO_v (a_mv (v := .b false) rfl) ?_
          refine WO_end ?_
          refine then_n ?_
          refine W_rt ?_
          refine blk_r ?_
          refine then_r ?_
          have hp := Option.some.inj hp; subst hp
          refine (Or.inr (Exists.intro (.inr ()) (And.intro rfl (And.intro (fun h => nomatch h) (fun he => ?_)))))
          subst he; exact (And.intro rfl (And.intro (rfl) (hO₃.pick [] rfl (by decide))))
        · refine W_cF (t := (!(decide (gi s1 (x : Int).toNat = gi s2 (x : Int).toNat)))) rfl b₃ ?_
          refine W_sk ?_
          refine blk_n ?_
          refine then_n ?_
          refine W_rg ?_
          obtain ⟨c₃, hp⟩ := ck_some hp
          refine WO_v (a_add (a := x) (b := 1) q₂_13 rfl c₃) ?_
          refine WO_v (a_mv (v := .i .i64 (x + 1)) rfl) ?_
          refine WO_end ?_
          have hp := Option.some.inj hp; subst hp
          exact (Or.inl (Exists.intro (x + 1) (And.intro rfl (And.intro rfl (And.intro (q₂_0) (And.intro (q₂_1) (And.intro (q₂_12) (And.intro (rfl) (hO₃.pick [] rfl (by decide))))))))))
      · refine W_cF (t := (decide (x < (s1.length : Int)))) rfl b₂ ?_
        refine W_ex ?_
        refine then_e ?_
        have hp := Option.some.inj hp; subst hp
        refine (Or.inr (Exists.intro (.inl ()) (And.intro rfl (And.intro (fun h => nomatch h) (fun he => ?_)))))
        subst he; exact (And.intro rfl (hO₂.pick [] rfl (by decide)))
    intro e₁ q₁ k₁ hJ₁
    rcases o₁ with _ | _
    · obtain ⟨rfl, hO₁⟩ := hJ₁
      refine blk_i ?_
      refine then_n ?_
      refine W_sq ?_
      refine W_rg ?_
      refine WO_v (a_mv (v := .b true) rfl) ?_
      refine WO_end ?_
      refine then_n ?_
      refine W_rt ?_
      refine Ret_r (rs_t (n := 4) (v := .b true) rfl rs_nil) ?_
      have hp := Option.some.inj hp; subst hp
      exact (And.intro rfl (hO₁.pick [] rfl (by decide)))
    · obtain ⟨rfl, q₁_4, hO₁⟩ := hJ₁
      refine blk_r ?_
      refine then_r ?_
      refine Ret_r (rs_t (n := 4) (v := .b false) q₁_4 rs_nil) ?_
      have hp := Option.some.inj hp; subst hp
      exact (And.intro rfl (hO₁.pick [] rfl (by decide)))

theorem p_muntinlaw17_length_1.ok {h : Hp} {q : T_api_Point}   {r : Bool} (hp : p_muntinlaw17_length_1 q = some r) :
    ∃ u k', Is G 192 [.ag (e_T_api_Point.c q)] h u k' ∧ V.b r = u ∧ Own (fun r => r < h.n) h k' [] := by
  refine WC.is (WC_of G_F_muntinlaw17_length_1 ?_)
  unfold p_muntinlaw17_length_1 at hp
  let B : Nat → Prop := (fun r => r < h.n)
  have hO : Own B h h [] := Own.start0 h
  refine W_sq ?_
  refine W_rg ?_
  refine WO_x (hO.boxd (v := .ag (e_T_api_Point.c q)) (cs := e_T_api_Point.c q) hO.fr rfl rfl) ?_
  rintro _ k₁ ⟨r₁, rfl, n₁, f₁, hW⟩
  have hO₁ : Own B h k₁ [eBox r₁ (e_T_api_Point.c q)] := hW
  refine WO_v (a_mv (v := .b false) rfl) ?_
  refine WO_end ?_
  refine then_n ?_
  refine W_sq ?_
  refine W_rg ?_
  refine WO_v (a_fa (r := r₁) (o := 0) (o' := 0) rfl rfl) ?_
  refine WO_v (a_ldb (cs := (e_T_api_Point.c q)) (v := .i .i64 q.X) (hO₁.box 0 rfl) rfl rfl) ?_
  refine WO_v (a_gtr (a := q.X) (b := 1000000) rfl rfl) ?_
  refine WO_v (a_mv (v := .b (decide (1000000 < q.X))) rfl) ?_
  refine WO_cut 4 (fun fr' k' => k₁ = k' ∧ fr' 10 = .b ((decide (1000000 < q.X)) || (decide (q.X < (-1000000)))) ∧ fr' 1 = .p r₁ 0) ?_ ?_
  · rcases bc (decide (1000000 < q.X)) with b₁ | b₁
    · skip
      refine WO_off rfl b₁ ?_
      refine WO_off rfl b₁ ?_
      refine WO_off rfl b₁ ?_
      refine WO_v (a_pickT (t := (decide (1000000 < q.X))) (v := .b ((decide (1000000 < q.X)) || (decide (q.X < (-1000000))))) rfl b₁ (Eq.trans (b := V.b true) rfl (or_off b₁))) ?_
      refine WO_end ?_
      exact ⟨rfl, rfl, rfl⟩
    · skip
      refine WO_on rfl b₁ ?_
      refine WO_v (a_fa (r := r₁) (o := 0) (o' := 0) rfl rfl) ?_
      refine WO_on rfl b₁ ?_
      refine WO_v (a_ldb (cs := (e_T_api_Point.c q)) (v := .i .i64 q.X) (hO₁.box 0 rfl) rfl rfl) ?_
      refine WO_on rfl b₁ ?_
      refine WO_v (a_lss (a := q.X) (b := (-1000000)) rfl rfl) ?_
      refine WO_v (a_pickF (t := (decide (1000000 < q.X))) (v := .b ((decide (1000000 < q.X)) || (decide (q.X < (-1000000))))) rfl b₁ (Eq.trans (b := V.b (decide (q.X < (-1000000)))) rfl (or_on b₁))) ?_
      refine WO_end ?_
      exact ⟨rfl, rfl, rfl⟩
  rintro frg₁ _ ⟨rfl, g₁_10, g₁_1⟩
  refine WO_v (a_mv (v := .b ((decide (1000000 < q.X)) || (decide (q.X < (-1000000))))) g₁_10) ?_
  refine WO_cut 4 (fun fr' k' => k₁ = k' ∧ fr' 15 = .b (((decide (1000000 < q.X)) || (decide (q.X < (-1000000)))) || (decide (1000000 < q.Y))) ∧ fr' 1 = .p r₁ 0) ?_ ?_
  · rcases bc ((decide (1000000 < q.X)) || (decide (q.X < (-1000000)))) with b₂ | b₂
    · skip
      refine WO_off rfl b₂ ?_
      refine WO_off rfl b₂ ?_
      refine WO_off rfl b₂ ?_
      refine WO_v (a_pickT (t := ((decide (1000000 < q.X)) || (decide (q.X < (-1000000))))) (v := .b (((decide (1000000 < q.X)) || (decide (q.X < (-1000000)))) || (decide (1000000 < q.Y)))) rfl b₂ (Eq.trans (b := V.b true) rfl (or_off b₂))) ?_
      refine WO_end ?_
      exact ⟨rfl, rfl, g₁_1⟩
    · skip
      refine WO_on rfl b₂ ?_
      refine WO_v (a_fa (r := r₁) (o := 0) (o' := 1) g₁_1 rfl) ?_
      refine WO_on rfl b₂ ?_
      refine WO_v (a_ldb (cs := (e_T_api_Point.c q)) (v := .i .i64 q.Y) (hO₁.box 0 rfl) rfl rfl) ?_
      refine WO_on rfl b₂ ?_
      refine WO_v (a_gtr (a := q.Y) (b := 1000000) rfl rfl) ?_
      refine WO_v (a_pickF (t := ((decide (1000000 < q.X)) || (decide (q.X < (-1000000))))) (v := .b (((decide (1000000 < q.X)) || (decide (q.X < (-1000000)))) || (decide (1000000 < q.Y)))) rfl b₂ (Eq.trans (b := V.b (decide (1000000 < q.Y))) rfl (or_on b₂))) ?_
      refine WO_end ?_
      exact ⟨rfl, rfl, g₁_1⟩
  rintro frg₂ _ ⟨rfl, g₂_15, g₂_1⟩
  refine WO_v (a_mv (v := .b (((decide (1000000 < q.X)) || (decide (q.X < (-1000000)))) || (decide (1000000 < q.Y)))) g₂_15) ?_
  refine WO_cut 4 (fun fr' k' => k₁ = k' ∧ fr' 20 = .b ((((decide (1000000 < q.X)) || (decide (q.X < (-1000000)))) || (decide (1000000 < q.Y))) || (decide (q.Y < (-1000000))))) ?_ ?_
  · rcases bc (((decide (1000000 < q.X)) || (decide (q.X < (-1000000)))) || (decide (1000000 < q.Y))) with b₃ | b₃
    · skip
      refine WO_off rfl b₃ ?_
      refine WO_off rfl b₃ ?_
      refine WO_off rfl b₃ ?_
      refine WO_v (a_pickT (t := (((decide (1000000 < q.X)) || (decide (q.X < (-1000000)))) || (decide (1000000 < q.Y)))) (v := .b ((((decide (1000000 < q.X)) || (decide (q.X < (-1000000)))) || (decide (1000000 < q.Y))) || (decide (q.Y < (-1000000))))) rfl b₃ (Eq.trans (b := V.b true) rfl (or_off b₃))) ?_
      refine WO_end ?_
      exact ⟨rfl, rfl⟩
    · skip
      refine WO_on rfl b₃ ?_
      refine WO_v (a_fa (r := r₁) (o := 0) (o' := 1) g₂_1 rfl) ?_
      refine WO_on rfl b₃ ?_
      refine WO_v (a_ldb (cs := (e_T_api_Point.c q)) (v := .i .i64 q.Y) (hO₁.box 0 rfl) rfl rfl) ?_
      refine WO_on rfl b₃ ?_
      refine WO_v (a_lss (a := q.Y) (b := (-1000000)) rfl rfl) ?_
      refine WO_v (a_pickF (t := (((decide (1000000 < q.X)) || (decide (q.X < (-1000000)))) || (decide (1000000 < q.Y)))) (v := .b ((((decide (1000000 < q.X)) || (decide (q.X < (-1000000)))) || (decide (1000000 < q.Y))) || (decide (q.Y < (-1000000))))) rfl b₃ (Eq.trans (b := V.b (decide (q.Y < (-1000000)))) rfl (or_on b₃))) ?_
      refine WO_end ?_
      exact ⟨rfl, rfl⟩
  rintro frg₃ _ ⟨rfl, g₃_20⟩
  refine WO_v (a_mv (v := .b ((((decide (1000000 < q.X)) || (decide (q.X < (-1000000)))) || (decide (1000000 < q.Y))) || (decide (q.Y < (-1000000))))) g₃_20) ?_
  refine WO_end ?_
  refine then_n ?_
  refine W_rt ?_
  refine Ret_r (rs_t (n := 2) (v := .b ((((decide (1000000 < q.X)) || (decide (q.X < (-1000000)))) || (decide (1000000 < q.Y))) || (decide (q.Y < (-1000000))))) rfl rs_nil) ?_
  have hp := Option.some.inj hp; subst hp
  exact (And.intro rfl (hO₁.pick [] rfl (by decide)))

theorem p_muntinref17_Straight.ok {h : Hp} {l : List T_api_Cell} {at_ : List T_api_Point} {v_l : V} {v_at_ : V} (s_l : Sl e_T_api_Cell h v_l l) (s_at_ : Sl e_T_api_Point h v_at_ at_) {r : Bool} (hp : p_muntinref17_Straight l at_ = some r) :
    ∃ u k', Is G 193 [v_l, v_at_] h u k' ∧ V.b r = u ∧ Own (fun r => r < h.n) h k' [] := by
  refine WC.is (WC_of G_F_muntinref17_Straight ?_)
  unfold p_muntinref17_Straight at hp
  let B : Nat → Prop := (fun r => r < h.n)
  have hO : Own B h h [] := Own.start0 h
  refine W_sq ?_
  refine W_rg ?_
  refine WO_v (a_mv (v := .b false) rfl) ?_
  refine WO_end ?_
  refine then_n ?_
  refine W_sq ?_
  refine W_sq ?_
  refine W_rg ?_
  refine WO_v (a_mv (v := .i .i64 0) rfl) ?_
  refine WO_end ?_
  refine then_n ?_
  refine W_bl ?_
  obtain ⟨o₁, ho₁, hp⟩ := bd_some hp
  refine W.mono (Q := fun e fr k => match (generalizing := false) o₁ with
      | .inl _ => e = (.exit 0) ∧ Own B h k []
      | .inr _ => e = .ret ∧ fr 4 = .b false ∧ Own B h k []) ?_ ?_
  · clear hp
    refine W_loopF (fun st fr k => match st with | v => fr 0 = v_l ∧ fr 1 = v_at_ ∧ fr 5 = .i .i64 v ∧ Own B h k []) ho₁ (s := 0) (And.intro (rfl) (And.intro (rfl) (And.intro (rfl) (hO.pick [] rfl (by decide))))) ?_
    rintro v q₂ k₂ ⟨q₂_0, q₂_1, q₂_5, hO₂⟩ o₂ hp
    dsimp only [p_muntinref17_Straight.s0] at hp
    refine W_sq ?_
    refine W_sq ?_
    refine W_rg ?_
    refine WO_v (a_mv (v := .i .i64 v) q₂_5) ?_
    refine WO_v (a_mv (v := v_l) q₂_0) ?_
    refine WO_v (a_len (hO₂.rd0 s_l.rd : Sl e_T_api_Cell k₂ v_l l) rfl) ?_
    refine WO_v (a_lss (a := v) (b := (l.length : Int)) rfl rfl) ?_
    refine WO_end ?_
    refine then_n ?_
    rcases if_some hp with ⟨b₁, hp⟩ | ⟨b₁, hp⟩
    · refine W_cT (t := (decide (v < (l.length : Int)))) rfl b₁ ?_
      refine W_sk ?_
      refine then_n ?_
      refine W_sq ?_
      refine W_bl ?_
      refine W_sq ?_
      refine W_rg ?_
      refine WO_v (a_mv (v := v_l) q₂_0) ?_
      refine WO_v (a_mv (v := .i .i64 v) q₂_5) ?_
      obtain ⟨c₁, hp⟩ := ck_some hp
      refine WO_v (a_ixa (E := e_T_api_Cell) (z := v) (hO₂.rd0 s_l.rd : Sl e_T_api_Cell k₂ v_l l) rfl rfl c₁) ?_
      refine WO_v (a_faE (off' := 0) (off2 := 0) (hO₂.rd0 s_l.rd : Sl e_T_api_Cell k₂ v_l l) (toNat_lt c₁) rfl rfl) ?_
      refine WO_v (a_ixaaE (off := 0) (off2 := 0) (z := 0) (hO₂.rd0 s_l.rd : Sl e_T_api_Cell k₂ v_l l) (toNat_lt c₁) rfl rfl (by decide) rfl) ?_
      refine WO_v (a_ldE (w := .i .i64 (((gi l (v : Int).toNat).Next).get 0)) (hO₂.rd0 s_l.rd : Sl e_T_api_Cell k₂ v_l l) rfl (toNat_lt c₁) rfl) ?_
      refine WO_v (a_mv (v := .i .i64 (((gi l (v : Int).toNat).Next).get 0)) rfl) ?_
      refine WO_end ?_
      refine then_n ?_
      refine W_sq ?_
      refine W_sq ?_
      refine W_qd ?_
      have hW := hO₂.bump 30
      have hO₃ : Own B h (k₂.bump 30) [] := hW
      refine WQ_v rfl (a_mv (v := .i .i64 (((gi l (v : Int).toNat).Next).get 0)) rfl) ?_
      refine WQ_v rfl (a_geq (a := (((gi l (v : Int).toNat).Next).get 0)) (b := 0) rfl rfl) ?_
      refine WQ_v rfl (a_mv (v := .b (decide (0 ≤ (((gi l (v : Int).toNat).Next).get 0)))) rfl) ?_
      obtain ⟨t, hv₁, hp⟩ := bd_some hp
      refine WQ_cut 27 (fun fr' k' => (k₂.bump 30) = k' ∧ fr' 49 = .b t ∧ fr' 0 = v_l ∧ fr' 1 = v_at_ ∧ fr' 5 = .i .i64 v) ?_ ?_
      · clear hp; rcases if_some hv₁ with ⟨b₂, hp⟩ | ⟨b₂, hp⟩
        · skip
          refine WQ_on rfl b₂ ?_
          refine WQ_v rfl (a_mv (v := v_at_) q₂_1) ?_
          refine WQ_on rfl b₂ ?_
          refine WQ_v rfl (a_mv (v := .i .i64 (((gi l (v : Int).toNat).Next).get 0)) rfl) ?_
          refine WQ_on rfl b₂ ?_
          refine WQ_v rfl (a_mx (a := (((gi l (v : Int).toNat).Next).get 0)) (b := 0) rfl rfl) ?_
          refine WQ_on rfl b₂ ?_
          obtain ⟨c₂, hp⟩ := ck_some hp
          refine WQ_v rfl (a_ixa (E := e_T_api_Point) (z := (max (((gi l (v : Int).toNat).Next).get 0) 0)) (hO₃.rd0 s_at_.rd : Sl e_T_api_Point (k₂.bump 30) v_at_ at_) rfl rfl c₂) ?_
          refine WQ_on rfl b₂ ?_
          refine WQ_v rfl (a_faE (off' := 0) (off2 := 1) (hO₃.rd0 s_at_.rd : Sl e_T_api_Point (k₂.bump 30) v_at_ at_) (toNat_lt c₂) rfl rfl) ?_
          refine WQ_on rfl b₂ ?_
          refine WQ_v rfl (a_ldE (w := .i .i64 ((gi at_ (max (((gi l (v : Int).toNat).Next).get 0) 0 : Int).toNat).Y)) (hO₃.rd0 s_at_.rd : Sl e_T_api_Point (k₂.bump 30) v_at_ at_) rfl (toNat_lt c₂) rfl) ?_
          refine WQ_on rfl b₂ ?_
          refine WQ_v rfl (a_mv (v := v_at_) q₂_1) ?_
          refine WQ_on rfl b₂ ?_
          refine WQ_v rfl (a_mv (v := .i .i64 v) q₂_5) ?_
          refine WQ_on rfl b₂ ?_
          obtain ⟨c₃, hp⟩ := ck_some hp
          refine WQ_v rfl (a_ixa (E := e_T_api_Point) (z := v) (hO₃.rd0 s_at_.rd : Sl e_T_api_Point (k₂.bump 30) v_at_ at_) rfl rfl c₃) ?_
          refine WQ_on rfl b₂ ?_
          refine WQ_v rfl (a_faE (off' := 0) (off2 := 1) (hO₃.rd0 s_at_.rd : Sl e_T_api_Point (k₂.bump 30) v_at_ at_) (toNat_lt c₃) rfl rfl) ?_
          refine WQ_on rfl b₂ ?_
          refine WQ_v rfl (a_ldE (w := .i .i64 ((gi at_ (v : Int).toNat).Y)) (hO₃.rd0 s_at_.rd : Sl e_T_api_Point (k₂.bump 30) v_at_ at_) rfl (toNat_lt c₃) rfl) ?_
          refine WQ_on rfl b₂ ?_
          refine WQ_v rfl (a_neI (a := ((gi at_ (max (((gi l (v : Int).toNat).Next).get 0) 0 : Int).toNat).Y)) (b := ((gi at_ (v : Int).toNat).Y)) rfl rfl) ?_
          refine WQ_on rfl b₂ ?_
          refine WQ_v rfl (a_mv (v := .b (!(decide ((gi at_ (max (((gi l (v : Int).toNat).Next).get 0) 0 : Int).toNat).Y = (gi at_ (v : Int).toNat).Y)))) rfl) ?_
          refine WQ_cut 13 (fun fr' k' => (k₂.bump 30) = k' ∧ fr' 48 = .b ((!(decide ((gi at_ (max (((gi l (v : Int).toNat).Next).get 0) 0 : Int).toNat).Y = (gi at_ (v : Int).toNat).Y))) || (decide (((gi at_ (max (((gi l (v : Int).toNat).Next).get 0) 0 : Int).toNat).X) ≤ ((gi at_ (v : Int).toNat).X)))) ∧ fr' 0 = v_l ∧ fr' 1 = v_at_ ∧ fr' 22 = .b (decide (0 ≤ (((gi l (v : Int).toNat).Next).get 0))) ∧ fr' 5 = .i .i64 v) ?_ ?_
          · rcases bc (!(decide ((gi at_ (max (((gi l (v : Int).toNat).Next).get 0) 0 : Int).toNat).Y = (gi at_ (v : Int).toNat).Y))) with b₃ | b₃
            · skip
              refine WQ_off rfl b₃ ?_
              refine WQ_off rfl b₃ ?_
              refine WQ_off rfl b₃ ?_
              refine WQ_off rfl b₃ ?_
              refine WQ_off rfl b₃ ?_
              refine WQ_off rfl b₃ ?_
              refine WQ_off rfl b₃ ?_
              refine WQ_off rfl b₃ ?_
              refine WQ_off rfl b₃ ?_
              refine WQ_off rfl b₃ ?_
              refine WQ_off rfl b₃ ?_
              refine WQ_off rfl b₃ ?_
              refine WQ_on rfl b₂ ?_
              refine WQ_v rfl (a_pickT (t := (!(decide ((gi at_ (max (((gi l (v : Int).toNat).Next).get 0) 0 : Int).toNat).Y = (gi at_ (v : Int).toNat).Y)))) (v := .b ((!(decide ((gi at_ (max (((gi l (v : Int).toNat).Next).get 0) 0 : Int).toNat).Y = (gi at_ (v : Int).toNat).Y))) || (decide (((gi at_ (max (((gi l (v : Int).toNat).Next).get 0) 0 : Int).toNat).X) ≤ ((gi at_ (v : Int).toNat).X))))) rfl b₃ (Eq.trans (b := V.b true) rfl (or_off b₃))) ?_
              refine WQ_end ?_
              exact ⟨rfl, rfl, q₂_0, q₂_1, rfl, q₂_5⟩
            · skip
              refine WQ_on rfl b₃ ?_
              refine WQ_v rfl (a_mv (v := v_at_) q₂_1) ?_
              refine WQ_on rfl b₃ ?_
              refine WQ_v rfl (a_mv (v := .i .i64 (((gi l (v : Int).toNat).Next).get 0)) rfl) ?_
              refine WQ_on rfl b₃ ?_
              refine WQ_v rfl (a_mx (a := (((gi l (v : Int).toNat).Next).get 0)) (b := 0) rfl rfl) ?_
              refine WQ_on rfl b₃ ?_
              refine WQ_v rfl (a_ixa (E := e_T_api_Point) (z := (max (((gi l (v : Int).toNat).Next).get 0) 0)) (hO₃.rd0 s_at_.rd : Sl e_T_api_Point (k₂.bump 30) v_at_ at_) rfl rfl c₂) ?_
              refine WQ_on rfl b₃ ?_
              refine WQ_v rfl (a_faE (off' := 0) (off2 := 0) (hO₃.rd0 s_at_.rd : Sl e_T_api_Point (k₂.bump 30) v_at_ at_) (toNat_lt c₂) rfl rfl) ?_
              refine WQ_on rfl b₃ ?_
              refine WQ_v rfl (a_ldE (w := .i .i64 ((gi at_ (max (((gi l (v : Int).toNat).Next).get 0) 0 : Int).toNat).X)) (hO₃.rd0 s_at_.rd : Sl e_T_api_Point (k₂.bump 30) v_at_ at_) rfl (toNat_lt c₂) rfl) ?_
              refine WQ_on rfl b₃ ?_
              refine WQ_v rfl (a_mv (v := v_at_) q₂_1) ?_
              refine WQ_on rfl b₃ ?_
              refine WQ_v rfl (a_mv (v := .i .i64 v) q₂_5) ?_
              refine WQ_on rfl b₃ ?_
              refine WQ_v rfl (a_ixa (E := e_T_api_Point) (z := v) (hO₃.rd0 s_at_.rd : Sl e_T_api_Point (k₂.bump 30) v_at_ at_) rfl rfl c₃) ?_
              refine WQ_on rfl b₃ ?_
              refine WQ_v rfl (a_faE (off' := 0) (off2 := 0) (hO₃.rd0 s_at_.rd : Sl e_T_api_Point (k₂.bump 30) v_at_ at_) (toNat_lt c₃) rfl rfl) ?_
              refine WQ_on rfl b₃ ?_
              refine WQ_v rfl (a_ldE (w := .i .i64 ((gi at_ (v : Int).toNat).X)) (hO₃.rd0 s_at_.rd : Sl e_T_api_Point (k₂.bump 30) v_at_ at_) rfl (toNat_lt c₃) rfl) ?_
              refine WQ_on rfl b₃ ?_
              refine WQ_v rfl (a_leq (a := ((gi at_ (max (((gi l (v : Int).toNat).Next).get 0) 0 : Int).toNat).X)) (b := ((gi at_ (v : Int).toNat).X)) rfl rfl) ?_
              refine WQ_on rfl b₂ ?_
              refine WQ_v rfl (a_pickF (t := (!(decide ((gi at_ (max (((gi l (v : Int).toNat).Next).get 0) 0 : Int).toNat).Y = (gi at_ (v : Int).toNat).Y)))) (v := .b ((!(decide ((gi at_ (max (((gi l (v : Int).toNat).Next).get 0) 0 : Int).toNat).Y = (gi at_ (v : Int).toNat).Y))) || (decide (((gi at_ (max (((gi l (v : Int).toNat).Next).get 0) 0 : Int).toNat).X) ≤ ((gi at_ (v : Int).toNat).X))))) rfl b₃ (Eq.trans (b := V.b (decide (((gi at_ (max (((gi l (v : Int).toNat).Next).get 0) 0 : Int).toNat).X) ≤ ((gi at_ (v : Int).toNat).X)))) rfl (or_on b₃))) ?_
              refine WQ_end ?_
              exact ⟨rfl, rfl, q₂_0, q₂_1, rfl, q₂_5⟩
          rintro frg₁ _ ⟨rfl, g₁_48, g₁_0, g₁_1, g₁_22, g₁_5⟩
          refine WQ_v rfl (a_pickT (t := (decide (0 ≤ (((gi l (v : Int).toNat).Next).get 0)))) (v := .b t) g₁_22 b₂ (Eq.trans (b := V.b ((!(decide ((gi at_ (max (((gi l (v : Int).toNat).Next).get 0) 0 : Int).toNat).Y = (gi at_ (v : Int).toNat).Y))) || (decide (((gi at_ (max (((gi l (v : Int).toNat).Next).get 0) 0 : Int).toNat).X) ≤ ((gi at_ (v : Int).toNat).X))))) g₁_48 (congrArg V.b (Option.some.inj hp)))) ?_
          refine WQ_end ?_
          exact ⟨rfl, rfl, g₁_0, g₁_1, g₁_5⟩
        · skip
          refine WQ_off rfl b₂ ?_
          refine WQ_off rfl b₂ ?_
          refine WQ_off rfl b₂ ?_
          refine WQ_off rfl b₂ ?_
          refine WQ_off rfl b₂ ?_
          refine WQ_off rfl b₂ ?_
          refine WQ_off rfl b₂ ?_
          refine WQ_off rfl b₂ ?_
          refine WQ_off rfl b₂ ?_
          refine WQ_off rfl b₂ ?_
          refine WQ_off rfl b₂ ?_
          refine WQ_off rfl b₂ ?_
          refine WQ_off rfl b₂ ?_
          refine WQ_un rfl ?_
          refine WQ_un rfl ?_
          refine WQ_un rfl ?_
          refine WQ_un rfl ?_
          refine WQ_un rfl ?_
          refine WQ_un rfl ?_
          refine WQ_un rfl ?_
          refine WQ_un rfl ?_
          refine WQ_un rfl ?_
          refine WQ_un rfl ?_
          refine WQ_un rfl ?_
          refine WQ_un rfl ?_
          refine WQ_off rfl b₂ ?_
          refine WQ_v rfl (a_pickF (t := (decide (0 ≤ (((gi l (v : Int).toNat).Next).get 0)))) (v := .b t) rfl b₂ (Eq.trans (b := V.b false) rfl (congrArg V.b (Option.some.inj hp)))) ?_
          refine WQ_end ?_
          exact ⟨rfl, rfl, q₂_0, q₂_1, q₂_5⟩
      rintro frg₂ _ ⟨rfl, g₂_49, g₂_0, g₂_1, g₂_5⟩
      refine WQ_end ?_
      refine then_n ?_
      rcases if_some hp with ⟨b₄, hp⟩ | ⟨b₄, hp⟩
      · refine W_cT (t := t) g₂_49 b₄ ?_
        refine W_sq ?_
        refine W_rg ?_
        refine WO_v (a_mv (v := .b false) rfl) ?_
        refine WO_end ?_
        refine then_n ?_
        refine W_rt ?_
        refine then_r ?_
        refine blk_r ?_
        refine then_r ?_
        have hp := Option.some.inj hp; subst hp
        refine (Or.inr (Exists.intro (.inr ()) (And.intro rfl (And.intro (fun h => nomatch h) (fun he => ?_)))))
        subst he; exact (And.intro rfl (And.intro (rfl) (hO₃.pick [] rfl (by decide))))
      · refine W_cF (t := t) g₂_49 b₄ ?_
        refine W_sk ?_
        refine then_n ?_
        refine W_sq ?_
        refine W_rg ?_
        refine WO_v (a_mv (v := v_l) g₂_0) ?_
        refine WO_v (a_mv (v := .i .i64 v) g₂_5) ?_
        refine WO_v (a_ixa (E := e_T_api_Cell) (z := v) (hO₃.rd0 s_l.rd : Sl e_T_api_Cell (k₂.bump 30) v_l l) rfl rfl c₁) ?_
        refine WO_v (a_faE (off' := 0) (off2 := 0) (hO₃.rd0 s_l.rd : Sl e_T_api_Cell (k₂.bump 30) v_l l) (toNat_lt c₁) rfl rfl) ?_
        refine WO_v (a_ixaaE (off := 0) (off2 := 1) (z := 1) (hO₃.rd0 s_l.rd : Sl e_T_api_Cell (k₂.bump 30) v_l l) (toNat_lt c₁) rfl rfl (by decide) rfl) ?_
        refine WO_v (a_ldE (w := .i .i64 (((gi l (v : Int).toNat).Next).get 1)) (hO₃.rd0 s_l.rd : Sl e_T_api_Cell (k₂.bump 30) v_l l) rfl (toNat_lt c₁) rfl) ?_
        refine WO_v (a_mv (v := .i .i64 (((gi l (v : Int).toNat).Next).get 1)) rfl) ?_
        refine WO_end ?_
        refine then_n ?_
        refine W_sq ?_
        refine W_qd ?_
        have hW := hO₃.bump 30
        have hO₄ : Own B h ((k₂.bump 30).bump 30) [] := hW
        refine WQ_v rfl (a_mv (v := .i .i64 (((gi l (v : Int).toNat).Next).get 1)) rfl) ?_
        refine WQ_v rfl (a_geq (a := (((gi l (v : Int).toNat).Next).get 1)) (b := 0) rfl rfl) ?_
        refine WQ_v rfl (a_mv (v := .b (decide (0 ≤ (((gi l (v : Int).toNat).Next).get 1)))) rfl) ?_
        obtain ⟨t1, hv₂, hp⟩ := bd_some hp
        refine WQ_cut 27 (fun fr' k' => ((k₂.bump 30).bump 30) = k' ∧ fr' 85 = .b t1 ∧ fr' 0 = v_l ∧ fr' 1 = v_at_ ∧ fr' 5 = .i .i64 v) ?_ ?_
        · clear hp; rcases if_some hv₂ with ⟨b₅, hp⟩ | ⟨b₅, hp⟩
          · skip
            refine WQ_on rfl b₅ ?_
            refine WQ_v rfl (a_mv (v := v_at_) g₂_1) ?_
            refine WQ_on rfl b₅ ?_
            refine WQ_v rfl (a_mv (v := .i .i64 (((gi l (v : Int).toNat).Next).get 1)) rfl) ?_
            refine WQ_on rfl b₅ ?_
            refine WQ_v rfl (a_mx (a := (((gi l (v : Int).toNat).Next).get 1)) (b := 0) rfl rfl) ?_
            refine WQ_on rfl b₅ ?_
            obtain ⟨c₄, hp⟩ := ck_some hp
            refine WQ_v rfl (a_ixa (E := e_T_api_Point) (z := (max (((gi l (v : Int).toNat).Next).get 1) 0)) (hO₄.rd0 s_at_.rd : Sl e_T_api_Point ((k₂.bump 30).bump 30) v_at_ at_) rfl rfl c₄) ?_
            refine WQ_on rfl b₅ ?_
            refine WQ_v rfl (a_faE (off' := 0) (off2 := 0) (hO₄.rd0 s_at_.rd : Sl e_T_api_Point ((k₂.bump 30).bump 30) v_at_ at_) (toNat_lt c₄) rfl rfl) ?_
            refine WQ_on rfl b₅ ?_
            refine WQ_v rfl (a_ldE (w := .i .i64 ((gi at_ (max (((gi l (v : Int).toNat).Next).get 1) 0 : Int).toNat).X)) (hO₄.rd0 s_at_.rd : Sl e_T_api_Point ((k₂.bump 30).bump 30) v_at_ at_) rfl (toNat_lt c₄) rfl) ?_
            refine WQ_on rfl b₅ ?_
            refine WQ_v rfl (a_mv (v := v_at_) g₂_1) ?_
            refine WQ_on rfl b₅ ?_
            refine WQ_v rfl (a_mv (v := .i .i64 v) g₂_5) ?_
            refine WQ_on rfl b₅ ?_
            obtain ⟨c₅, hp⟩ := ck_some hp
            refine WQ_v rfl (a_ixa (E := e_T_api_Point) (z := v) (hO₄.rd0 s_at_.rd : Sl e_T_api_Point ((k₂.bump 30).bump 30) v_at_ at_) rfl rfl c₅) ?_
            refine WQ_on rfl b₅ ?_
            refine WQ_v rfl (a_faE (off' := 0) (off2 := 0) (hO₄.rd0 s_at_.rd : Sl e_T_api_Point ((k₂.bump 30).bump 30) v_at_ at_) (toNat_lt c₅) rfl rfl) ?_
            refine WQ_on rfl b₅ ?_
            refine WQ_v rfl (a_ldE (w := .i .i64 ((gi at_ (v : Int).toNat).X)) (hO₄.rd0 s_at_.rd : Sl e_T_api_Point ((k₂.bump 30).bump 30) v_at_ at_) rfl (toNat_lt c₅) rfl) ?_
            refine WQ_on rfl b₅ ?_
            refine WQ_v rfl (a_neI (a := ((gi at_ (max (((gi l (v : Int).toNat).Next).get 1) 0 : Int).toNat).X)) (b := ((gi at_ (v : Int).toNat).X)) rfl rfl) ?_
            refine WQ_on rfl b₅ ?_
            refine WQ_v rfl (a_mv (v := .b (!(decide ((gi at_ (max (((gi l (v : Int).toNat).Next).get 1) 0 : Int).toNat).X = (gi at_ (v : Int).toNat).X)))) rfl) ?_
            refine WQ_cut 13 (fun fr' k' => ((k₂.bump 30).bump 30) = k' ∧ fr' 84 = .b ((!(decide ((gi at_ (max (((gi l (v : Int).toNat).Next).get 1) 0 : Int).toNat).X = (gi at_ (v : Int).toNat).X))) || (decide (((gi at_ (max (((gi l (v : Int).toNat).Next).get 1) 0 : Int).toNat).Y) ≤ ((gi at_ (v : Int).toNat).Y)))) ∧ fr' 0 = v_l ∧ fr' 1 = v_at_ ∧ fr' 5 = .i .i64 v ∧ fr' 58 = .b (decide (0 ≤ (((gi l (v : Int).toNat).Next).get 1)))) ?_ ?_
            · rcases bc (!(decide ((gi at_ (max (((gi l (v : Int).toNat).Next).get 1) 0 : Int).toNat).X = (gi at_ (v : Int).toNat).X))) with b₆ | b₆
              · skip
                refine WQ_off rfl b₆ ?_
                refine WQ_off rfl b₆ ?_
                refine WQ_off rfl b₆ ?_
                refine WQ_off rfl b₆ ?_
                refine WQ_off rfl b₆ ?_
                refine WQ_off rfl b₆ ?_
                refine WQ_off rfl b₆ ?_
                refine WQ_off rfl b₆ ?_
                refine WQ_off rfl b₆ ?_
                refine WQ_off rfl b₆ ?_
                refine WQ_off rfl b₆ ?_
                refine WQ_off rfl b₆ ?_
                refine WQ_on rfl b₅ ?_
                refine WQ_v rfl (a_pickT (t := (!(decide ((gi at_ (max (((gi l (v : Int).toNat).Next).get 1) 0 : Int).toNat).X = (gi at_ (v : Int).toNat).X)))) (v := .b ((!(decide ((gi at_ (max (((gi l (v : Int).toNat).Next).get 1) 0 : Int).toNat).X = (gi at_ (v : Int).toNat).X))) || (decide (((gi at_ (max (((gi l (v : Int).toNat).Next).get 1) 0 : Int).toNat).Y) ≤ ((gi at_ (v : Int).toNat).Y))))) rfl b₆ (Eq.trans (b := V.b true) rfl (or_off b₆))) ?_
                refine WQ_end ?_
                exact ⟨rfl, rfl, g₂_0, g₂_1, g₂_5, rfl⟩
              · skip
                refine WQ_on rfl b₆ ?_
                refine WQ_v rfl (a_mv (v := v_at_) g₂_1) ?_
                refine WQ_on rfl b₆ ?_
                refine WQ_v rfl (a_mv (v := .i .i64 (((gi l (v : Int).toNat).Next).get 1)) rfl) ?_
                refine WQ_on rfl b₆ ?_
                refine WQ_v rfl (a_mx (a := (((gi l (v : Int).toNat).Next).get 1)) (b := 0) rfl rfl) ?_
                refine WQ_on rfl b₆ ?_
                refine WQ_v rfl (a_ixa (E := e_T_api_Point) (z := (max (((gi l (v : Int).toNat).Next).get 1) 0)) (hO₄.rd0 s_at_.rd : Sl e_T_api_Point ((k₂.bump 30).bump 30) v_at_ at_) rfl rfl c₄) ?_
                refine WQ_on rfl b₆ ?_
                refine WQ_v rfl (a_faE (off' := 0) (off2 := 1) (hO₄.rd0 s_at_.rd : Sl e_T_api_Point ((k₂.bump 30).bump 30) v_at_ at_) (toNat_lt c₄) rfl rfl) ?_
                refine WQ_on rfl b₆ ?_
                refine WQ_v rfl (a_ldE (w := .i .i64 ((gi at_ (max (((gi l (v : Int).toNat).Next).get 1) 0 : Int).toNat).Y)) (hO₄.rd0 s_at_.rd : Sl e_T_api_Point ((k₂.bump 30).bump 30) v_at_ at_) rfl (toNat_lt c₄) rfl) ?_
                refine WQ_on rfl b₆ ?_
                refine WQ_v rfl (a_mv (v := v_at_) g₂_1) ?_
                refine WQ_on rfl b₆ ?_
                refine WQ_v rfl (a_mv (v := .i .i64 v) g₂_5) ?_
                refine WQ_on rfl b₆ ?_
                refine WQ_v rfl (a_ixa (E := e_T_api_Point) (z := v) (hO₄.rd0 s_at_.rd : Sl e_T_api_Point ((k₂.bump 30).bump 30) v_at_ at_) rfl rfl c₅) ?_
                refine WQ_on rfl b₆ ?_
                refine WQ_v rfl (a_faE (off' := 0) (off2 := 1) (hO₄.rd0 s_at_.rd : Sl e_T_api_Point ((k₂.bump 30).bump 30) v_at_ at_) (toNat_lt c₅) rfl rfl) ?_
                refine WQ_on rfl b₆ ?_
                refine WQ_v rfl (a_ldE (w := .i .i64 ((gi at_ (v : Int).toNat).Y)) (hO₄.rd0 s_at_.rd : Sl e_T_api_Point ((k₂.bump 30).bump 30) v_at_ at_) rfl (toNat_lt c₅) rfl) ?_
                refine WQ_on rfl b₆ ?_
                refine WQ_v rfl (a_leq (a := ((gi at_ (max (((gi l (v : Int).toNat).Next).get 1) 0 : Int).toNat).Y)) (b := ((gi at_ (v : Int).toNat).Y)) rfl rfl) ?_
                refine WQ_on rfl b₅ ?_
                refine WQ_v rfl (a_pickF (t := (!(decide ((gi at_ (max (((gi l (v : Int).toNat).Next).get 1) 0 : Int).toNat).X = (gi at_ (v : Int).toNat).X)))) (v := .b ((!(decide ((gi at_ (max (((gi l (v : Int).toNat).Next).get 1) 0 : Int).toNat).X = (gi at_ (v : Int).toNat).X))) || (decide (((gi at_ (max (((gi l (v : Int).toNat).Next).get 1) 0 : Int).toNat).Y) ≤ ((gi at_ (v : Int).toNat).Y))))) rfl b₆ (Eq.trans (b := V.b (decide (((gi at_ (max (((gi l (v : Int).toNat).Next).get 1) 0 : Int).toNat).Y) ≤ ((gi at_ (v : Int).toNat).Y)))) rfl (or_on b₆))) ?_
                refine WQ_end ?_
                exact ⟨rfl, rfl, g₂_0, g₂_1, g₂_5, rfl⟩
            rintro frg₃ _ ⟨rfl, g₃_84, g₃_0, g₃_1, g₃_5, g₃_58⟩
            refine WQ_v rfl (a_pickT (t := (decide (0 ≤ (((gi l (v : Int).toNat).Next).get 1)))) (v := .b t1) g₃_58 b₅ (Eq.trans (b := V.b ((!(decide ((gi at_ (max (((gi l (v : Int).toNat).Next).get 1) 0 : Int).toNat).X = (gi at_ (v : Int).toNat).X))) || (decide (((gi at_ (max (((gi l (v : Int).toNat).Next).get 1) 0 : Int).toNat).Y) ≤ ((gi at_ (v : Int).toNat).Y))))) g₃_84 (congrArg V.b (Option.some.inj hp)))) ?_
            refine WQ_end ?_
            exact ⟨rfl, rfl, g₃_0, g₃_1, g₃_5⟩
          · skip
            refine WQ_off rfl b₅ ?_
            refine WQ_off rfl b₅ ?_
            refine WQ_off rfl b₅ ?_
            refine WQ_off rfl b₅ ?_
            refine WQ_off rfl b₅ ?_
            refine WQ_off rfl b₅ ?_
            refine WQ_off rfl b₅ ?_
            refine WQ_off rfl b₅ ?_
            refine WQ_off rfl b₅ ?_
            refine WQ_off rfl b₅ ?_
            refine WQ_off rfl b₅ ?_
            refine WQ_off rfl b₅ ?_
            refine WQ_off rfl b₅ ?_
            refine WQ_un rfl ?_
            refine WQ_un rfl ?_
            refine WQ_un rfl ?_
            refine WQ_un rfl ?_
            refine WQ_un rfl ?_
            refine WQ_un rfl ?_
            refine WQ_un rfl ?_
            refine WQ_un rfl ?_
            refine WQ_un rfl ?_
            refine WQ_un rfl ?_
            refine WQ_un rfl ?_
            refine WQ_un rfl ?_
            refine WQ_off rfl b₅ ?_
            refine WQ_v rfl (a_pickF (t := (decide (0 ≤ (((gi l (v : Int).toNat).Next).get 1)))) (v := .b t1) rfl b₅ (Eq.trans (b := V.b false) rfl (congrArg V.b (Option.some.inj hp)))) ?_
            refine WQ_end ?_
            exact ⟨rfl, rfl, g₂_0, g₂_1, g₂_5⟩
        rintro frg₄ _ ⟨rfl, g₄_85, g₄_0, g₄_1, g₄_5⟩
        refine WQ_end ?_
        refine then_n ?_
        rcases if_some hp with ⟨b₇, hp⟩ | ⟨b₇, hp⟩
        · refine W_cT (t := t1) g₄_85 b₇ ?_
          refine W_sq ?_
          refine W_rg ?_
          refine WO_v (a_mv (v := .b false) rfl) ?_
          refine WO_end ?_
          refine then_n ?_
          refine W_rt ?_
          refine blk_r ?_
          refine then_r ?_
          have hp := Option.some.inj hp; subst hp
          refine (Or.inr (Exists.intro (.inr ()) (And.intro rfl (And.intro (fun h => nomatch h) (fun he => ?_)))))
          subst he; exact (And.intro rfl (And.intro (rfl) (hO₄.pick [] rfl (by decide))))
        · refine W_cF (t := t1) g₄_85 b₇ ?_
          refine W_sk ?_
          refine blk_n ?_
          refine then_n ?_
          refine W_rg ?_
          refine WO_v (a_mv (v := .i .i64 v) g₄_5) ?_
          obtain ⟨c₆, hp⟩ := ck_some hp
          refine WO_v (a_add (a := v) (b := 1) rfl rfl c₆) ?_
          refine WO_v (a_mv (v := .i .i64 (v + 1)) rfl) ?_
          refine WO_end ?_
          have hp := Option.some.inj hp; subst hp
          exact (Or.inl (Exists.intro (v + 1) (And.intro rfl (And.intro rfl (And.intro (g₄_0) (And.intro (g₄_1) (And.intro (rfl) (hO₄.pick [] rfl (by decide)))))))))
    · refine W_cF (t := (decide (v < (l.length : Int)))) rfl b₁ ?_
      refine W_ex ?_
      refine then_e ?_
      have hp := Option.some.inj hp; subst hp
      refine (Or.inr (Exists.intro (.inl ()) (And.intro rfl (And.intro (fun h => nomatch h) (fun he => ?_)))))
      subst he; exact (And.intro rfl (hO₂.pick [] rfl (by decide)))
  intro e₁ q₁ k₁ hJ₁
  rcases o₁ with _ | _
  · obtain ⟨rfl, hO₁⟩ := hJ₁
    refine blk_i ?_
    refine then_n ?_
    refine W_sq ?_
    refine W_rg ?_
    refine WO_v (a_mv (v := .b true) rfl) ?_
    refine WO_end ?_
    refine then_n ?_
    refine W_rt ?_
    refine Ret_r (rs_t (n := 4) (v := .b true) rfl rs_nil) ?_
    have hp := Option.some.inj hp; subst hp
    exact (And.intro rfl (hO₁.pick [] rfl (by decide)))
  · obtain ⟨rfl, q₁_4, hO₁⟩ := hJ₁
    refine blk_r ?_
    refine then_r ?_
    refine Ret_r (rs_t (n := 4) (v := .b false) q₁_4 rs_nil) ?_
    have hp := Option.some.inj hp; subst hp
    exact (And.intro rfl (hO₁.pick [] rfl (by decide)))

theorem p_muntinref17_Length.ok {h : Hp} {l : List T_api_Cell} {at_ : List T_api_Point} {v_l : V} {v_at_ : V} (s_l : Sl e_T_api_Cell h v_l l) (s_at_ : Sl e_T_api_Point h v_at_ at_) {r : Int} (hp : p_muntinref17_Length l at_ = some r) :
    ∃ u k', Is G 194 [v_l, v_at_] h u k' ∧ V.i .i64 r = u ∧ Own (fun r => r < h.n) h k' [] := by
  refine WC.is (WC_of G_F_muntinref17_Length ?_)
  unfold p_muntinref17_Length at hp
  let B : Nat → Prop := (fun r => r < h.n)
  have hO : Own B h h [] := Own.start0 h
  refine W_sq ?_
  refine W_rg ?_
  refine WO_v (a_mv (v := .i .i64 0) rfl) ?_
  refine WO_end ?_
  refine then_n ?_
  refine W_sq ?_
  refine W_rg ?_
  refine WO_v (a_mv (v := .i .i64 0) rfl) ?_
  refine WO_end ?_
  refine then_n ?_
  refine W_sq ?_
  refine W_sq ?_
  refine W_rg ?_
  refine WO_v (a_mv (v := .i .i64 0) rfl) ?_
  refine WO_end ?_
  refine then_n ?_
  refine W_bl ?_
  obtain ⟨o₁, ho₁, hp⟩ := bd_some hp
  refine W.mono (Q := fun e fr k => match (generalizing := false) o₁ with
      | sum1 => e = (.exit 0) ∧ fr 5 = .i .i64 sum1 ∧ Own B h k []) ?_ ?_
  · clear hp
    refine W_loopF (fun st fr k => match st with | (sum, v) => fr 0 = v_l ∧ fr 1 = v_at_ ∧ fr 5 = .i .i64 sum ∧ fr 6 = .i .i64 v ∧ Own B h k []) ho₁ (s := (0, 0)) (And.intro (rfl) (And.intro (rfl) (And.intro (rfl) (And.intro (rfl) (hO.pick [] rfl (by decide)))))) ?_
    rintro ⟨sum, v⟩ q₂ k₂ ⟨q₂_0, q₂_1, q₂_5, q₂_6, hO₂⟩ o₂ hp
    dsimp only [p_muntinref17_Length.s0] at hp
    refine W_sq ?_
    refine W_sq ?_
    refine W_rg ?_
    refine WO_v (a_mv (v := .i .i64 v) q₂_6) ?_
    refine WO_v (a_mv (v := v_l) q₂_0) ?_
    refine WO_v (a_len (hO₂.rd0 s_l.rd : Sl e_T_api_Cell k₂ v_l l) rfl) ?_
    refine WO_v (a_lss (a := v) (b := (l.length : Int)) rfl rfl) ?_
    refine WO_end ?_
    refine then_n ?_
    rcases if_some hp with ⟨b₁, hp⟩ | ⟨b₁, hp⟩
    · refine W_cT (t := (decide (v < (l.length : Int)))) rfl b₁ ?_
      refine W_sk ?_
      refine then_n ?_
      refine W_sq ?_
      refine W_bl ?_
      refine W_sq ?_
      refine W_rg ?_
      refine WO_v (a_mv (v := v_l) q₂_0) ?_
      refine WO_v (a_mv (v := .i .i64 v) q₂_6) ?_
      obtain ⟨c₁, hp⟩ := ck_some hp
      refine WO_v (a_ixa (E := e_T_api_Cell) (z := v) (hO₂.rd0 s_l.rd : Sl e_T_api_Cell k₂ v_l l) rfl rfl c₁) ?_
      refine WO_v (a_faE (off' := 0) (off2 := 0) (hO₂.rd0 s_l.rd : Sl e_T_api_Cell k₂ v_l l) (toNat_lt c₁) rfl rfl) ?_
      refine WO_v (a_ixaaE (off := 0) (off2 := 0) (z := 0) (hO₂.rd0 s_l.rd : Sl e_T_api_Cell k₂ v_l l) (toNat_lt c₁) rfl rfl (by decide) rfl) ?_
      refine WO_v (a_ldE (w := .i .i64 (((gi l (v : Int).toNat).Next).get 0)) (hO₂.rd0 s_l.rd : Sl e_T_api_Cell k₂ v_l l) rfl (toNat_lt c₁) rfl) ?_
      refine WO_v (a_mv (v := .i .i64 (((gi l (v : Int).toNat).Next).get 0)) rfl) ?_
      refine WO_end ?_
      refine then_n ?_
      refine W_sq ?_
      refine W_sq ?_
      refine W_rg ?_
      refine WO_v (a_mv (v := .i .i64 (((gi l (v : Int).toNat).Next).get 0)) rfl) ?_
      refine WO_v (a_geq (a := (((gi l (v : Int).toNat).Next).get 0)) (b := 0) rfl rfl) ?_
      refine WO_v (a_mv (v := .b (decide (0 ≤ (((gi l (v : Int).toNat).Next).get 0)))) rfl) ?_
      refine WO_cut 8 (fun fr' k' => k₂ = k' ∧ fr' 31 = .b ((decide (0 ≤ (((gi l (v : Int).toNat).Next).get 0))) && (decide (0 ≤ (((gi l (v : Int).toNat).Owner).get 0)))) ∧ fr' 0 = v_l ∧ fr' 1 = v_at_ ∧ fr' 5 = .i .i64 sum ∧ fr' 6 = .i .i64 v ∧ fr' 7 = .i .i64 (((gi l (v : Int).toNat).Next).get 0)) ?_ ?_
      · rcases bc (decide (0 ≤ (((gi l (v : Int).toNat).Next).get 0))) with b₂ | b₂
        · skip
          refine WO_on rfl b₂ ?_
          refine WO_v (a_mv (v := v_l) q₂_0) ?_
          refine WO_on rfl b₂ ?_
          refine WO_v (a_mv (v := .i .i64 v) q₂_6) ?_
          refine WO_on rfl b₂ ?_
          refine WO_v (a_ixa (E := e_T_api_Cell) (z := v) (hO₂.rd0 s_l.rd : Sl e_T_api_Cell k₂ v_l l) rfl rfl c₁) ?_
          refine WO_on rfl b₂ ?_
          refine WO_v (a_faE (off' := 0) (off2 := 4) (hO₂.rd0 s_l.rd : Sl e_T_api_Cell k₂ v_l l) (toNat_lt c₁) rfl rfl) ?_
          refine WO_on rfl b₂ ?_
          refine WO_v (a_ixaaE (off := 4) (off2 := 4) (z := 0) (hO₂.rd0 s_l.rd : Sl e_T_api_Cell k₂ v_l l) (toNat_lt c₁) rfl rfl (by decide) rfl) ?_
          refine WO_on rfl b₂ ?_
          refine WO_v (a_ldE (w := .i .i64 (((gi l (v : Int).toNat).Owner).get 0)) (hO₂.rd0 s_l.rd : Sl e_T_api_Cell k₂ v_l l) rfl (toNat_lt c₁) rfl) ?_
          refine WO_on rfl b₂ ?_
          refine WO_v (a_geq (a := (((gi l (v : Int).toNat).Owner).get 0)) (b := 0) rfl rfl) ?_
          refine WO_v (a_pickT (t := (decide (0 ≤ (((gi l (v : Int).toNat).Next).get 0)))) (v := .b ((decide (0 ≤ (((gi l (v : Int).toNat).Next).get 0))) && (decide (0 ≤ (((gi l (v : Int).toNat).Owner).get 0))))) rfl b₂ (Eq.trans (b := V.b (decide (0 ≤ (((gi l (v : Int).toNat).Owner).get 0)))) rfl (and_on b₂))) ?_
          refine WO_end ?_
          exact ⟨rfl, rfl, q₂_0, q₂_1, q₂_5, q₂_6, rfl⟩
        · skip
          refine WO_off rfl b₂ ?_
          refine WO_off rfl b₂ ?_
          refine WO_off rfl b₂ ?_
          refine WO_off rfl b₂ ?_
          refine WO_off rfl b₂ ?_
          refine WO_off rfl b₂ ?_
          refine WO_off rfl b₂ ?_
          refine WO_v (a_pickF (t := (decide (0 ≤ (((gi l (v : Int).toNat).Next).get 0)))) (v := .b ((decide (0 ≤ (((gi l (v : Int).toNat).Next).get 0))) && (decide (0 ≤ (((gi l (v : Int).toNat).Owner).get 0))))) rfl b₂ (Eq.trans (b := V.b false) rfl (and_off b₂))) ?_
          refine WO_end ?_
          exact ⟨rfl, rfl, q₂_0, q₂_1, q₂_5, q₂_6, rfl⟩
      rintro frg₁ _ ⟨rfl, g₁_31, g₁_0, g₁_1, g₁_5, g₁_6, g₁_7⟩
      refine WO_end ?_
      refine then_n ?_
      obtain ⟨o₃, ho₂, hp⟩ := bd_some hp
      refine W.mono (Q := fun e fr k => match (generalizing := false) o₃ with
          | sum2 => e = .normal ∧ fr 0 = v_l ∧ fr 1 = v_at_ ∧ fr 5 = .i .i64 sum2 ∧ fr 6 = .i .i64 v ∧ Own B h k []) ?_ ?_
      · clear hp; have hp := ho₂; clear ho₂
        rcases if_some hp with ⟨b₃, hp⟩ | ⟨b₃, hp⟩
        · refine W_cT (t := ((decide (0 ≤ (((gi l (v : Int).toNat).Next).get 0))) && (decide (0 ≤ (((gi l (v : Int).toNat).Owner).get 0))))) g₁_31 b₃ ?_
          refine W_qd ?_
          have hW := hO₂.bump 14
          have hO₄ : Own B h (k₂.bump 14) [] := hW
          refine WQ_v rfl (a_mv (v := .i .i64 sum) g₁_5) ?_
          refine WQ_v rfl (a_mv (v := v_at_) g₁_1) ?_
          refine WQ_v rfl (a_mv (v := .i .i64 (((gi l (v : Int).toNat).Next).get 0)) g₁_7) ?_
          obtain ⟨c₂, hp⟩ := ck_some hp
          refine WQ_v rfl (a_ixa (E := e_T_api_Point) (z := (((gi l (v : Int).toNat).Next).get 0)) (hO₄.rd0 s_at_.rd : Sl e_T_api_Point (k₂.bump 14) v_at_ at_) rfl rfl c₂) ?_
          refine WQ_v rfl (a_faE (off' := 0) (off2 := 0) (hO₄.rd0 s_at_.rd : Sl e_T_api_Point (k₂.bump 14) v_at_ at_) (toNat_lt c₂) rfl rfl) ?_
          refine WQ_v rfl (a_ldE (w := .i .i64 ((gi at_ (((gi l (v : Int).toNat).Next).get 0 : Int).toNat).X)) (hO₄.rd0 s_at_.rd : Sl e_T_api_Point (k₂.bump 14) v_at_ at_) rfl (toNat_lt c₂) rfl) ?_
          obtain ⟨c₃, hp⟩ := ck_some hp
          refine WQ_v rfl (a_add (a := sum) (b := ((gi at_ (((gi l (v : Int).toNat).Next).get 0 : Int).toNat).X)) rfl rfl c₃) ?_
          refine WQ_v rfl (a_mv (v := v_at_) g₁_1) ?_
          refine WQ_v rfl (a_mv (v := .i .i64 v) g₁_6) ?_
          obtain ⟨c₄, hp⟩ := ck_some hp
          refine WQ_v rfl (a_ixa (E := e_T_api_Point) (z := v) (hO₄.rd0 s_at_.rd : Sl e_T_api_Point (k₂.bump 14) v_at_ at_) rfl rfl c₄) ?_
          refine WQ_v rfl (a_faE (off' := 0) (off2 := 0) (hO₄.rd0 s_at_.rd : Sl e_T_api_Point (k₂.bump 14) v_at_ at_) (toNat_lt c₄) rfl rfl) ?_
          refine WQ_v rfl (a_ldE (w := .i .i64 ((gi at_ (v : Int).toNat).X)) (hO₄.rd0 s_at_.rd : Sl e_T_api_Point (k₂.bump 14) v_at_ at_) rfl (toNat_lt c₄) rfl) ?_
          obtain ⟨c₅, hp⟩ := ck_some hp
          refine WQ_v rfl (a_sub (a := (sum + ((gi at_ (((gi l (v : Int).toNat).Next).get 0 : Int).toNat).X))) (b := ((gi at_ (v : Int).toNat).X)) rfl rfl c₅) ?_
          refine WQ_v rfl (a_mv (v := .i .i64 ((sum + ((gi at_ (((gi l (v : Int).toNat).Next).get 0 : Int).toNat).X)) - ((gi at_ (v : Int).toNat).X))) rfl) ?_
          refine WQ_end ?_
          have hp := Option.some.inj hp; subst hp
          exact (And.intro rfl (And.intro (g₁_0) (And.intro (g₁_1) (And.intro (rfl) (And.intro (g₁_6) (hO₄.pick [] rfl (by decide)))))))
        · refine W_cF (t := ((decide (0 ≤ (((gi l (v : Int).toNat).Next).get 0))) && (decide (0 ≤ (((gi l (v : Int).toNat).Owner).get 0))))) g₁_31 b₃ ?_
          refine W_sk ?_
          have hp := Option.some.inj hp; subst hp
          exact (And.intro rfl (And.intro (g₁_0) (And.intro (g₁_1) (And.intro (g₁_5) (And.intro (g₁_6) (hO₂.pick [] rfl (by decide)))))))
      intro e₂ q₃ k₃ hJ₂
      obtain ⟨sum2, rfl⟩ : ∃ x, x = o₃ := ⟨_, rfl⟩
      obtain ⟨rfl, q₃_0, q₃_1, q₃_5, q₃_6, hO₃⟩ := hJ₂
      refine then_n ?_
      refine W_sq ?_
      refine W_rg ?_
      refine WO_v (a_mv (v := v_l) q₃_0) ?_
      refine WO_v (a_mv (v := .i .i64 v) q₃_6) ?_
      refine WO_v (a_ixa (E := e_T_api_Cell) (z := v) (hO₃.rd0 s_l.rd : Sl e_T_api_Cell k₃ v_l l) rfl rfl c₁) ?_
      refine WO_v (a_faE (off' := 0) (off2 := 0) (hO₃.rd0 s_l.rd : Sl e_T_api_Cell k₃ v_l l) (toNat_lt c₁) rfl rfl) ?_
      refine WO_v (a_ixaaE (off := 0) (off2 := 1) (z := 1) (hO₃.rd0 s_l.rd : Sl e_T_api_Cell k₃ v_l l) (toNat_lt c₁) rfl rfl (by decide) rfl) ?_
      refine WO_v (a_ldE (w := .i .i64 (((gi l (v : Int).toNat).Next).get 1)) (hO₃.rd0 s_l.rd : Sl e_T_api_Cell k₃ v_l l) rfl (toNat_lt c₁) rfl) ?_
      refine WO_v (a_mv (v := .i .i64 (((gi l (v : Int).toNat).Next).get 1)) rfl) ?_
      refine WO_end ?_
      refine then_n ?_
      refine W_sq ?_
      refine W_rg ?_
      refine WO_v (a_mv (v := .i .i64 (((gi l (v : Int).toNat).Next).get 1)) rfl) ?_
      refine WO_v (a_geq (a := (((gi l (v : Int).toNat).Next).get 1)) (b := 0) rfl rfl) ?_
      refine WO_v (a_mv (v := .b (decide (0 ≤ (((gi l (v : Int).toNat).Next).get 1)))) rfl) ?_
      refine WO_cut 8 (fun fr' k' => k₃ = k' ∧ fr' 61 = .b ((decide (0 ≤ (((gi l (v : Int).toNat).Next).get 1))) && (decide (0 ≤ (((gi l (v : Int).toNat).Owner).get 1)))) ∧ fr' 0 = v_l ∧ fr' 1 = v_at_ ∧ fr' 5 = .i .i64 sum2 ∧ fr' 6 = .i .i64 v ∧ fr' 8 = .i .i64 (((gi l (v : Int).toNat).Next).get 1)) ?_ ?_
      · rcases bc (decide (0 ≤ (((gi l (v : Int).toNat).Next).get 1))) with b₄ | b₄
        · skip
          refine WO_on rfl b₄ ?_
          refine WO_v (a_mv (v := v_l) q₃_0) ?_
          refine WO_on rfl b₄ ?_
          refine WO_v (a_mv (v := .i .i64 v) q₃_6) ?_
          refine WO_on rfl b₄ ?_
          refine WO_v (a_ixa (E := e_T_api_Cell) (z := v) (hO₃.rd0 s_l.rd : Sl e_T_api_Cell k₃ v_l l) rfl rfl c₁) ?_
          refine WO_on rfl b₄ ?_
          refine WO_v (a_faE (off' := 0) (off2 := 4) (hO₃.rd0 s_l.rd : Sl e_T_api_Cell k₃ v_l l) (toNat_lt c₁) rfl rfl) ?_
          refine WO_on rfl b₄ ?_
          refine WO_v (a_ixaaE (off := 4) (off2 := 5) (z := 1) (hO₃.rd0 s_l.rd : Sl e_T_api_Cell k₃ v_l l) (toNat_lt c₁) rfl rfl (by decide) rfl) ?_
          refine WO_on rfl b₄ ?_
          refine WO_v (a_ldE (w := .i .i64 (((gi l (v : Int).toNat).Owner).get 1)) (hO₃.rd0 s_l.rd : Sl e_T_api_Cell k₃ v_l l) rfl (toNat_lt c₁) rfl) ?_
          refine WO_on rfl b₄ ?_
          refine WO_v (a_geq (a := (((gi l (v : Int).toNat).Owner).get 1)) (b := 0) rfl rfl) ?_
          refine WO_v (a_pickT (t := (decide (0 ≤ (((gi l (v : Int).toNat).Next).get 1)))) (v := .b ((decide (0 ≤ (((gi l (v : Int).toNat).Next).get 1))) && (decide (0 ≤ (((gi l (v : Int).toNat).Owner).get 1))))) rfl b₄ (Eq.trans (b := V.b (decide (0 ≤ (((gi l (v : Int).toNat).Owner).get 1)))) rfl (and_on b₄))) ?_
          refine WO_end ?_
          exact ⟨rfl, rfl, q₃_0, q₃_1, q₃_5, q₃_6, rfl⟩
        · skip
          refine WO_off rfl b₄ ?_
          refine WO_off rfl b₄ ?_
          refine WO_off rfl b₄ ?_
          refine WO_off rfl b₄ ?_
          refine WO_off rfl b₄ ?_
          refine WO_off rfl b₄ ?_
          refine WO_off rfl b₄ ?_
          refine WO_v (a_pickF (t := (decide (0 ≤ (((gi l (v : Int).toNat).Next).get 1)))) (v := .b ((decide (0 ≤ (((gi l (v : Int).toNat).Next).get 1))) && (decide (0 ≤ (((gi l (v : Int).toNat).Owner).get 1))))) rfl b₄ (Eq.trans (b := V.b false) rfl (and_off b₄))) ?_
          refine WO_end ?_
          exact ⟨rfl, rfl, q₃_0, q₃_1, q₃_5, q₃_6, rfl⟩
      rintro frg₂ _ ⟨rfl, g₂_61, g₂_0, g₂_1, g₂_5, g₂_6, g₂_8⟩
      refine WO_end ?_
      refine then_n ?_
      rcases if_some hp with ⟨b₅, hp⟩ | ⟨b₅, hp⟩
      · refine W_cT (t := ((decide (0 ≤ (((gi l (v : Int).toNat).Next).get 1))) && (decide (0 ≤ (((gi l (v : Int).toNat).Owner).get 1))))) g₂_61 b₅ ?_
        refine W_qd ?_
        have hW := hO₃.bump 14
        have hO₅ : Own B h (k₃.bump 14) [] := hW
        refine WQ_v rfl (a_mv (v := .i .i64 sum2) g₂_5) ?_
        refine WQ_v rfl (a_mv (v := v_at_) g₂_1) ?_
        refine WQ_v rfl (a_mv (v := .i .i64 (((gi l (v : Int).toNat).Next).get 1)) g₂_8) ?_
        obtain ⟨c₆, hp⟩ := ck_some hp
        refine WQ_v rfl (a_ixa (E := e_T_api_Point) (z := (((gi l (v : Int).toNat).Next).get 1)) (hO₅.rd0 s_at_.rd : Sl e_T_api_Point (k₃.bump 14) v_at_ at_) rfl rfl c₆) ?_
        refine WQ_v rfl (a_faE (off' := 0) (off2 := 1) (hO₅.rd0 s_at_.rd : Sl e_T_api_Point (k₃.bump 14) v_at_ at_) (toNat_lt c₆) rfl rfl) ?_
        refine WQ_v rfl (a_ldE (w := .i .i64 ((gi at_ (((gi l (v : Int).toNat).Next).get 1 : Int).toNat).Y)) (hO₅.rd0 s_at_.rd : Sl e_T_api_Point (k₃.bump 14) v_at_ at_) rfl (toNat_lt c₆) rfl) ?_
        obtain ⟨c₇, hp⟩ := ck_some hp
        refine WQ_v rfl (a_add (a := sum2) (b := ((gi at_ (((gi l (v : Int).toNat).Next).get 1 : Int).toNat).Y)) rfl rfl c₇) ?_
        refine WQ_v rfl (a_mv (v := v_at_) g₂_1) ?_
        refine WQ_v rfl (a_mv (v := .i .i64 v) g₂_6) ?_
        obtain ⟨c₈, hp⟩ := ck_some hp
        refine WQ_v rfl (a_ixa (E := e_T_api_Point) (z := v) (hO₅.rd0 s_at_.rd : Sl e_T_api_Point (k₃.bump 14) v_at_ at_) rfl rfl c₈) ?_
        refine WQ_v rfl (a_faE (off' := 0) (off2 := 1) (hO₅.rd0 s_at_.rd : Sl e_T_api_Point (k₃.bump 14) v_at_ at_) (toNat_lt c₈) rfl rfl) ?_
        refine WQ_v rfl (a_ldE (w := .i .i64 ((gi at_ (v : Int).toNat).Y)) (hO₅.rd0 s_at_.rd : Sl e_T_api_Point (k₃.bump 14) v_at_ at_) rfl (toNat_lt c₈) rfl) ?_
        obtain ⟨c₉, hp⟩ := ck_some hp
        refine WQ_v rfl (a_sub (a := (sum2 + ((gi at_ (((gi l (v : Int).toNat).Next).get 1 : Int).toNat).Y))) (b := ((gi at_ (v : Int).toNat).Y)) rfl rfl c₉) ?_
        refine WQ_v rfl (a_mv (v := .i .i64 ((sum2 + ((gi at_ (((gi l (v : Int).toNat).Next).get 1 : Int).toNat).Y)) - ((gi at_ (v : Int).toNat).Y))) rfl) ?_
        refine WQ_end ?_
        refine blk_n ?_
        refine then_n ?_
        refine W_rg ?_
        refine WO_v (a_mv (v := .i .i64 v) g₂_6) ?_
        obtain ⟨c₁₀, hp⟩ := ck_some hp
        refine WO_v (a_add (a := v) (b := 1) rfl rfl c₁₀) ?_
        refine WO_v (a_mv (v := .i .i64 (v + 1)) rfl) ?_
        refine WO_end ?_
        have hp := Option.some.inj hp; subst hp
        exact (Or.inl (Exists.intro ((sum2 + ((gi at_ (((gi l (v : Int).toNat).Next).get 1 : Int).toNat).Y)) - ((gi at_ (v : Int).toNat).Y), v + 1) (And.intro rfl (And.intro rfl (And.intro (g₂_0) (And.intro (g₂_1) (And.intro (rfl) (And.intro (rfl) (hO₅.pick [] rfl (by decide))))))))))
      · refine W_cF (t := ((decide (0 ≤ (((gi l (v : Int).toNat).Next).get 1))) && (decide (0 ≤ (((gi l (v : Int).toNat).Owner).get 1))))) g₂_61 b₅ ?_
        refine W_sk ?_
        refine blk_n ?_
        refine then_n ?_
        refine W_rg ?_
        refine WO_v (a_mv (v := .i .i64 v) g₂_6) ?_
        obtain ⟨c₁₁, hp⟩ := ck_some hp
        refine WO_v (a_add (a := v) (b := 1) rfl rfl c₁₁) ?_
        refine WO_v (a_mv (v := .i .i64 (v + 1)) rfl) ?_
        refine WO_end ?_
        have hp := Option.some.inj hp; subst hp
        exact (Or.inl (Exists.intro (sum2, v + 1) (And.intro rfl (And.intro rfl (And.intro (g₂_0) (And.intro (g₂_1) (And.intro (g₂_5) (And.intro (rfl) (hO₃.pick [] rfl (by decide))))))))))
    · refine W_cF (t := (decide (v < (l.length : Int)))) rfl b₁ ?_
      refine W_ex ?_
      refine then_e ?_
      have hp := Option.some.inj hp; subst hp
      refine (Or.inr (Exists.intro sum (And.intro rfl (And.intro (fun h => nomatch h) (fun he => ?_)))))
      subst he; exact (And.intro rfl (And.intro (q₂_5) (hO₂.pick [] rfl (by decide))))
  intro e₁ q₁ k₁ hJ₁
  obtain ⟨sum1, rfl⟩ : ∃ x, x = o₁ := ⟨_, rfl⟩
  obtain ⟨rfl, q₁_5, hO₁⟩ := hJ₁
  refine blk_i ?_
  refine then_n ?_
  refine W_sq ?_
  refine W_rg ?_
  refine WO_v (a_mv (v := .i .i64 sum1) q₁_5) ?_
  refine WO_v (a_mv (v := .i .i64 sum1) rfl) ?_
  refine WO_end ?_
  refine then_n ?_
  refine W_rt ?_
  refine Ret_r (rs_t (n := 4) (v := .i .i64 sum1) rfl rs_nil) ?_
  have hp := Option.some.inj hp; subst hp
  exact (And.intro rfl (hO₁.pick [] rfl (by decide)))

theorem p_muntinlaw17_length.ok {h : Hp} {l : List T_api_Cell} {p : List T_api_Point} {v_l : V} {v_p : V} (s_l : Sl e_T_api_Cell h v_l l) (s_p : Sl e_T_api_Point h v_p p) {r : Bool} (hp : p_muntinlaw17_length l p = some r) :
    ∃ u k', Is G 170 [v_l, v_p] h u k' ∧ V.b r = u ∧ Own (fun r => r < h.n) h k' [] := by
  refine WC.is (WC_of G_F_muntinlaw17_length ?_)
  unfold p_muntinlaw17_length at hp
  let B : Nat → Prop := (fun r => r < h.n)
  have hO : Own B h h [] := Own.start0 h
  refine W_sq ?_
  refine W_rg ?_
  refine WO_v (a_mv (v := .b false) rfl) ?_
  refine WO_end ?_
  refine then_n ?_
  refine W_sq ?_
  refine W_rg ?_
  refine WO_v (a_mv (v := v_l) rfl) ?_
  refine WO_v (a_mv (v := v_p) rfl) ?_
  obtain ⟨⟨x, x1⟩, hx₁, hp⟩ := bd_some hp
  obtain ⟨u₁, k₁, ca₁, rfl, hW₁⟩ := p_arcs_Length.ok (h := h)  (hO.rd0 s_l.rd : Sl e_T_api_Cell h v_l l) (hO.rd0 s_p.rd : Sl e_T_api_Point h v_p p) hx₁
  refine WO_c (id := 133) (caps := []) rfl (mp_cons (v := v_l) rfl (mp_cons (v := v_p) rfl mp_nil)) ca₁ ?_
  have hO₁ : Own B h k₁ [] := hO.call hW₁ rfl
  refine WO_v (a_mv (v := .tu [.i .i64 x, .i .i64 x1]) rfl) ?_
  refine WO_v (a_ext (vs := [.i .i64 x, .i .i64 x1]) (v := .i .i64 x) rfl rfl) ?_
  refine WO_v (a_ext (vs := [.i .i64 x, .i .i64 x1]) (v := .i .i64 x1) rfl rfl) ?_
  refine WO_v (a_mv (v := .i .i64 x) rfl) ?_
  refine WO_v (a_mv (v := .i .i64 x1) rfl) ?_
  refine WO_end ?_
  refine then_n ?_
  refine W_sq ?_
  refine W_rg ?_
  refine WO_v (a_mv (v := v_p) rfl) ?_
  obtain ⟨x2, hx₂, hp⟩ := bd_some hp
  obtain ⟨u₂, k₂, ca₂, rfl, hW₂⟩ := p_slices_ContainsFunc_api_Point.ok (h := k₁)  (hO₁.rd0 s_p.rd : Sl e_T_api_Point k₁ v_p p) (fun k z0 y hk hx => p_muntinlaw17_length_1.ok (h := k)  hx) hx₂
  refine WO_c (id := 146) (caps := []) rfl (mp_cons (v := v_p) rfl (mp_cons (v := .f 192 []) rfl mp_nil)) ca₂ ?_
  have hO₂ : Own B h k₂ [] := hO₁.call hW₂ rfl
  refine WO_v (a_mv (v := .b x2) rfl) ?_
  refine WO_end ?_
  refine then_n ?_
  refine W_sq ?_
  refine W_bl ?_
  refine W_sq ?_
  refine W_rg ?_
  refine WO_v (a_mv (v := .b x2) rfl) ?_
  refine WO_v (a_mv (v := .b x2) rfl) ?_
  refine WO_end ?_
  refine then_n ?_
  rcases if_some hp with ⟨b₁, hp⟩ | ⟨b₁, hp⟩
  · refine W_cT (t := x2) rfl b₁ ?_
    refine W_sq ?_
    refine W_rg ?_
    refine WO_v (a_mv (v := .i .i64 x1) rfl) ?_
    refine WO_v (a_eqI (a := x1) (b := 2) rfl rfl) ?_
    refine WO_v (a_mv (v := .b (decide (x1 = 2))) rfl) ?_
    refine WO_cut 3 (fun fr' k' => k₂ = k' ∧ fr' 23 = .b ((decide (x1 = 2)) && (decide (x = 0)))) ?_ ?_
    · rcases bc (decide (x1 = 2)) with b₂ | b₂
      · skip
        refine WO_on rfl b₂ ?_
        refine WO_v (a_mv (v := .i .i64 x) rfl) ?_
        refine WO_on rfl b₂ ?_
        refine WO_v (a_eqI (a := x) (b := 0) rfl rfl) ?_
        refine WO_v (a_pickT (t := (decide (x1 = 2))) (v := .b ((decide (x1 = 2)) && (decide (x = 0)))) rfl b₂ (Eq.trans (b := V.b (decide (x = 0))) rfl (and_on b₂))) ?_
        refine WO_end ?_
        exact ⟨rfl, rfl⟩
      · skip
        refine WO_off rfl b₂ ?_
        refine WO_off rfl b₂ ?_
        refine WO_v (a_pickF (t := (decide (x1 = 2))) (v := .b ((decide (x1 = 2)) && (decide (x = 0)))) rfl b₂ (Eq.trans (b := V.b false) rfl (and_off b₂))) ?_
        refine WO_end ?_
        exact ⟨rfl, rfl⟩
    rintro frg₁ _ ⟨rfl, g₁_23⟩
    refine WO_v (a_mv (v := .b ((decide (x1 = 2)) && (decide (x = 0)))) g₁_23) ?_
    refine WO_end ?_
    refine then_n ?_
    refine W_rt ?_
    refine blk_r ?_
    refine then_r ?_
    refine Ret_r (rs_t (n := 4) (v := .b ((decide (x1 = 2)) && (decide (x = 0)))) rfl rs_nil) ?_
    have hp := Option.some.inj hp; subst hp
    exact (And.intro rfl (hO₂.pick [] rfl (by decide)))
  · refine W_cF (t := x2) rfl b₁ ?_
    refine W_sq ?_
    refine W_rg ?_
    refine WO_v (a_mv (v := v_l) rfl) ?_
    refine WO_v (a_mv (v := v_p) rfl) ?_
    obtain ⟨x3, hx₃, hp⟩ := bd_some hp
    obtain ⟨u₃, k₃, ca₃, rfl, hW₃⟩ := p_muntinref17_Straight.ok (h := k₂)  (hO₂.rd0 s_l.rd : Sl e_T_api_Cell k₂ v_l l) (hO₂.rd0 s_p.rd : Sl e_T_api_Point k₂ v_p p) hx₃
    refine WO_c (id := 193) (caps := []) rfl (mp_cons (v := v_l) rfl (mp_cons (v := v_p) rfl mp_nil)) ca₃ ?_
    have hO₃ : Own B h k₃ [] := hO₂.call hW₃ rfl
    refine WO_v (a_not (t := x3) rfl) ?_
    refine WO_v (a_mv (v := .b (!x3)) rfl) ?_
    refine WO_end ?_
    refine then_n ?_
    rcases if_some hp with ⟨b₃, hp⟩ | ⟨b₃, hp⟩
    · refine W_cT (t := (!x3)) rfl b₃ ?_
      refine W_sq ?_
      refine W_rg ?_
      refine WO_v (a_mv (v := .i .i64 x1) rfl) ?_
      refine WO_v (a_eqI (a := x1) (b := 15) rfl rfl) ?_
      refine WO_v (a_mv (v := .b (decide (x1 = 15))) rfl) ?_
      refine WO_cut 3 (fun fr' k' => k₃ = k' ∧ fr' 34 = .b ((decide (x1 = 15)) && (decide (x = 0)))) ?_ ?_
      · rcases bc (decide (x1 = 15)) with b₄ | b₄
        · skip
          refine WO_on rfl b₄ ?_
          refine WO_v (a_mv (v := .i .i64 x) rfl) ?_
          refine WO_on rfl b₄ ?_
          refine WO_v (a_eqI (a := x) (b := 0) rfl rfl) ?_
          refine WO_v (a_pickT (t := (decide (x1 = 15))) (v := .b ((decide (x1 = 15)) && (decide (x = 0)))) rfl b₄ (Eq.trans (b := V.b (decide (x = 0))) rfl (and_on b₄))) ?_
          refine WO_end ?_
          exact ⟨rfl, rfl⟩
        · skip
          refine WO_off rfl b₄ ?_
          refine WO_off rfl b₄ ?_
          refine WO_v (a_pickF (t := (decide (x1 = 15))) (v := .b ((decide (x1 = 15)) && (decide (x = 0)))) rfl b₄ (Eq.trans (b := V.b false) rfl (and_off b₄))) ?_
          refine WO_end ?_
          exact ⟨rfl, rfl⟩
      rintro frg₂ _ ⟨rfl, g₂_34⟩
      refine WO_v (a_mv (v := .b ((decide (x1 = 15)) && (decide (x = 0)))) g₂_34) ?_
      refine WO_end ?_
      refine then_n ?_
      refine W_rt ?_
      refine blk_r ?_
      refine then_r ?_
      refine Ret_r (rs_t (n := 4) (v := .b ((decide (x1 = 15)) && (decide (x = 0)))) rfl rs_nil) ?_
      have hp := Option.some.inj hp; subst hp
      exact (And.intro rfl (hO₃.pick [] rfl (by decide)))
    · refine W_cF (t := (!x3)) rfl b₃ ?_
      refine W_sk ?_
      refine blk_n ?_
      refine then_n ?_
      refine W_sq ?_
      refine W_rg ?_
      refine WO_v (a_mv (v := .i .i64 x1) rfl) ?_
      refine WO_v (a_eqI (a := x1) (b := 0) rfl rfl) ?_
      refine WO_v (a_mv (v := .b (decide (x1 = 0))) rfl) ?_
      obtain ⟨t, hv₁, hp⟩ := bd_some hp
      refine WO_cut 6 (fun fr' k' => Own B h k' [] ∧ fr' 43 = .b t) ?_ ?_
      · clear hp; rcases if_some hv₁ with ⟨b₅, hp⟩ | ⟨b₅, hp⟩
        · skip
          refine WO_on rfl b₅ ?_
          refine WO_v (a_mv (v := .i .i64 x) rfl) ?_
          refine WO_on rfl b₅ ?_
          refine WO_v (a_mv (v := v_l) rfl) ?_
          refine WO_on rfl b₅ ?_
          refine WO_v (a_mv (v := v_p) rfl) ?_
          refine WO_on rfl b₅ ?_
          obtain ⟨x4, hx₄, hp⟩ := bd_some hp
          obtain ⟨u₄, k₄, ca₄, rfl, hW₄⟩ := p_muntinref17_Length.ok (h := k₃)  (hO₃.rd0 s_l.rd : Sl e_T_api_Cell k₃ v_l l) (hO₃.rd0 s_p.rd : Sl e_T_api_Point k₃ v_p p) hx₄
          refine WO_c (id := 194) (caps := []) rfl (mp_cons (v := v_l) rfl (mp_cons (v := v_p) rfl mp_nil)) ca₄ ?_
          have hO₄ : Own B h k₄ [] := hO₃.call hW₄ rfl
          refine WO_on rfl b₅ ?_
          refine WO_v (a_eqI (a := x) (b := x4) rfl rfl) ?_
          refine WO_v (a_pickT (t := (decide (x1 = 0))) (v := .b t) rfl b₅ (Eq.trans (b := V.b (decide (x = x4))) rfl (congrArg V.b (Option.some.inj hp)))) ?_
          refine WO_end ?_
          exact ⟨hO₄.pick [] rfl (by decide), rfl⟩
        · skip
          refine WO_off rfl b₅ ?_
          refine WO_off rfl b₅ ?_
          refine WO_off rfl b₅ ?_
          refine WO_off rfl b₅ ?_
          refine WO_off rfl b₅ ?_
          refine WO_v (a_pickF (t := (decide (x1 = 0))) (v := .b t) rfl b₅ (Eq.trans (b := V.b false) rfl (congrArg V.b (Option.some.inj hp)))) ?_
          refine WO_end ?_
          exact ⟨hO₃.pick [] rfl (by decide), rfl⟩
      rintro frg₃ k₅ ⟨hO₅, g₃_43⟩
      refine WO_v (a_mv (v := .b t) g₃_43) ?_
      refine WO_end ?_
      refine then_n ?_
      refine W_rt ?_
      refine Ret_r (rs_t (n := 4) (v := .b t) rfl rs_nil) ?_
      have hp := Option.some.inj hp; subst hp
      exact (And.intro rfl (hO₅.pick [] rfl (by decide)))

theorem p_slices_Clone_api_Point.ok {h : Hp} {s : List T_api_Point} {v_s : V} (s_s : Sl e_T_api_Point h v_s s) {r : List T_api_Point} (hp : p_slices_Clone_api_Point s = some r) :
    ∃ u k', Is G 165 [v_s] h u k' ∧ ∃ (v : V), v = u ∧ Own (fun r => r < h.n) h k' [eSl e_T_api_Point v r] := by
  refine WC.is (WC_of G_F_slices_Clone_api_Point ?_)
  obtain ⟨c1, hp⟩ := ck_some hp
  have hp := Option.some.inj hp; subst hp
  have hO : Own (fun r => r < h.n) h h [] := Own.start0 h
  refine W_sq ?_
  refine W_rg ?_
  refine WO_v (a_mv (v := .sn) rfl) ?_
  refine WO_end ?_
  refine then_n ?_
  refine W_sq ?_
  refine W_sq ?_
  refine W_rg ?_
  refine WO_v (a_mv (v := v_s) rfl) ?_
  rcases sl_nil s_s with ⟨rfl, rfl⟩ | hn
  · refine WO_v (v := .b true) rfl ?_
    refine WO_end ?_
    refine then_n ?_
    refine W_cT (t := true) rfl rfl ?_
    refine W_sq ?_
    refine W_rg ?_
    refine WO_v (a_mv (v := .sn) rfl) ?_
    refine WO_end ?_
    refine then_n ?_
    refine W_rt ?_
    refine then_r ?_
    refine Ret_r (rs_t (n := 2) (v := .sn) rfl rs_nil) ?_
    exact ⟨.sn, rfl, hO.nil e_T_api_Point⟩
  · refine WO_v (a_eqS (v := v_s) hn rfl rfl) ?_
    refine WO_end ?_
    refine then_n ?_
    refine W_cF (t := false) rfl rfl ?_
    refine W_sk ?_
    refine then_n ?_
    refine W_sq ?_
    refine W_rg ?_
    refine WO_x (hO.bsl (E := e_T_api_Point) (l := []) hO.fr rfl rfl) ?_
    rintro v1 k1 ⟨r1, f1, hW⟩
    have hO1 : Own (fun r => r < h.n) h k1 [eSl e_T_api_Point v1 []] := hW
    refine WO_v (a_mv (v := v_s) rfl) ?_
    refine WO_x (hO1.app (E := e_T_api_Point) (bytes := 16) 0 hO1.fr rfl (hO1.rd0 s_s.rd : Sl e_T_api_Point k1 v_s s) rfl rfl (fun _ => rfl) (by simpa using c1) (by decide)) ?_
    rintro v2 k2 ⟨f2, hW⟩
    have hO2 : Own (fun r => r < h.n) h k2 [eSl e_T_api_Point v2 ([] ++ s)] := hW
    refine WO_v (a_mv (v := v2) rfl) ?_
    refine WO_end ?_
    refine then_n ?_
    refine W_rt ?_
    refine Ret_r (rs_t (n := 2) (v := v2) rfl rs_nil) ?_
    exact ⟨v2, rfl, hO2⟩

theorem p_muntinlaw17_ArcsPlace.ok {h : Hp} {z : T_muntinref10_Places} {x : List Int} {y : List Int} {v_z_At : V} {v_z_Bits : V} {v_z_Own : V} {v_x : V} {v_y : V} (s_z_At : Sl e_u8 h v_z_At z.At) (s_z_Bits : Sl e_u8 h v_z_Bits z.Bits) (s_z_Own : Sl e_i8 h v_z_Own z.Own) (s_x : Sl eInt h v_x x) (s_y : Sl eInt h v_y y) {r : Bool} (hp : p_muntinlaw17_ArcsPlace z x y = some r) :
    ∃ u k', Is G 154 [.ag [v_z_At, v_z_Bits, v_z_Own], v_x, v_y] h u k' ∧ V.b r = u ∧ Own (fun r => r < h.n) h k' [] := by
  refine WC.is (WC_of G_F_muntinlaw17_ArcsPlace ?_)
  unfold p_muntinlaw17_ArcsPlace at hp
  let B : Nat → Prop := (fun r => r < h.n)
  have hO : Own B h h [] := Own.start0 h
  refine W_sq ?_
  refine W_rg ?_
  refine WO_x (hO.boxd (v := .ag [v_z_At, v_z_Bits, v_z_Own]) (cs := [v_z_At, v_z_Bits, v_z_Own]) hO.fr rfl rfl) ?_
  rintro _ k₁ ⟨r₁, rfl, n₁, f₁, hW⟩
  have hO₁ : Own B h k₁ [eBox r₁ [v_z_At, v_z_Bits, v_z_Own]] := hW
  refine WO_v (a_mv (v := .b false) rfl) ?_
  refine WO_end ?_
  refine then_n ?_
  refine W_sq ?_
  refine W_rg ?_
  refine WO_v (a_ldbA (cs := [v_z_At, v_z_Bits, v_z_Own]) (ws := [v_z_At, v_z_Bits, v_z_Own]) (hO₁.box 0 rfl) rfl rfl) ?_
  obtain ⟨⟨x1, x2⟩, hx₁, hp⟩ := bd_some hp
  obtain ⟨u₁, k₂, ca₁, v₁, v₂, rfl, hW₁⟩ := p_muntinref10_Make.ok (h := k₁)  (hO₁.rd0 s_z_At.rd : Sl e_u8 k₁ v_z_At z.At) (hO₁.rd0 s_z_Bits.rd : Sl e_u8 k₁ v_z_Bits z.Bits) (hO₁.rd0 s_z_Own.rd : Sl e_i8 k₁ v_z_Own z.Own) hx₁
  refine WO_c (id := 28) (caps := []) rfl (mp_cons (v := .ag [v_z_At, v_z_Bits, v_z_Own]) rfl (mp_cons (v := .i .i64 16) rfl mp_nil)) ca₁ ?_
  have hO₂ : Own B h k₂ [eBox r₁ [v_z_At, v_z_Bits, v_z_Own], eSl e_T_api_Cell v₁ x1, eSl e_T_api_Point v₂ x2] := hO₁.call hW₁ rfl
  refine WO_v (a_mv (v := .tu [v₁, v₂]) rfl) ?_
  refine WO_v (a_ext (vs := [v₁, v₂]) (v := v₁) rfl rfl) ?_
  refine WO_v (a_ext (vs := [v₁, v₂]) (v := v₂) rfl rfl) ?_
  refine WO_v (a_mv (v := v₁) rfl) ?_
  refine WO_v (a_mv (v := v₂) rfl) ?_
  refine WO_end ?_
  refine then_n ?_
  refine W_sq ?_
  refine W_rg ?_
  refine WO_v (a_mv (v := v₁) rfl) ?_
  obtain ⟨⟨x3, x4⟩, hx₂, hp⟩ := bd_some hp
  obtain ⟨u₂, k₃, ca₂, v₃, v₄, v₅, vs₁, v₆, vs₂, v₇, v₈, rfl, hW₂⟩ := p_arcs_Of.ok (h := k₂)  (hO₂.sl 1 rfl : Sl e_T_api_Cell k₂ v₁ x1) hx₂
  refine WO_c (id := 129) (caps := []) rfl (mp_cons (v := v₁) rfl mp_nil) ca₂ ?_
  have hO₃ : Own B h k₃ [eBox r₁ [v_z_At, v_z_Bits, v_z_Own], eSl e_T_api_Cell v₁ x1, eSl e_T_api_Point v₂ x2, eSl eInt v₃ x3.Chains.X, eSl eInt v₄ x3.Chains.Y, eSl eV v₅ vs₁, eAll eInt vs₁ x3.Chains.Vert, eSl eV v₆ vs₂, eAll eInt vs₂ x3.Chains.Horz, eSl e_T_api_Arc v₇ x3.H, eSl e_T_api_Arc v₈ x3.V] := hO₂.call hW₂ rfl
  refine WO_v (a_mv (v := .tu [.ag [v₃, v₄, v₅, v₆, v₇, v₈], .i .i64 x4]) rfl) ?_
  refine WO_v (a_ext (vs := [.ag [v₃, v₄, v₅, v₆, v₇, v₈], .i .i64 x4]) (v := .ag [v₃, v₄, v₅, v₆, v₇, v₈]) rfl rfl) ?_
  refine WO_v (a_ext (vs := [.ag [v₃, v₄, v₅, v₆, v₇, v₈], .i .i64 x4]) (v := .i .i64 x4) rfl rfl) ?_
  refine WO_x (hO₃.alloc (cs := [.sn, .sn, .sn, .sn, .sn, .sn]) hO₃.fr) ?_
  rintro _ k₄ ⟨r₂, rfl, n₂, f₂, hW⟩
  have hO₄ : Own B h k₄ [eBox r₁ [v_z_At, v_z_Bits, v_z_Own], eSl e_T_api_Cell v₁ x1, eSl e_T_api_Point v₂ x2, eSl eInt v₃ x3.Chains.X, eSl eInt v₄ x3.Chains.Y, eSl eV v₅ vs₁, eAll eInt vs₁ x3.Chains.Vert, eSl eV v₆ vs₂, eAll eInt vs₂ x3.Chains.Horz, eSl e_T_api_Arc v₇ x3.H, eSl e_T_api_Arc v₈ x3.V, eBox r₂ [.sn, .sn, .sn, .sn, .sn, .sn]] := hW
  refine WO_x (hO₄.stb (ws := [v₃, v₄, v₅, v₆, v₇, v₈]) (cs' := [v₃, v₄, v₅, v₆, v₇, v₈]) (v := .ag [v₃, v₄, v₅, v₆, v₇, v₈]) 11 rfl rfl rfl rfl ⟨rfl, Nat.le_of_ble_eq_true rfl, (all_cons (hO₄.sl 3 rfl : Sl eInt k₄ v₃ x3.Chains.X).oneV (all_cons (hO₄.sl 4 rfl : Sl eInt k₄ v₄ x3.Chains.Y).oneV (all_cons (hO₄.sl 5 rfl : Sl eV k₄ v₅ vs₁).oneV (all_cons (hO₄.sl 7 rfl : Sl eV k₄ v₆ vs₂).oneV (all_cons (hO₄.sl 9 rfl : Sl e_T_api_Arc k₄ v₇ x3.H).oneV (all_cons (hO₄.sl 10 rfl : Sl e_T_api_Arc k₄ v₈ x3.V).oneV all_nil))))))⟩ rfl) ?_
  rintro _ k₅ ⟨rfl, f₃, m₁, hW⟩
  have hO₅ : Own B h k₅ [eBox r₁ [v_z_At, v_z_Bits, v_z_Own], eSl e_T_api_Cell v₁ x1, eSl e_T_api_Point v₂ x2, eSl eInt v₃ x3.Chains.X, eSl eInt v₄ x3.Chains.Y, eSl eV v₅ vs₁, eAll eInt vs₁ x3.Chains.Vert, eSl eV v₆ vs₂, eAll eInt vs₂ x3.Chains.Horz, eSl e_T_api_Arc v₇ x3.H, eSl e_T_api_Arc v₈ x3.V, eBox r₂ [v₃, v₄, v₅, v₆, v₇, v₈]] := hW
  refine WO_v (a_mv (v := .i .i64 x4) rfl) ?_
  refine WO_end ?_
  refine then_n ?_
  refine W_sq ?_
  refine W_rg ?_
  refine WO_v (a_mv (v := v₁) rfl) ?_
  obtain ⟨⟨x5, x6⟩, hx₃, hp⟩ := bd_some hp
  obtain ⟨u₃, k₆, ca₃, v₉, v₁₀, v₁₁, vs₃, v₁₂, vs₄, rfl, hW₃⟩ := p_muntinref16_Of.ok (h := k₅)  (hO₅.sl 1 rfl : Sl e_T_api_Cell k₅ v₁ x1) hx₃
  refine WO_c (id := 121) (caps := []) rfl (mp_cons (v := v₁) rfl mp_nil) ca₃ ?_
  have hO₆ : Own B h k₆ [eBox r₁ [v_z_At, v_z_Bits, v_z_Own], eSl e_T_api_Cell v₁ x1, eSl e_T_api_Point v₂ x2, eSl eInt v₃ x3.Chains.X, eSl eInt v₄ x3.Chains.Y, eSl eV v₅ vs₁, eAll eInt vs₁ x3.Chains.Vert, eSl eV v₆ vs₂, eAll eInt vs₂ x3.Chains.Horz, eSl e_T_api_Arc v₇ x3.H, eSl e_T_api_Arc v₈ x3.V, eBox r₂ [v₃, v₄, v₅, v₆, v₇, v₈], eSl eInt v₉ x5.X, eSl eInt v₁₀ x5.Y, eSl eV v₁₁ vs₃, eAll eInt vs₃ x5.Vert, eSl eV v₁₂ vs₄, eAll eInt vs₄ x5.Horz] := hO₅.call hW₃ rfl
  refine WO_v (a_mv (v := .tu [.ag [v₉, v₁₀, v₁₁, v₁₂], .b x6]) rfl) ?_
  refine WO_v (a_ext (vs := [.ag [v₉, v₁₀, v₁₁, v₁₂], .b x6]) (v := .ag [v₉, v₁₀, v₁₁, v₁₂]) rfl rfl) ?_
  refine WO_v (a_ext (vs := [.ag [v₉, v₁₀, v₁₁, v₁₂], .b x6]) (v := .b x6) rfl rfl) ?_
  refine WO_x (hO₆.alloc (cs := [.sn, .sn, .sn, .sn]) hO₆.fr) ?_
  rintro _ k₇ ⟨r₃, rfl, n₃, f₄, hW⟩
  have hO₇ : Own B h k₇ [eBox r₁ [v_z_At, v_z_Bits, v_z_Own], eSl e_T_api_Cell v₁ x1, eSl e_T_api_Point v₂ x2, eSl eInt v₃ x3.Chains.X, eSl eInt v₄ x3.Chains.Y, eSl eV v₅ vs₁, eAll eInt vs₁ x3.Chains.Vert, eSl eV v₆ vs₂, eAll eInt vs₂ x3.Chains.Horz, eSl e_T_api_Arc v₇ x3.H, eSl e_T_api_Arc v₈ x3.V, eBox r₂ [v₃, v₄, v₅, v₆, v₇, v₈], eSl eInt v₉ x5.X, eSl eInt v₁₀ x5.Y, eSl eV v₁₁ vs₃, eAll eInt vs₃ x5.Vert, eSl eV v₁₂ vs₄, eAll eInt vs₄ x5.Horz, eBox r₃ [.sn, .sn, .sn, .sn]] := hW
  refine WO_x (hO₇.stb (ws := [v₉, v₁₀, v₁₁, v₁₂]) (cs' := [v₉, v₁₀, v₁₁, v₁₂]) (v := .ag [v₉, v₁₀, v₁₁, v₁₂]) 18 rfl rfl rfl rfl ⟨rfl, Nat.le_of_ble_eq_true rfl, (all_cons (hO₇.sl 12 rfl : Sl eInt k₇ v₉ x5.X).oneV (all_cons (hO₇.sl 13 rfl : Sl eInt k₇ v₁₀ x5.Y).oneV (all_cons (hO₇.sl 14 rfl : Sl eV k₇ v₁₁ vs₃).oneV (all_cons (hO₇.sl 16 rfl : Sl eV k₇ v₁₂ vs₄).oneV all_nil))))⟩ rfl) ?_
  rintro _ k₈ ⟨rfl, f₅, m₂, hW⟩
  have hO₈ : Own B h k₈ [eBox r₁ [v_z_At, v_z_Bits, v_z_Own], eSl e_T_api_Cell v₁ x1, eSl e_T_api_Point v₂ x2, eSl eInt v₃ x3.Chains.X, eSl eInt v₄ x3.Chains.Y, eSl eV v₅ vs₁, eAll eInt vs₁ x3.Chains.Vert, eSl eV v₆ vs₂, eAll eInt vs₂ x3.Chains.Horz, eSl e_T_api_Arc v₇ x3.H, eSl e_T_api_Arc v₈ x3.V, eBox r₂ [v₃, v₄, v₅, v₆, v₇, v₈], eSl eInt v₉ x5.X, eSl eInt v₁₀ x5.Y, eSl eV v₁₁ vs₃, eAll eInt vs₃ x5.Vert, eSl eV v₁₂ vs₄, eAll eInt vs₄ x5.Horz, eBox r₃ [v₉, v₁₀, v₁₁, v₁₂]] := hW
  refine WO_v (a_mv (v := .b x6) rfl) ?_
  refine WO_end ?_
  refine then_n ?_
  refine W_sq ?_
  refine W_sq ?_
  refine W_rg ?_
  obtain ⟨x7, hx₄, hp⟩ := bd_some hp
  obtain ⟨u₄, k₉, ca₄, rfl, hW₄⟩ := p_muntinlaw17_wakes.ok (h := k₈)   hx₄
  refine WO_c (id := 130) (caps := []) rfl mp_nil ca₄ ?_
  have hO₉ : Own B h k₉ [eBox r₁ [v_z_At, v_z_Bits, v_z_Own], eSl e_T_api_Cell v₁ x1, eSl e_T_api_Point v₂ x2, eSl eInt v₃ x3.Chains.X, eSl eInt v₄ x3.Chains.Y, eSl eV v₅ vs₁, eAll eInt vs₁ x3.Chains.Vert, eSl eV v₆ vs₂, eAll eInt vs₂ x3.Chains.Horz, eSl e_T_api_Arc v₇ x3.H, eSl e_T_api_Arc v₈ x3.V, eBox r₂ [v₃, v₄, v₅, v₆, v₇, v₈], eSl eInt v₉ x5.X, eSl eInt v₁₀ x5.Y, eSl eV v₁₁ vs₃, eAll eInt vs₃ x5.Vert, eSl eV v₁₂ vs₄, eAll eInt vs₄ x5.Horz, eBox r₃ [v₉, v₁₀, v₁₁, v₁₂]] := hO₈.call hW₄ rfl
  refine WO_v (a_not (t := x7) rfl) ?_
  refine WO_v (a_mv (v := .b (!x7)) rfl) ?_
  refine WO_cut 3 (fun fr' k' => k₉ = k' ∧ fr' 44 = .b ((!x7) || (!(decide (x4 = 0)))) ∧ fr' 1 = v_x ∧ fr' 11 = .p r₃ 0 ∧ fr' 2 = v_y ∧ fr' 7 = v₁ ∧ fr' 8 = v₂ ∧ fr' 9 = .p r₂ 0) ?_ ?_
  · rcases bc (!x7) with b₁ | b₁
    · skip
      refine WO_off rfl b₁ ?_
      refine WO_off rfl b₁ ?_
      refine WO_v (a_pickT (t := (!x7)) (v := .b ((!x7) || (!(decide (x4 = 0))))) rfl b₁ (Eq.trans (b := V.b true) rfl (or_off b₁))) ?_
      refine WO_end ?_
      exact ⟨rfl, rfl, rfl, rfl, rfl, rfl, rfl, rfl⟩
    · skip
      refine WO_on rfl b₁ ?_
      refine WO_v (a_mv (v := .i .i64 x4) rfl) ?_
      refine WO_on rfl b₁ ?_
      refine WO_v (a_neI (a := x4) (b := 0) rfl rfl) ?_
      refine WO_v (a_pickF (t := (!x7)) (v := .b ((!x7) || (!(decide (x4 = 0))))) rfl b₁ (Eq.trans (b := V.b (!(decide (x4 = 0)))) rfl (or_on b₁))) ?_
      refine WO_end ?_
      exact ⟨rfl, rfl, rfl, rfl, rfl, rfl, rfl, rfl⟩
  rintro frg₁ _ ⟨rfl, g₁_44, g₁_1, g₁_11, g₁_2, g₁_7, g₁_8, g₁_9⟩
  refine WO_end ?_
  refine then_n ?_
  rcases if_some hp with ⟨b₂, hp⟩ | ⟨b₂, hp⟩
  · refine W_cT (t := ((!x7) || (!(decide (x4 = 0))))) g₁_44 b₂ ?_
    refine W_sq ?_
    refine W_rg ?_
    refine WO_v (a_mv (v := .b false) rfl) ?_
    refine WO_end ?_
    refine then_n ?_
    refine W_rt ?_
    refine then_r ?_
    refine Ret_r (rs_t (n := 6) (v := .b false) rfl rs_nil) ?_
    have hp := Option.some.inj hp; subst hp
    exact (And.intro rfl (hO₉.pick [] rfl (by decide)))
  · refine W_cF (t := ((!x7) || (!(decide (x4 = 0))))) g₁_44 b₂ ?_
    refine W_sk ?_
    refine then_n ?_
    refine W_sq ?_
    refine W_sq ?_
    refine W_rg ?_
    refine WO_x (hO₉.bsl (E := eInt) (l := ([0, 9] : List Int)) hO₉.fr (by rw [(ev_cons (v := .i .i64 0) rfl (ev_cons (v := .i .i64 9) rfl ev_nil))]; rfl) rfl) ?_
    rintro v₁₃ k₁₀ ⟨r₄, f₆, hW⟩
    have hO₁₀ : Own B h k₁₀ [eBox r₁ [v_z_At, v_z_Bits, v_z_Own], eSl e_T_api_Cell v₁ x1, eSl e_T_api_Point v₂ x2, eSl eInt v₃ x3.Chains.X, eSl eInt v₄ x3.Chains.Y, eSl eV v₅ vs₁, eAll eInt vs₁ x3.Chains.Vert, eSl eV v₆ vs₂, eAll eInt vs₂ x3.Chains.Horz, eSl e_T_api_Arc v₇ x3.H, eSl e_T_api_Arc v₈ x3.V, eBox r₂ [v₃, v₄, v₅, v₆, v₇, v₈], eSl eInt v₉ x5.X, eSl eInt v₁₀ x5.Y, eSl eV v₁₁ vs₃, eAll eInt vs₃ x5.Vert, eSl eV v₁₂ vs₄, eAll eInt vs₄ x5.Horz, eBox r₃ [v₉, v₁₀, v₁₁, v₁₂], eSl eInt v₁₃ ([0, 9] : List Int)] := hW
    refine WO_v (a_len (hO₁₀.sl 19 rfl : Sl eInt k₁₀ v₁₃ ([0, 9] : List Int)) rfl) ?_
    refine WO_v (a_mv (v := .i .i64 0) rfl) ?_
    refine WO_end ?_
    refine then_n ?_
    refine W_bl ?_
    obtain ⟨o₁, ho₁, hp⟩ := bd_some hp
    refine W.mono (Q := fun e fr k => match (generalizing := false) o₁ with
        | .inl _ => e = (.exit 0) ∧ fr 7 = v₁ ∧ fr 8 = v₂ ∧ Own B h k [eSl e_T_api_Cell v₁ x1, eSl e_T_api_Point v₂ x2]
        | .inr _ => e = .ret ∧ fr 6 = .b false ∧ Own B h k []) ?_ ?_
    · clear hp
      refine W_loopF (fun st fr k => match st with | x8 => fr 1 = v_x ∧ fr 2 = v_y ∧ fr 7 = v₁ ∧ fr 8 = v₂ ∧ fr 9 = .p r₂ 0 ∧ fr 11 = .p r₃ 0 ∧ fr 45 = v₁₃ ∧ fr 46 = .i .i64 (([0, 9] : List Int).length : Int) ∧ fr 47 = .i .i64 x8 ∧ Own B h k [eSl e_T_api_Cell v₁ x1, eSl e_T_api_Point v₂ x2, eBox r₂ [v₃, v₄, v₅, v₆, v₇, v₈], eSl eInt v₃ x3.Chains.X, eSl eInt v₄ x3.Chains.Y, eSl eV v₅ vs₁, eAll eInt vs₁ x3.Chains.Vert, eSl eV v₆ vs₂, eAll eInt vs₂ x3.Chains.Horz, eSl e_T_api_Arc v₇ x3.H, eSl e_T_api_Arc v₈ x3.V, eBox r₃ [v₉, v₁₀, v₁₁, v₁₂], eSl eInt v₉ x5.X, eSl eInt v₁₀ x5.Y, eSl eV v₁₁ vs₃, eAll eInt vs₃ x5.Vert, eSl eV v₁₂ vs₄, eAll eInt vs₄ x5.Horz, eSl eInt v₁₃ ([0, 9] : List Int)]) ho₁ (s := 0) (And.intro (g₁_1) (And.intro (g₁_2) (And.intro (g₁_7) (And.intro (g₁_8) (And.intro (g₁_9) (And.intro (g₁_11) (And.intro (rfl) (And.intro (rfl) (And.intro (rfl) (hO₁₀.pick [1, 2, 11, 3, 4, 5, 6, 7, 8, 9, 10, 18, 12, 13, 14, 15, 16, 17, 19] rfl (by decide))))))))))) ?_
      rintro x8 q₂ k₁₂ ⟨q₂_1, q₂_2, q₂_7, q₂_8, q₂_9, q₂_11, q₂_45, q₂_46, q₂_47, hO₁₂⟩ o₂ hp
      dsimp only [p_muntinlaw17_ArcsPlace.s0] at hp
      refine W_sq ?_
      refine W_rg ?_
      refine WO_v (a_lss (a := x8) (b := (([0, 9] : List Int).length : Int)) q₂_47 q₂_46) ?_
      refine WO_end ?_
      refine then_n ?_
      refine W_sq ?_
      rcases if_some hp with ⟨b₃, hp⟩ | ⟨b₃, hp⟩
      · refine W_cT (t := (decide (x8 < (([0, 9] : List Int).length : Int)))) rfl b₃ ?_
        refine W_sk ?_
        refine then_n ?_
        refine W_sq ?_
        refine W_bl ?_
        refine W_sq ?_
        refine W_rg ?_
        obtain ⟨c₁, hp⟩ := ck_some hp
        refine WO_v (a_ixa (E := eInt) (z := x8) (hO₁₂.sl 18 rfl : Sl eInt k₁₂ v₁₃ ([0, 9] : List Int)) q₂_45 q₂_47 c₁) ?_
        refine WO_v (a_ldE (w := .i .i64 (gi ([0, 9] : List Int) (x8 : Int).toNat)) (hO₁₂.sl 18 rfl : Sl eInt k₁₂ v₁₃ ([0, 9] : List Int)) rfl (toNat_lt c₁) rfl) ?_
        refine WO_v (a_mv (v := .i .i64 (gi ([0, 9] : List Int) (x8 : Int).toNat)) rfl) ?_
        refine WO_end ?_
        refine then_n ?_
        refine W_sq ?_
        refine W_dr ?_
        have hW := hO₁₂.bump 14
        have fr₁ := Fresh.start k₁₂ 14
        have nb₁ : ∀ {i : Nat}, h.n ≤ k₁₂.n + i := Nat.le_trans hO₁₂.n (Nat.le_add_right _ _)
        have hO₁₃ : Own B h (k₁₂.bump 14) [eSl e_T_api_Cell v₁ x1, eSl e_T_api_Point v₂ x2, eBox r₂ [v₃, v₄, v₅, v₆, v₇, v₈], eSl eInt v₃ x3.Chains.X, eSl eInt v₄ x3.Chains.Y, eSl eV v₅ vs₁, eAll eInt vs₁ x3.Chains.Vert, eSl eV v₆ vs₂, eAll eInt vs₂ x3.Chains.Horz, eSl e_T_api_Arc v₇ x3.H, eSl e_T_api_Arc v₈ x3.V, eBox r₃ [v₉, v₁₀, v₁₁, v₁₂], eSl eInt v₉ x5.X, eSl eInt v₁₀ x5.Y, eSl eV v₁₁ vs₃, eAll eInt vs₃ x5.Vert, eSl eV v₁₂ vs₄, eAll eInt vs₄ x5.Horz, eSl eInt v₁₃ ([0, 9] : List Int)] := hW
        refine WD_v (a_mv (v := v_x) q₂_1) ?_
        refine WD_v (a_fa (r := r₃) (o := 0) (o' := 2) q₂_11 rfl) ?_
        refine WD_v (a_ldb (cs := [v₉, v₁₀, v₁₁, v₁₂]) (v := v₁₁) (hO₁₃.box 11 rfl) rfl rfl) ?_
        refine WD_v (a_lenN (n := (x5.Vert).length) (hO₁₃.sl 14 rfl : Sl eV (k₁₂.bump 14) v₁₁ vs₃) (hO₁₃.allLen 15 rfl : (vs₃).length = (x5.Vert).length) rfl) ?_
        refine WD_v (a_mv (v := .i .i64 (gi ([0, 9] : List Int) (x8 : Int).toNat)) rfl) ?_
        obtain ⟨x9, hx₅, hp⟩ := bd_some hp
        obtain ⟨u₅, k₁₄, ca₅, v₁₄, rfl, hW₅⟩ := p_muntinlaw17_numbers.ok (h := (k₁₂.bump 14))  (hO₁₃.rd0 s_x.rd : Sl eInt (k₁₂.bump 14) v_x x) hx₅
        refine WD_c (id := 131) (caps := []) rfl (mp_cons (v := v_x) rfl (mp_cons (v := .i .i64 (x5.Vert.length : Int)) rfl (mp_cons (v := .i .i64 (gi ([0, 9] : List Int) (x8 : Int).toNat)) rfl mp_nil))) ca₅ ?_
        have fr₂ := fr₁.call hW₅
        have hO₁₄ : Own B h k₁₄ [eSl e_T_api_Cell v₁ x1, eSl e_T_api_Point v₂ x2, eBox r₂ [v₃, v₄, v₅, v₆, v₇, v₈], eSl eInt v₃ x3.Chains.X, eSl eInt v₄ x3.Chains.Y, eSl eV v₅ vs₁, eAll eInt vs₁ x3.Chains.Vert, eSl eV v₆ vs₂, eAll eInt vs₂ x3.Chains.Horz, eSl e_T_api_Arc v₇ x3.H, eSl e_T_api_Arc v₈ x3.V, eBox r₃ [v₉, v₁₀, v₁₁, v₁₂], eSl eInt v₉ x5.X, eSl eInt v₁₀ x5.Y, eSl eV v₁₁ vs₃, eAll eInt vs₃ x5.Vert, eSl eV v₁₂ vs₄, eAll eInt vs₄ x5.Horz, eSl eInt v₁₃ ([0, 9] : List Int), eSl eInt v₁₄ x9] := hO₁₃.call hW₅ rfl
        refine WD_v (a_mv (v := v_y) q₂_2) ?_
        refine WD_v (a_fa (r := r₃) (o := 0) (o' := 3) q₂_11 rfl) ?_
        refine WD_v (a_ldb (cs := [v₉, v₁₀, v₁₁, v₁₂]) (v := v₁₂) (hO₁₄.box 11 rfl) rfl rfl) ?_
        refine WD_v (a_lenN (n := (x5.Horz).length) (hO₁₄.sl 16 rfl : Sl eV k₁₄ v₁₂ vs₄) (hO₁₄.allLen 17 rfl : (vs₄).length = (x5.Horz).length) rfl) ?_
        refine WD_v (a_mv (v := .i .i64 (gi ([0, 9] : List Int) (x8 : Int).toNat)) rfl) ?_
        obtain ⟨x10, hx₆, hp⟩ := bd_some hp
        obtain ⟨u₆, k₁₅, ca₆, v₁₅, rfl, hW₆⟩ := p_muntinlaw17_numbers.ok (h := k₁₄)  (hO₁₄.rd0 s_y.rd : Sl eInt k₁₄ v_y y) hx₆
        refine WD_c (id := 131) (caps := []) rfl (mp_cons (v := v_y) rfl (mp_cons (v := .i .i64 (x5.Horz.length : Int)) rfl (mp_cons (v := .i .i64 (gi ([0, 9] : List Int) (x8 : Int).toNat)) rfl mp_nil))) ca₆ ?_
        have fr₃ := fr₂.call hW₆
        have hO₁₅ : Own B h k₁₅ [eSl e_T_api_Cell v₁ x1, eSl e_T_api_Point v₂ x2, eBox r₂ [v₃, v₄, v₅, v₆, v₇, v₈], eSl eInt v₃ x3.Chains.X, eSl eInt v₄ x3.Chains.Y, eSl eV v₅ vs₁, eAll eInt vs₁ x3.Chains.Vert, eSl eV v₆ vs₂, eAll eInt vs₂ x3.Chains.Horz, eSl e_T_api_Arc v₇ x3.H, eSl e_T_api_Arc v₈ x3.V, eBox r₃ [v₉, v₁₀, v₁₁, v₁₂], eSl eInt v₉ x5.X, eSl eInt v₁₀ x5.Y, eSl eV v₁₁ vs₃, eAll eInt vs₃ x5.Vert, eSl eV v₁₂ vs₄, eAll eInt vs₄ x5.Horz, eSl eInt v₁₃ ([0, 9] : List Int), eSl eInt v₁₄ x9, eSl eInt v₁₅ x10] := hO₁₄.call hW₆ rfl
        refine WD_v (a_mv (v := v₁₄) rfl) ?_
        refine WD_v (a_mv (v := v₁₅) rfl) ?_
        refine WD_end ?_
        refine And.intro ?_ ?_
        · intro q hq
          simp only [List.mem_cons, List.not_mem_nil, or_false] at hq
          rcases hq with rfl | rfl
          · refine ap_ll ?_ ?_
            · exact (fun h => nomatch h)
            · exact (fun h => nomatch h)
          · refine ap_cl rfl ?_
            · exact (fun r hm hc => hc (hW₅.base r (Nat.lt_of_lt_of_le (hO₁₂.ltAt 11 rfl _ (tch (v := V.p r₃ 3) (ld_el hm) rfl)) (Nat.le_trans (Nat.le_add_right _ _) fr₁.n))))
        refine then_n ?_
        refine W_sq ?_
        refine W_rg ?_
        refine WO_v (a_fa (r := r₂) (o := 0) (o' := 0) q₂_9 rfl) ?_
        refine WO_v (a_ldbA (cs := [v₃, v₄, v₅, v₆, v₇, v₈]) (ws := [v₃, v₄, v₅, v₆]) (hO₁₅.box 2 rfl) rfl rfl) ?_
        refine WO_v (a_mv (v := v₁₄) rfl) ?_
        refine WO_v (a_mv (v := v₁₅) rfl) ?_
        obtain ⟨⟨x11, x12⟩, hx₇, hp⟩ := bd_some hp
        obtain ⟨u₇, k₁₆, ca₇, v₁₆, rfl, hW₇⟩ := p_arcs_Place.ok (h := k₁₅)  (hO₁₅.sl 3 rfl : Sl eInt k₁₅ v₃ x3.Chains.X) (hO₁₅.sl 4 rfl : Sl eInt k₁₅ v₄ x3.Chains.Y) (hO₁₅.sl 5 rfl : Sl eV k₁₅ v₅ vs₁) (hO₁₅.allLen 6 rfl : (vs₁).length = (x3.Chains.Vert).length) (fun j hj => hO₁₅.inn 6 rfl hj) (hO₁₅.sl 7 rfl : Sl eV k₁₅ v₆ vs₂) (hO₁₅.allLen 8 rfl : (vs₂).length = (x3.Chains.Horz).length) (fun j hj => hO₁₅.inn 8 rfl hj) (hO₁₅.sl 19 rfl : Sl eInt k₁₅ v₁₄ x9) (hO₁₅.sl 20 rfl : Sl eInt k₁₅ v₁₅ x10) hx₇
        refine WO_c (id := 132) (caps := []) rfl (mp_cons (v := .ag [v₃, v₄, v₅, v₆]) rfl (mp_cons (v := v₁₄) rfl (mp_cons (v := v₁₅) rfl mp_nil))) ca₇ ?_
        have hO₁₆ : Own B h k₁₆ [eSl e_T_api_Cell v₁ x1, eSl e_T_api_Point v₂ x2, eBox r₂ [v₃, v₄, v₅, v₆, v₇, v₈], eSl eInt v₃ x3.Chains.X, eSl eInt v₄ x3.Chains.Y, eSl eV v₅ vs₁, eAll eInt vs₁ x3.Chains.Vert, eSl eV v₆ vs₂, eAll eInt vs₂ x3.Chains.Horz, eSl e_T_api_Arc v₇ x3.H, eSl e_T_api_Arc v₈ x3.V, eBox r₃ [v₉, v₁₀, v₁₁, v₁₂], eSl eInt v₉ x5.X, eSl eInt v₁₀ x5.Y, eSl eV v₁₁ vs₃, eAll eInt vs₃ x5.Vert, eSl eV v₁₂ vs₄, eAll eInt vs₄ x5.Horz, eSl eInt v₁₃ ([0, 9] : List Int), eSl eInt v₁₄ x9, eSl eInt v₁₅ x10, eSl e_T_api_Point v₁₆ x11] := hO₁₅.call hW₇ rfl
        refine WO_v (a_mv (v := .tu [v₁₆, .i .i64 x12]) rfl) ?_
        refine WO_v (a_ext (vs := [v₁₆, .i .i64 x12]) (v := v₁₆) rfl rfl) ?_
        refine WO_v (a_ext (vs := [v₁₆, .i .i64 x12]) (v := .i .i64 x12) rfl rfl) ?_
        refine WO_v (a_mv (v := v₁₆) rfl) ?_
        refine WO_v (a_mv (v := .i .i64 x12) rfl) ?_
        refine WO_end ?_
        refine then_n ?_
        refine W_sq ?_
        refine W_sq ?_
        refine W_rg ?_
        refine WO_v (a_mv (v := .i .i64 x12) rfl) ?_
        refine WO_v (a_neI (a := x12) (b := 0) rfl rfl) ?_
        refine WO_v (a_mv (v := .b (!(decide (x12 = 0)))) rfl) ?_
        obtain ⟨t, hv₁, hp⟩ := bd_some hp
        refine WO_cut 8 (fun fr' k' => Own B h k' [eSl e_T_api_Cell v₁ x1, eSl e_T_api_Point v₂ x2, eBox r₂ [v₃, v₄, v₅, v₆, v₇, v₈], eSl eInt v₃ x3.Chains.X, eSl eInt v₄ x3.Chains.Y, eSl eV v₅ vs₁, eAll eInt vs₁ x3.Chains.Vert, eSl eV v₆ vs₂, eAll eInt vs₂ x3.Chains.Horz, eSl e_T_api_Arc v₇ x3.H, eSl e_T_api_Arc v₈ x3.V, eBox r₃ [v₉, v₁₀, v₁₁, v₁₂], eSl eInt v₉ x5.X, eSl eInt v₁₀ x5.Y, eSl eV v₁₁ vs₃, eAll eInt vs₃ x5.Vert, eSl eV v₁₂ vs₄, eAll eInt vs₄ x5.Horz, eSl eInt v₁₃ ([0, 9] : List Int), eSl eInt v₁₄ x9, eSl eInt v₁₅ x10, eSl e_T_api_Point v₁₆ x11] ∧ fr' 81 = .b t ∧ fr' 1 = v_x ∧ fr' 11 = .p r₃ 0 ∧ fr' 15 = v₁₄ ∧ fr' 16 = v₁₅ ∧ fr' 17 = v₁₆ ∧ fr' 2 = v_y ∧ fr' 45 = v₁₃ ∧ fr' 46 = .i .i64 (([0, 9] : List Int).length : Int) ∧ fr' 47 = .i .i64 x8 ∧ fr' 7 = v₁ ∧ fr' 8 = v₂ ∧ fr' 9 = .p r₂ 0) ?_ ?_
        · clear hp; rcases if_some hv₁ with ⟨b₄, hp⟩ | ⟨b₄, hp⟩
          · skip
            refine WO_off rfl b₄ ?_
            refine WO_off rfl b₄ ?_
            refine WO_off rfl b₄ ?_
            refine WO_off rfl b₄ ?_
            refine WO_off rfl b₄ ?_
            refine WO_off rfl b₄ ?_
            refine WO_off rfl b₄ ?_
            refine WO_v (a_pickT (t := (!(decide (x12 = 0)))) (v := .b t) rfl b₄ (Eq.trans (b := V.b true) rfl (congrArg V.b (Option.some.inj hp)))) ?_
            refine WO_end ?_
            exact ⟨hO₁₆.pick [0, 1, 2, 3, 4, 5, 6, 7, 8, 9, 10, 11, 12, 13, 14, 15, 16, 17, 18, 19, 20, 21] rfl (by decide), rfl, q₂_1, q₂_11, rfl, rfl, rfl, q₂_2, q₂_45, q₂_46, q₂_47, q₂_7, q₂_8, q₂_9⟩
          · skip
            refine WO_on rfl b₄ ?_
            refine WO_v (a_mv (v := v₁₆) rfl) ?_
            refine WO_on rfl b₄ ?_
            refine WO_v (a_ldbA (cs := [v₉, v₁₀, v₁₁, v₁₂]) (ws := [v₉, v₁₀, v₁₁, v₁₂]) (hO₁₆.box 11 rfl) q₂_11 rfl) ?_
            refine WO_on rfl b₄ ?_
            refine WO_v (a_mv (v := v₁₄) rfl) ?_
            refine WO_on rfl b₄ ?_
            refine WO_v (a_mv (v := v₁₅) rfl) ?_
            refine WO_on rfl b₄ ?_
            obtain ⟨x13, hx₈, hp⟩ := bd_some hp
            obtain ⟨u₈, k₁₇, ca₈, v₁₇, rfl, hW₈⟩ := p_muntinref17_Place.ok (h := k₁₆)  (hO₁₆.sl 12 rfl : Sl eInt k₁₆ v₉ x5.X) (hO₁₆.sl 13 rfl : Sl eInt k₁₆ v₁₀ x5.Y) (hO₁₆.sl 14 rfl : Sl eV k₁₆ v₁₁ vs₃) (hO₁₆.allLen 15 rfl : (vs₃).length = (x5.Vert).length) (fun j hj => hO₁₆.inn 15 rfl hj) (hO₁₆.sl 16 rfl : Sl eV k₁₆ v₁₂ vs₄) (hO₁₆.allLen 17 rfl : (vs₄).length = (x5.Horz).length) (fun j hj => hO₁₆.inn 17 rfl hj) (hO₁₆.sl 19 rfl : Sl eInt k₁₆ v₁₄ x9) (hO₁₆.sl 20 rfl : Sl eInt k₁₆ v₁₅ x10) hx₈
            refine WO_c (id := 169) (caps := []) rfl (mp_cons (v := .ag [v₉, v₁₀, v₁₁, v₁₂]) rfl (mp_cons (v := v₁₄) rfl (mp_cons (v := v₁₅) rfl mp_nil))) ca₈ ?_
            have hO₁₇ : Own B h k₁₇ [eSl e_T_api_Cell v₁ x1, eSl e_T_api_Point v₂ x2, eBox r₂ [v₃, v₄, v₅, v₆, v₇, v₈], eSl eInt v₃ x3.Chains.X, eSl eInt v₄ x3.Chains.Y, eSl eV v₅ vs₁, eAll eInt vs₁ x3.Chains.Vert, eSl eV v₆ vs₂, eAll eInt vs₂ x3.Chains.Horz, eSl e_T_api_Arc v₇ x3.H, eSl e_T_api_Arc v₈ x3.V, eBox r₃ [v₉, v₁₀, v₁₁, v₁₂], eSl eInt v₉ x5.X, eSl eInt v₁₀ x5.Y, eSl eV v₁₁ vs₃, eAll eInt vs₃ x5.Vert, eSl eV v₁₂ vs₄, eAll eInt vs₄ x5.Horz, eSl eInt v₁₃ ([0, 9] : List Int), eSl eInt v₁₄ x9, eSl eInt v₁₅ x10, eSl e_T_api_Point v₁₆ x11, eSl e_T_api_Point v₁₇ x13] := hO₁₆.call hW₈ rfl
            refine WO_on rfl b₄ ?_
            obtain ⟨x14, hx₉, hp⟩ := bd_some hp
            obtain ⟨u₉, k₁₈, ca₉, rfl, hW₉⟩ := p_slices_Equal_api_Point.ok (h := k₁₇)  (hO₁₇.sl 21 rfl : Sl e_T_api_Point k₁₇ v₁₆ x11) (hO₁₇.sl 22 rfl : Sl e_T_api_Point k₁₇ v₁₇ x13) hx₉
            refine WO_c (id := 168) (caps := []) rfl (mp_cons (v := v₁₆) rfl (mp_cons (v := v₁₇) rfl mp_nil)) ca₉ ?_
            have hO₁₈ : Own B h k₁₈ [eSl e_T_api_Cell v₁ x1, eSl e_T_api_Point v₂ x2, eBox r₂ [v₃, v₄, v₅, v₆, v₇, v₈], eSl eInt v₃ x3.Chains.X, eSl eInt v₄ x3.Chains.Y, eSl eV v₅ vs₁, eAll eInt vs₁ x3.Chains.Vert, eSl eV v₆ vs₂, eAll eInt vs₂ x3.Chains.Horz, eSl e_T_api_Arc v₇ x3.H, eSl e_T_api_Arc v₈ x3.V, eBox r₃ [v₉, v₁₀, v₁₁, v₁₂], eSl eInt v₉ x5.X, eSl eInt v₁₀ x5.Y, eSl eV v₁₁ vs₃, eAll eInt vs₃ x5.Vert, eSl eV v₁₂ vs₄, eAll eInt vs₄ x5.Horz, eSl eInt v₁₃ ([0, 9] : List Int), eSl eInt v₁₄ x9, eSl eInt v₁₅ x10, eSl e_T_api_Point v₁₆ x11, eSl e_T_api_Point v₁₇ x13] := hO₁₇.call hW₉ rfl
            refine WO_on rfl b₄ ?_
            refine WO_v (a_not (t := x14) rfl) ?_
            refine WO_v (a_pickF (t := (!(decide (x12 = 0)))) (v := .b t) rfl b₄ (Eq.trans (b := V.b (!x14)) rfl (congrArg V.b (Option.some.inj hp)))) ?_
            refine WO_end ?_
            exact ⟨hO₁₈.pick [0, 1, 2, 3, 4, 5, 6, 7, 8, 9, 10, 11, 12, 13, 14, 15, 16, 17, 18, 19, 20, 21] rfl (by decide), rfl, q₂_1, q₂_11, rfl, rfl, rfl, q₂_2, q₂_45, q₂_46, q₂_47, q₂_7, q₂_8, q₂_9⟩
        rintro frg₂ k₁₉ ⟨hO₁₉, g₂_81, g₂_1, g₂_11, g₂_15, g₂_16, g₂_17, g₂_2, g₂_45, g₂_46, g₂_47, g₂_7, g₂_8, g₂_9⟩
        refine WO_end ?_
        refine then_n ?_
        rcases if_some hp with ⟨b₅, hp⟩ | ⟨b₅, hp⟩
        · refine W_cT (t := t) g₂_81 b₅ ?_
          refine W_sq ?_
          refine W_rg ?_
          refine WO_v (a_mv (v := .b false) rfl) ?_
          refine WO_end ?_
          refine then_n ?_
          refine W_rt ?_
          refine then_r ?_
          refine blk_r ?_
          refine then_r ?_
          have hp := Option.some.inj hp; subst hp
          refine (Or.inr (Exists.intro (.inr ()) (And.intro rfl (And.intro (fun h => nomatch h) (fun he => ?_)))))
          subst he; exact (And.intro rfl (And.intro (rfl) (hO₁₉.pick [] rfl (by decide))))
        · refine W_cF (t := t) g₂_81 b₅ ?_
          refine W_sk ?_
          refine then_n ?_
          refine W_sq ?_
          refine W_sq ?_
          refine W_rg ?_
          refine WO_v (a_mv (v := v₁) g₂_7) ?_
          refine WO_v (a_mv (v := v₁₆) g₂_17) ?_
          obtain ⟨x15, hx₁₀, hp⟩ := bd_some hp
          obtain ⟨u₁₀, k₂₀, ca₁₀, rfl, hW₁₀⟩ := p_muntinlaw17_length.ok (h := k₁₉)  (hO₁₉.sl 0 rfl : Sl e_T_api_Cell k₁₉ v₁ x1) (hO₁₉.sl 21 rfl : Sl e_T_api_Point k₁₉ v₁₆ x11) hx₁₀
          refine WO_c (id := 170) (caps := []) rfl (mp_cons (v := v₁) rfl (mp_cons (v := v₁₆) rfl mp_nil)) ca₁₀ ?_
          have hO₂₀ : Own B h k₂₀ [eSl e_T_api_Cell v₁ x1, eSl e_T_api_Point v₂ x2, eBox r₂ [v₃, v₄, v₅, v₆, v₇, v₈], eSl eInt v₃ x3.Chains.X, eSl eInt v₄ x3.Chains.Y, eSl eV v₅ vs₁, eAll eInt vs₁ x3.Chains.Vert, eSl eV v₆ vs₂, eAll eInt vs₂ x3.Chains.Horz, eSl e_T_api_Arc v₇ x3.H, eSl e_T_api_Arc v₈ x3.V, eBox r₃ [v₉, v₁₀, v₁₁, v₁₂], eSl eInt v₉ x5.X, eSl eInt v₁₀ x5.Y, eSl eV v₁₁ vs₃, eAll eInt vs₃ x5.Vert, eSl eV v₁₂ vs₄, eAll eInt vs₄ x5.Horz, eSl eInt v₁₃ ([0, 9] : List Int), eSl eInt v₁₄ x9, eSl eInt v₁₅ x10, eSl e_T_api_Point v₁₆ x11] := hO₁₉.call hW₁₀ rfl
          refine WO_v (a_not (t := x15) rfl) ?_
          refine WO_end ?_
          refine then_n ?_
          rcases if_some hp with ⟨b₆, hp⟩ | ⟨b₆, hp⟩
          · refine W_cT (t := (!x15)) rfl b₆ ?_
            refine W_sq ?_
            refine W_rg ?_
            refine WO_v (a_mv (v := .b false) rfl) ?_
            refine WO_end ?_
            refine then_n ?_
            refine W_rt ?_
            refine then_r ?_
            refine blk_r ?_
            refine then_r ?_
            have hp := Option.some.inj hp; subst hp
            refine (Or.inr (Exists.intro (.inr ()) (And.intro rfl (And.intro (fun h => nomatch h) (fun he => ?_)))))
            subst he; exact (And.intro rfl (And.intro (rfl) (hO₂₀.pick [] rfl (by decide))))
          · refine W_cF (t := (!x15)) rfl b₆ ?_
            refine W_sk ?_
            refine then_n ?_
            refine W_sq ?_
            refine W_dr ?_
            have hW := hO₂₀.bump 12
            have fr₄ := Fresh.start k₂₀ 12
            have nb₂ : ∀ {i : Nat}, h.n ≤ k₂₀.n + i := Nat.le_trans hO₂₀.n (Nat.le_add_right _ _)
            have hO₂₁ : Own B h (k₂₀.bump 12) [eSl e_T_api_Cell v₁ x1, eSl e_T_api_Point v₂ x2, eBox r₂ [v₃, v₄, v₅, v₆, v₇, v₈], eSl eInt v₃ x3.Chains.X, eSl eInt v₄ x3.Chains.Y, eSl eV v₅ vs₁, eAll eInt vs₁ x3.Chains.Vert, eSl eV v₆ vs₂, eAll eInt vs₂ x3.Chains.Horz, eSl e_T_api_Arc v₇ x3.H, eSl e_T_api_Arc v₈ x3.V, eBox r₃ [v₉, v₁₀, v₁₁, v₁₂], eSl eInt v₉ x5.X, eSl eInt v₁₀ x5.Y, eSl eV v₁₁ vs₃, eAll eInt vs₃ x5.Vert, eSl eV v₁₂ vs₄, eAll eInt vs₄ x5.Horz, eSl eInt v₁₃ ([0, 9] : List Int), eSl eInt v₁₄ x9, eSl eInt v₁₅ x10, eSl e_T_api_Point v₁₆ x11] := hW
            refine WD_v (a_fa (r := r₂) (o := 0) (o' := 0) g₂_9 rfl) ?_
            refine WD_v (a_ldbA (cs := [v₃, v₄, v₅, v₆, v₇, v₈]) (ws := [v₃, v₄, v₅, v₆]) (hO₂₁.box 2 rfl) rfl rfl) ?_
            refine WD_v (a_mv (v := v₁₄) g₂_15) ?_
            refine WD_x (hO₂₁.bsl (E := eInt) (l := ([1] : List Int)) ⟨fr₄.m 3 (by decide) (by decide), nb₂⟩ (by rw [(ev_cons (v := .i .i64 1) rfl ev_nil)]; rfl) rfl) ?_
            rintro v₁₈ k₂₂ z₁ ⟨r₅, f₇, hW⟩
            have fr₅ := fr₄.kept f₇ (by decide)
            have hO₂₂ : Own B h k₂₂ [eSl e_T_api_Cell v₁ x1, eSl e_T_api_Point v₂ x2, eBox r₂ [v₃, v₄, v₅, v₆, v₇, v₈], eSl eInt v₃ x3.Chains.X, eSl eInt v₄ x3.Chains.Y, eSl eV v₅ vs₁, eAll eInt vs₁ x3.Chains.Vert, eSl eV v₆ vs₂, eAll eInt vs₂ x3.Chains.Horz, eSl e_T_api_Arc v₇ x3.H, eSl e_T_api_Arc v₈ x3.V, eBox r₃ [v₉, v₁₀, v₁₁, v₁₂], eSl eInt v₉ x5.X, eSl eInt v₁₀ x5.Y, eSl eV v₁₁ vs₃, eAll eInt vs₃ x5.Vert, eSl eV v₁₂ vs₄, eAll eInt vs₄ x5.Horz, eSl eInt v₁₃ ([0, 9] : List Int), eSl eInt v₁₄ x9, eSl eInt v₁₅ x10, eSl e_T_api_Point v₁₆ x11, eSl eInt v₁₈ ([1] : List Int)] := hW
            obtain ⟨c₂, hp⟩ := ck_some hp
            refine WD_x (hO₂₂.app (E := eInt) (bytes := 8) 19 ⟨fr₅.m 4 (by decide) (by decide), nb₂⟩ rfl (hO₂₂.sl 22 rfl : Sl eInt k₂₂ v₁₈ ([1] : List Int)) rfl rfl (fun _ => rfl) c₂ (by decide)) ?_
            rintro v₁₉ k₂₃ z₂ ⟨f₈, hW⟩
            have fr₆ := fr₅.kept f₈ (by decide)
            have hO₂₃ : Own B h k₂₃ [eSl e_T_api_Cell v₁ x1, eSl e_T_api_Point v₂ x2, eBox r₂ [v₃, v₄, v₅, v₆, v₇, v₈], eSl eInt v₃ x3.Chains.X, eSl eInt v₄ x3.Chains.Y, eSl eV v₅ vs₁, eAll eInt vs₁ x3.Chains.Vert, eSl eV v₆ vs₂, eAll eInt vs₂ x3.Chains.Horz, eSl e_T_api_Arc v₇ x3.H, eSl e_T_api_Arc v₈ x3.V, eBox r₃ [v₉, v₁₀, v₁₁, v₁₂], eSl eInt v₉ x5.X, eSl eInt v₁₀ x5.Y, eSl eV v₁₁ vs₃, eAll eInt vs₃ x5.Vert, eSl eV v₁₂ vs₄, eAll eInt vs₄ x5.Horz, eSl eInt v₁₃ ([0, 9] : List Int), eSl eInt v₁₉ (x9 ++ ([1] : List Int)), eSl eInt v₁₅ x10, eSl e_T_api_Point v₁₆ x11, eSl eInt v₁₈ ([1] : List Int)] := hW
            refine WD_v (a_mv (v := v₁₅) g₂_16) ?_
            obtain ⟨⟨x16, x17⟩, hx₁₁, hp⟩ := bd_some hp
            obtain ⟨u₁₁, k₂₄, ca₁₁, v₂₀, rfl, hW₁₁⟩ := p_arcs_Place.ok (h := k₂₃)  (hO₂₃.sl 3 rfl : Sl eInt k₂₃ v₃ x3.Chains.X) (hO₂₃.sl 4 rfl : Sl eInt k₂₃ v₄ x3.Chains.Y) (hO₂₃.sl 5 rfl : Sl eV k₂₃ v₅ vs₁) (hO₂₃.allLen 6 rfl : (vs₁).length = (x3.Chains.Vert).length) (fun j hj => hO₂₃.inn 6 rfl hj) (hO₂₃.sl 7 rfl : Sl eV k₂₃ v₆ vs₂) (hO₂₃.allLen 8 rfl : (vs₂).length = (x3.Chains.Horz).length) (fun j hj => hO₂₃.inn 8 rfl hj) (hO₂₃.sl 19 rfl : Sl eInt k₂₃ v₁₉ (x9 ++ ([1] : List Int))) (hO₂₃.sl 20 rfl : Sl eInt k₂₃ v₁₅ x10) hx₁₁
            refine WD_c (id := 132) (caps := []) rfl (mp_cons (v := .ag [v₃, v₄, v₅, v₆]) rfl (mp_cons (v := v₁₉) rfl (mp_cons (v := v₁₅) rfl mp_nil))) ca₁₁ ?_
            have fr₇ := fr₆.call hW₁₁
            have hO₂₄ : Own B h k₂₄ [eSl e_T_api_Cell v₁ x1, eSl e_T_api_Point v₂ x2, eBox r₂ [v₃, v₄, v₅, v₆, v₇, v₈], eSl eInt v₃ x3.Chains.X, eSl eInt v₄ x3.Chains.Y, eSl eV v₅ vs₁, eAll eInt vs₁ x3.Chains.Vert, eSl eV v₆ vs₂, eAll eInt vs₂ x3.Chains.Horz, eSl e_T_api_Arc v₇ x3.H, eSl e_T_api_Arc v₈ x3.V, eBox r₃ [v₉, v₁₀, v₁₁, v₁₂], eSl eInt v₉ x5.X, eSl eInt v₁₀ x5.Y, eSl eV v₁₁ vs₃, eAll eInt vs₃ x5.Vert, eSl eV v₁₂ vs₄, eAll eInt vs₄ x5.Horz, eSl eInt v₁₃ ([0, 9] : List Int), eSl eInt v₁₉ (x9 ++ ([1] : List Int)), eSl eInt v₁₅ x10, eSl e_T_api_Point v₁₆ x11, eSl eInt v₁₈ ([1] : List Int), eSl e_T_api_Point v₂₀ x16] := hO₂₃.call hW₁₁ rfl
            refine WD_v (a_mv (v := .tu [v₂₀, .i .i64 x17]) rfl) ?_
            refine WD_v (a_ext (vs := [v₂₀, .i .i64 x17]) (v := v₂₀) rfl rfl) ?_
            refine WD_v (a_ext (vs := [v₂₀, .i .i64 x17]) (v := .i .i64 x17) rfl rfl) ?_
            refine WD_v (a_mv (v := v₂₀) rfl) ?_
            refine WD_v (a_mv (v := .i .i64 x17) rfl) ?_
            refine WD_end ?_
            refine And.intro ?_ ?_
            · intro q hq
              simp only [List.mem_cons, List.not_mem_nil, or_false] at hq
              rcases hq with rfl | rfl
              · refine ap_ll ?_ ?_
                · exact (fun h => nomatch h)
                · exact (fun _ hm => Nat.lt_irrefl _ (Nat.lt_of_lt_of_le (hO₂₀.ltAt 2 rfl _ (tch (v := V.p r₂ 0) (ld_el hm) rfl)) (Nat.le_add_right _ _)))
              · refine ap_oo ?_ ?_ ?_
                · exact (fun r h1 h2 => (app_el h2).elim (fun h2 => hO₂₀.apartAt (i := 2) (j := 19) rfl rfl (by decide) r (tch (v := V.p r₂ 0) (ld_el h1) rfl) (tch (v := v₁₄) h2 rfl)) (fun h2 => by have h3 := (hO₂₀.ltAt 2 rfl _ (tch (v := V.p r₂ 0) (ld_el h1) rfl)); have h4 := (new_sl r₅ (tch (v := v₁₈) h2 rfl)); omega))
                · exact (fun h => nomatch h)
                · exact (fun _ hm => Nat.lt_irrefl _ (Nat.lt_of_lt_of_le (hO₂₀.ltAt 2 rfl _ (tch (v := V.p r₂ 0) (ld_el hm) rfl)) (Nat.le_add_right _ _)))
            refine then_n ?_
            refine W_sq ?_
            refine W_rg ?_
            refine WO_v (a_mv (v := .i .i64 x17) rfl) ?_
            refine WO_v (a_neI (a := x17) (b := 2) rfl rfl) ?_
            refine WO_end ?_
            refine then_n ?_
            rcases if_some hp with ⟨b₇, hp⟩ | ⟨b₇, hp⟩
            · refine W_cT (t := (!(decide (x17 = 2)))) rfl b₇ ?_
              refine W_sq ?_
              refine W_rg ?_
              refine WO_v (a_mv (v := .b false) rfl) ?_
              refine WO_end ?_
              refine then_n ?_
              refine W_rt ?_
              refine blk_r ?_
              refine then_r ?_
              have hp := Option.some.inj hp; subst hp
              refine (Or.inr (Exists.intro (.inr ()) (And.intro rfl (And.intro (fun h => nomatch h) (fun he => ?_)))))
              subst he; exact (And.intro rfl (And.intro (rfl) (hO₂₄.pick [] rfl (by decide))))
            · refine W_cF (t := (!(decide (x17 = 2)))) rfl b₇ ?_
              refine W_sk ?_
              refine blk_n ?_
              refine then_n ?_
              refine W_rg ?_
              obtain ⟨c₃, hp⟩ := ck_some hp
              refine WO_v (a_add (a := x8) (b := 1) g₂_47 rfl c₃) ?_
              refine WO_v (a_mv (v := .i .i64 (x8 + 1)) rfl) ?_
              refine WO_end ?_
              have hp := Option.some.inj hp; subst hp
              exact (Or.inl (Exists.intro (x8 + 1) (And.intro rfl (And.intro rfl (And.intro (g₂_1) (And.intro (g₂_2) (And.intro (g₂_7) (And.intro (g₂_8) (And.intro (g₂_9) (And.intro (g₂_11) (And.intro (g₂_45) (And.intro (g₂_46) (And.intro (rfl) (hO₂₄.pick [0, 1, 2, 3, 4, 5, 6, 7, 8, 9, 10, 11, 12, 13, 14, 15, 16, 17, 18] rfl (by decide)))))))))))))))
      · refine W_cF (t := (decide (x8 < (([0, 9] : List Int).length : Int)))) rfl b₃ ?_
        refine W_ex ?_
        refine then_e ?_
        have hp := Option.some.inj hp; subst hp
        refine (Or.inr (Exists.intro (.inl ()) (And.intro rfl (And.intro (fun h => nomatch h) (fun he => ?_)))))
        subst he; exact (And.intro rfl (And.intro (q₂_7) (And.intro (q₂_8) (hO₁₂.pick [0, 1] rfl (by decide)))))
    intro e₁ q₁ k₁₁ hJ₁
    rcases o₁ with _ | _
    · obtain ⟨rfl, q₁_7, q₁_8, hO₁₁⟩ := hJ₁
      refine blk_i ?_
      refine then_n ?_
      refine W_sq ?_
      refine W_sq ?_
      refine W_rg ?_
      refine WO_v (a_mv (v := v₂) q₁_8) ?_
      refine WO_v (a_len (hO₁₁.sl 1 rfl : Sl e_T_api_Point k₁₁ v₂ x2) rfl) ?_
      refine WO_v (a_gtr (a := (x2.length : Int)) (b := 0) rfl rfl) ?_
      refine WO_end ?_
      refine then_n ?_
      rcases if_some hp with ⟨b₈, hp⟩ | ⟨b₈, hp⟩
      · refine W_cT (t := (decide (0 < (x2.length : Int)))) rfl b₈ ?_
        refine W_sq ?_
        refine W_rg ?_
        refine WO_v (a_mv (v := v₂) q₁_8) ?_
        obtain ⟨x18, hx₁₂, hp⟩ := bd_some hp
        obtain ⟨u₁₂, k₂₅, ca₁₂, v₂₁, rfl, hW₁₂⟩ := p_slices_Clone_api_Point.ok (h := k₁₁)  (hO₁₁.sl 1 rfl : Sl e_T_api_Point k₁₁ v₂ x2) hx₁₂
        refine WO_c (id := 165) (caps := []) rfl (mp_cons (v := v₂) rfl mp_nil) ca₁₂ ?_
        have hO₂₅ : Own B h k₂₅ [eSl e_T_api_Cell v₁ x1, eSl e_T_api_Point v₂ x2, eSl e_T_api_Point v₂₁ x18] := hO₁₁.call hW₁₂ rfl
        refine WO_v (a_mv (v := v₂₁) rfl) ?_
        refine WO_end ?_
        refine then_n ?_
        refine W_sq ?_
        refine W_rg ?_
        refine WO_v (a_mv (v := v₂₁) rfl) ?_
        obtain ⟨c₄, hp⟩ := ck_some hp
        refine WO_v (a_ixa (E := e_T_api_Point) (z := 0) (hO₂₅.sl 2 rfl : Sl e_T_api_Point k₂₅ v₂₁ x18) rfl rfl c₄) ?_
        refine WO_v (a_faE (off' := 0) (off2 := 0) (hO₂₅.sl 2 rfl : Sl e_T_api_Point k₂₅ v₂₁ x18) (toNat_lt c₄) rfl rfl) ?_
        refine WO_v (a_ldE (w := .i .i64 ((gi x18 (0 : Int).toNat).X)) (hO₂₅.sl 2 rfl : Sl e_T_api_Point k₂₅ v₂₁ x18) rfl (toNat_lt c₄) rfl) ?_
        obtain ⟨c₅, hp⟩ := ck_some hp
        refine WO_v (a_add (a := ((gi x18 (0 : Int).toNat).X)) (b := 1) rfl rfl c₅) ?_
        refine WO_v (a_ixa (E := e_T_api_Point) (z := 0) (hO₂₅.sl 2 rfl : Sl e_T_api_Point k₂₅ v₂₁ x18) rfl rfl c₄) ?_
        refine WO_v (a_faE (off' := 0) (off2 := 0) (hO₂₅.sl 2 rfl : Sl e_T_api_Point k₂₅ v₂₁ x18) (toNat_lt c₄) rfl rfl) ?_
        refine WO_x (hO₂₅.ste (E := e_T_api_Point) (y := ({ gi x18 (0 : Int).toNat with X := ((gi x18 (0 : Int).toNat).X) + 1 })) (ws := [.i .i64 (((gi x18 (0 : Int).toNat).X) + 1)]) 2 rfl rfl (toNat_lt c₄) rfl rfl ⟨rfl, Nat.le_of_ble_eq_true rfl, rfl⟩ rfl) ?_
        rintro _ k₂₆ ⟨rfl, f₉, m₃, hW⟩
        have hO₂₆ : Own B h k₂₆ [eSl e_T_api_Cell v₁ x1, eSl e_T_api_Point v₂ x2, eSl e_T_api_Point v₂₁ (x18.set (0 : Int).toNat ({ gi x18 (0 : Int).toNat with X := ((gi x18 (0 : Int).toNat).X) + 1 }))] := hW
        refine WO_end ?_
        refine then_n ?_
        refine W_sq ?_
        refine W_sq ?_
        refine W_rg ?_
        refine WO_v (a_mv (v := v₁) q₁_7) ?_
        refine WO_v (a_mv (v := v₂₁) rfl) ?_
        obtain ⟨x19, hx₁₃, hp⟩ := bd_some hp
        obtain ⟨u₁₃, k₂₇, ca₁₃, rfl, hW₁₃⟩ := p_muntinlaw17_length.ok (h := k₂₆)  (hO₂₆.sl 0 rfl : Sl e_T_api_Cell k₂₆ v₁ x1) (hO₂₆.sl 2 rfl : Sl e_T_api_Point k₂₆ v₂₁ (x18.set (0 : Int).toNat ({ gi x18 (0 : Int).toNat with X := ((gi x18 (0 : Int).toNat).X) + 1 }))) hx₁₃
        refine WO_c (id := 170) (caps := []) rfl (mp_cons (v := v₁) rfl (mp_cons (v := v₂₁) rfl mp_nil)) ca₁₃ ?_
        have hO₂₇ : Own B h k₂₇ [eSl e_T_api_Cell v₁ x1, eSl e_T_api_Point v₂ x2, eSl e_T_api_Point v₂₁ (x18.set (0 : Int).toNat ({ gi x18 (0 : Int).toNat with X := ((gi x18 (0 : Int).toNat).X) + 1 }))] := hO₂₆.call hW₁₃ rfl
        refine WO_v (a_not (t := x19) rfl) ?_
        refine WO_end ?_
        refine then_n ?_
        rcases if_some hp with ⟨b₉, hp⟩ | ⟨b₉, hp⟩
        · refine W_cT (t := (!x19)) rfl b₉ ?_
          refine W_sq ?_
          refine W_rg ?_
          refine WO_v (a_mv (v := .b false) rfl) ?_
          refine WO_end ?_
          refine then_n ?_
          refine W_rt ?_
          refine then_r ?_
          refine then_r ?_
          refine Ret_r (rs_t (n := 6) (v := .b false) rfl rs_nil) ?_
          have hp := Option.some.inj hp; subst hp
          exact (And.intro rfl (hO₂₇.pick [] rfl (by decide)))
        · refine W_cF (t := (!x19)) rfl b₉ ?_
          refine W_sk ?_
          refine then_n ?_
          refine W_sq ?_
          refine W_rg ?_
          refine WO_v (a_mv (v := v₁) q₁_7) ?_
          refine WO_v (a_mv (v := v₂) q₁_8) ?_
          obtain ⟨c₆, hp⟩ := ck_some hp
          refine WO_v (a_slcF (E := e_T_api_Point) (z := 1) (hO₂₇.sl 1 rfl : Sl e_T_api_Point k₂₇ v₂ x2) rfl rfl c₆) ?_
          obtain ⟨⟨x20, x21⟩, hx₁₄, hp⟩ := bd_some hp
          obtain ⟨u₁₄, k₂₈, ca₁₄, rfl, hW₁₄⟩ := p_arcs_Length.ok (h := k₂₇)  (hO₂₇.sl 0 rfl : Sl e_T_api_Cell k₂₇ v₁ x1) (Sl.cutF (hO₂₇.sl 1 rfl : Sl e_T_api_Point k₂₇ v₂ x2) c₆ : Sl e_T_api_Point k₂₇ (V.cut v₂ (1 : Int).toNat (x2).length) (x2.drop (1 : Int).toNat)) hx₁₄
          refine WO_c (id := 133) (caps := []) rfl (mp_cons (v := v₁) rfl (mp_cons (v := (V.cut v₂ (1 : Int).toNat (x2).length)) rfl mp_nil)) ca₁₄ ?_
          have hO₂₈ : Own B h k₂₈ [eSl e_T_api_Cell v₁ x1, eSl e_T_api_Point v₂ x2, eSl e_T_api_Point v₂₁ (x18.set (0 : Int).toNat ({ gi x18 (0 : Int).toNat with X := ((gi x18 (0 : Int).toNat).X) + 1 }))] := hO₂₇.call hW₁₄ rfl
          refine WO_v (a_mv (v := .tu [.i .i64 x20, .i .i64 x21]) rfl) ?_
          refine WO_v (a_ext (vs := [.i .i64 x20, .i .i64 x21]) (v := .i .i64 x20) rfl rfl) ?_
          refine WO_v (a_ext (vs := [.i .i64 x20, .i .i64 x21]) (v := .i .i64 x21) rfl rfl) ?_
          refine WO_v (a_mv (v := .i .i64 x20) rfl) ?_
          refine WO_v (a_mv (v := .i .i64 x21) rfl) ?_
          refine WO_end ?_
          refine then_n ?_
          refine W_sq ?_
          refine W_rg ?_
          refine WO_v (a_mv (v := .i .i64 x21) rfl) ?_
          refine WO_v (a_neI (a := x21) (b := 2) rfl rfl) ?_
          refine WO_end ?_
          refine then_n ?_
          rcases if_some hp with ⟨b₁₀, hp⟩ | ⟨b₁₀, hp⟩
          · refine W_cT (t := (!(decide (x21 = 2)))) rfl b₁₀ ?_
            refine W_sq ?_
            refine W_rg ?_
            refine WO_v (a_mv (v := .b false) rfl) ?_
            refine WO_end ?_
            refine then_n ?_
            refine W_rt ?_
            refine then_r ?_
            refine Ret_r (rs_t (n := 6) (v := .b false) rfl rs_nil) ?_
            have hp := Option.some.inj hp; subst hp
            exact (And.intro rfl (hO₂₈.pick [] rfl (by decide)))
          · refine W_cF (t := (!(decide (x21 = 2)))) rfl b₁₀ ?_
            refine W_sk ?_
            refine then_n ?_
            refine W_sq ?_
            refine W_rg ?_
            refine WO_v (a_mv (v := v₁) q₁_7) ?_
            refine WO_v (a_mv (v := v₂) q₁_8) ?_
            obtain ⟨x22, hx₁₅, hp⟩ := bd_some hp
            obtain ⟨u₁₅, k₂₉, ca₁₅, rfl, hW₁₅⟩ := p_muntinlaw17_length.ok (h := k₂₈)  (hO₂₈.sl 0 rfl : Sl e_T_api_Cell k₂₈ v₁ x1) (hO₂₈.sl 1 rfl : Sl e_T_api_Point k₂₈ v₂ x2) hx₁₅
            refine WO_c (id := 170) (caps := []) rfl (mp_cons (v := v₁) rfl (mp_cons (v := v₂) rfl mp_nil)) ca₁₅ ?_
            have hO₂₉ : Own B h k₂₉ [eSl e_T_api_Cell v₁ x1, eSl e_T_api_Point v₂ x2, eSl e_T_api_Point v₂₁ (x18.set (0 : Int).toNat ({ gi x18 (0 : Int).toNat with X := ((gi x18 (0 : Int).toNat).X) + 1 }))] := hO₂₈.call hW₁₅ rfl
            refine WO_v (a_mv (v := .b x22) rfl) ?_
            refine WO_end ?_
            refine then_n ?_
            refine W_rt ?_
            refine Ret_r (rs_t (n := 6) (v := .b x22) rfl rs_nil) ?_
            have hp := Option.some.inj hp; subst hp
            exact (And.intro rfl (hO₂₉.pick [] rfl (by decide)))
      · refine W_cF (t := (decide (0 < (x2.length : Int)))) rfl b₈ ?_
        refine W_sk ?_
        refine then_n ?_
        refine W_sq ?_
        refine W_rg ?_
        refine WO_v (a_mv (v := v₁) q₁_7) ?_
        refine WO_v (a_mv (v := v₂) q₁_8) ?_
        obtain ⟨x23, hx₁₆, hp⟩ := bd_some hp
        obtain ⟨u₁₆, k₃₀, ca₁₆, rfl, hW₁₆⟩ := p_muntinlaw17_length.ok (h := k₁₁)  (hO₁₁.sl 0 rfl : Sl e_T_api_Cell k₁₁ v₁ x1) (hO₁₁.sl 1 rfl : Sl e_T_api_Point k₁₁ v₂ x2) hx₁₆
        refine WO_c (id := 170) (caps := []) rfl (mp_cons (v := v₁) rfl (mp_cons (v := v₂) rfl mp_nil)) ca₁₆ ?_
        have hO₃₀ : Own B h k₃₀ [eSl e_T_api_Cell v₁ x1, eSl e_T_api_Point v₂ x2] := hO₁₁.call hW₁₆ rfl
        refine WO_v (a_mv (v := .b x23) rfl) ?_
        refine WO_end ?_
        refine then_n ?_
        refine W_rt ?_
        refine Ret_r (rs_t (n := 6) (v := .b x23) rfl rs_nil) ?_
        have hp := Option.some.inj hp; subst hp
        exact (And.intro rfl (hO₃₀.pick [] rfl (by decide)))
    · obtain ⟨rfl, q₁_6, hO₁₁⟩ := hJ₁
      refine blk_r ?_
      refine then_r ?_
      refine Ret_r (rs_t (n := 6) (v := .b false) q₁_6 rs_nil) ?_
      have hp := Option.some.inj hp; subst hp
      exact (And.intro rfl (hO₁₁.pick [] rfl (by decide)))

end Mu
