/- The code comes to what was worked out. -/
import Derived.Test.YtdefkboekpjiiaaMuDf
import Derived.Test.YtdefkboekpjiiaaMuPa
import Derived.Test.YtdefkboekpjiiaaMuC1
set_option linter.unusedVariables false
set_option linter.unnecessarySimpa false
set_option linter.unusedSimpArgs false
set_option maxHeartbeats 2000000
set_option maxRecDepth 10000
namespace Mu
open Go (IntKind BinOp UnOp)
theorem p_arcs_Length.ok {h : Hp} {cells : List T_api_Cell} {at_ : List T_api_Point} {v_cells : V} {v_at_ : V} (s_cells : Sl e_T_api_Cell h v_cells cells) (s_at_ : Sl e_T_api_Point h v_at_ at_) {r : Int × Int} (hp : p_arcs_Length cells at_ = some r) :
    ∃ u k', Is G 133 [v_cells, v_at_] h u k' ∧ V.tu [.i .i64 r.1, .i .i64 r.2] = u ∧ Own (fun r => r < h.n) h k' [] := by
  refine WC.is (WC_of G_F_arcs_Length ?_)
  unfold p_arcs_Length at hp
  let B : Nat → Prop := (fun r => r < h.n)
  have hO : Own B h h [] := Own.start0 h
  refine W_sq ?_
  refine W_rg ?_
  refine WO_v (a_mv (v := .i .i64 0) rfl) ?_
  refine WO_v (a_mv (v := .i .i64 0) rfl) ?_
  refine WO_end ?_
  refine then_n ?_
  refine W_sq ?_
  refine W_sq ?_
  refine W_rg ?_
  refine WO_v (a_mv (v := v_cells) rfl) ?_
  obtain ⟨x, hx₁, hp⟩ := bd_some hp
  obtain ⟨u₁, k₁, ca₁, rfl, hW₁⟩ := p_grid_Check.ok (h := h)  (hO.rd0 s_cells.rd : Sl e_T_api_Cell h v_cells cells) hx₁
  refine WO_c (id := 66) (caps := []) rfl (mp_cons (v := v_cells) rfl mp_nil) ca₁ ?_
  have hO₁ : Own B h k₁ [] := hO.call hW₁ rfl
  refine WO_v (a_mv (v := .i .i64 x) rfl) ?_
  refine WO_end ?_
  refine then_n ?_
  refine W_sq ?_
  refine W_rg ?_
  refine WO_v (a_mv (v := .i .i64 x) rfl) ?_
  refine WO_v (a_neI (a := x) (b := 0) rfl rfl) ?_
  refine WO_end ?_
  refine then_n ?_
  rcases if_some hp with ⟨b₁, hp⟩ | ⟨b₁, hp⟩
  · refine W_cT (t := (!(decide (x = 0)))) rfl b₁ ?_
    refine W_sq ?_
    refine W_rg ?_
    refine WO_v (a_mv (v := .i .i64 x) rfl) ?_
    refine WO_v (a_mv (v := .i .i64 0) rfl) ?_
    refine WO_v (a_mv (v := .i .i64 x) rfl) ?_
    refine WO_end ?_
    refine then_n ?_
    refine W_rt ?_
    refine then_r ?_
    refine Ret_r (rs_t (n := 4) (v := .i .i64 0) rfl (rs_t (n := 5) (v := .i .i64 x) rfl rs_nil)) ?_
    have hp := Option.some.inj hp; subst hp
    exact (And.intro rfl (hO₁.pick [] rfl (by decide)))
  · refine W_cF (t := (!(decide (x = 0)))) rfl b₁ ?_
    refine W_sk ?_
    refine then_n ?_
    refine W_sq ?_
    refine W_sq ?_
    refine W_rg ?_
    refine WO_v (a_mv (v := v_at_) rfl) ?_
    refine WO_v (a_len (hO₁.rd0 s_at_.rd : Sl e_T_api_Point k₁ v_at_ at_) rfl) ?_
    refine WO_v (a_mv (v := v_cells) rfl) ?_
    refine WO_v (a_len (hO₁.rd0 s_cells.rd : Sl e_T_api_Cell k₁ v_cells cells) rfl) ?_
    refine WO_v (a_neI (a := (at_.length : Int)) (b := (cells.length : Int)) rfl rfl) ?_
    refine WO_v (a_mv (v := .b (!(decide ((at_.length : Int) = (cells.length : Int))))) rfl) ?_
    obtain ⟨t, hv₁, hp⟩ := bd_some hp
    refine WO_cut 3 (fun fr' k' => Own B h k' [] ∧ fr' 28 = .b t ∧ fr' 0 = v_cells ∧ fr' 1 = v_at_) ?_ ?_
    · clear hp; rcases if_some hv₁ with ⟨b₂, hp⟩ | ⟨b₂, hp⟩
      · skip
        refine WO_off rfl b₂ ?_
        refine WO_off rfl b₂ ?_
        refine WO_v (a_pickT (t := (!(decide ((at_.length : Int) = (cells.length : Int))))) (v := .b t) rfl b₂ (Eq.trans (b := V.b true) rfl (congrArg V.b (Option.some.inj hp)))) ?_
        refine WO_end ?_
        exact ⟨hO₁.pick [] rfl (by decide), rfl, rfl, rfl⟩
      · skip
        refine WO_on rfl b₂ ?_
        refine WO_v (a_mv (v := v_at_) rfl) ?_
        refine WO_on rfl b₂ ?_
        obtain ⟨x1, hx₂, hp⟩ := bd_some hp
        obtain ⟨u₂, k₂, ca₂, rfl, hW₂⟩ := p_slices_ContainsFunc_api_Point.ok (h := k₁)  (hO₁.rd0 s_at_.rd : Sl e_T_api_Point k₁ v_at_ at_) (fun k z0 y hk hx => p_arcs_far.ok (h := k)  hx) hx₂
        refine WO_c (id := 146) (caps := []) rfl (mp_cons (v := v_at_) rfl (mp_cons (v := .f 147 []) rfl mp_nil)) ca₂ ?_
        have hO₂ : Own B h k₂ [] := hO₁.call hW₂ rfl
        refine WO_v (a_pickF (t := (!(decide ((at_.length : Int) = (cells.length : Int))))) (v := .b t) rfl b₂ (Eq.trans (b := V.b x1) rfl (congrArg V.b (Option.some.inj hp)))) ?_
        refine WO_end ?_
        exact ⟨hO₂.pick [] rfl (by decide), rfl, rfl, rfl⟩
    rintro frg₁ k₃ ⟨hO₃, g₁_28, g₁_0, g₁_1⟩
    refine WO_end ?_
    refine then_n ?_
    rcases if_some hp with ⟨b₃, hp⟩ | ⟨b₃, hp⟩
    · refine W_cT (t := t) g₁_28 b₃ ?_
      refine W_sq ?_
      refine W_rg ?_
      refine WO_v (a_mv (v := .i .i64 0) rfl) ?_
      refine WO_v (a_mv (v := .i .i64 2) rfl) ?_
      refine WO_end ?_
      refine then_n ?_
      refine W_rt ?_
      refine then_r ?_
      refine Ret_r (rs_t (n := 4) (v := .i .i64 0) rfl (rs_t (n := 5) (v := .i .i64 2) rfl rs_nil)) ?_
      have hp := Option.some.inj hp; subst hp
      exact (And.intro rfl (hO₃.pick [] rfl (by decide)))
    · refine W_cF (t := t) g₁_28 b₃ ?_
      refine W_sk ?_
      refine then_n ?_
      refine W_sq ?_
      refine W_rg ?_
      refine WO_v (a_mv (v := .i .i64 0) rfl) ?_
      refine WO_end ?_
      refine then_n ?_
      refine W_sq ?_
      refine W_sq ?_
      refine W_rg ?_
      refine WO_v (a_mv (v := v_cells) g₁_0) ?_
      refine WO_v (a_len (hO₃.rd0 s_cells.rd : Sl e_T_api_Cell k₃ v_cells cells) rfl) ?_
      refine WO_v (a_mv (v := .i .i64 0) rfl) ?_
      refine WO_end ?_
      refine then_n ?_
      refine W_bl ?_
      obtain ⟨o₁, ho₁, hp⟩ := bd_some hp
      refine W.mono (Q := fun e fr k => match (generalizing := false) o₁ with
          | .inl sum1 => e = (.exit 0) ∧ fr 7 = .i .i64 sum1 ∧ Own B h k []
          | .inr _ => e = .ret ∧ fr 4 = .i .i64 0 ∧ fr 5 = .i .i64 15 ∧ Own B h k []) ?_ ?_
      · clear hp
        refine W_loopF (fun st fr k => match st with | (sum, x2) => fr 1 = v_at_ ∧ fr 7 = .i .i64 sum ∧ fr 29 = v_cells ∧ fr 30 = .i .i64 (cells.length : Int) ∧ fr 31 = .i .i64 x2 ∧ Own B h k []) ho₁ (s := (0, 0)) (And.intro (g₁_1) (And.intro (rfl) (And.intro (rfl) (And.intro (rfl) (And.intro (rfl) (hO₃.pick [] rfl (by decide))))))) ?_
        rintro ⟨sum, x2⟩ q₂ k₅ ⟨q₂_1, q₂_7, q₂_29, q₂_30, q₂_31, hO₅⟩ o₂ hp
        dsimp only [p_arcs_Length.s0] at hp
        refine W_sq ?_
        refine W_rg ?_
        refine WO_v (a_lss (a := x2) (b := (cells.length : Int)) q₂_31 q₂_30) ?_
        refine WO_end ?_
        refine then_n ?_
        refine W_sq ?_
        rcases if_some hp with ⟨b₄, hp⟩ | ⟨b₄, hp⟩
        · refine W_cT (t := (decide (x2 < (cells.length : Int)))) rfl b₄ ?_
          refine W_sk ?_
          refine then_n ?_
          refine W_sq ?_
          refine W_bl ?_
          refine W_sq ?_
          refine W_rg ?_
          refine WO_v (a_mv (v := .i .i64 x2) q₂_31) ?_
          obtain ⟨c₁, hp⟩ := ck_some hp
          refine WO_v (a_ixa (E := e_T_api_Cell) (z := x2) (hO₅.rd0 s_cells.rd : Sl e_T_api_Cell k₅ v_cells cells) q₂_29 q₂_31 c₁) ?_
          refine WO_v (a_ldA (E := e_T_api_Cell) (hO₅.rd0 s_cells.rd : Sl e_T_api_Cell k₅ v_cells cells) rfl (toNat_lt c₁)) ?_
          refine WO_x (hO₅.alloc (cs := e_T_api_Cell.c (⟨⟨0, 0, 0, 0⟩, ⟨0, 0, 0, 0⟩⟩ : T_api_Cell)) hO₅.fr) ?_
          rintro _ k₆ ⟨r₁, rfl, n₁, f₁, hW⟩
          have hO₆ : Own B h k₆ [eBox r₁ (e_T_api_Cell.c (⟨⟨0, 0, 0, 0⟩, ⟨0, 0, 0, 0⟩⟩ : T_api_Cell))] := hW
          refine WO_v (a_mv (v := .i .i64 x2) rfl) ?_
          refine WO_x (hO₆.stb (ws := e_T_api_Cell.c (gi cells (x2 : Int).toNat)) (cs' := e_T_api_Cell.c (gi cells (x2 : Int).toNat)) (v := .ag (e_T_api_Cell.c (gi cells (x2 : Int).toNat))) 0 rfl rfl rfl rfl ⟨rfl, Nat.le_of_ble_eq_true rfl, rfl⟩ rfl) ?_
          rintro _ k₇ ⟨rfl, f₂, m₁, hW⟩
          have hO₇ : Own B h k₇ [eBox r₁ (e_T_api_Cell.c (gi cells (x2 : Int).toNat))] := hW
          refine WO_end ?_
          refine then_n ?_
          refine W_sq ?_
          refine W_rg ?_
          refine WO_x (hO₇.bsl (E := eInt) (l := ([0, 1] : List Int)) hO₇.fr (by rw [(ev_cons (v := .i .i64 0) rfl (ev_cons (v := .i .i64 1) rfl ev_nil))]; rfl) rfl) ?_
          rintro v₁ k₈ ⟨r₂, f₃, hW⟩
          have hO₈ : Own B h k₈ [eBox r₁ (e_T_api_Cell.c (gi cells (x2 : Int).toNat)), eSl eInt v₁ ([0, 1] : List Int)] := hW
          refine WO_v (a_len (hO₈.sl 1 rfl : Sl eInt k₈ v₁ ([0, 1] : List Int)) rfl) ?_
          refine WO_v (a_mv (v := .i .i64 0) rfl) ?_
          refine WO_end ?_
          refine then_n ?_
          refine W_bl ?_
          obtain ⟨o₃, ho₂, hp⟩ := bd_some hp
          refine W.mono (Q := fun e fr k => match (generalizing := false) o₃ with
              | .inl sum3 => e = (.exit 2) ∧ fr 1 = v_at_ ∧ fr 7 = .i .i64 sum3 ∧ fr 29 = v_cells ∧ fr 30 = .i .i64 (cells.length : Int) ∧ fr 31 = .i .i64 x2 ∧ Own B h k []
              | .inr _ => e = .ret ∧ fr 4 = .i .i64 0 ∧ fr 5 = .i .i64 15 ∧ Own B h k []) ?_ ?_
          · clear hp
            refine W_loopF (fun st fr k => match st with | (sum2, x3) => fr 1 = v_at_ ∧ fr 7 = .i .i64 sum2 ∧ fr 8 = .i .i64 x2 ∧ fr 9 = .p r₁ 0 ∧ fr 29 = v_cells ∧ fr 30 = .i .i64 (cells.length : Int) ∧ fr 31 = .i .i64 x2 ∧ fr 36 = v₁ ∧ fr 37 = .i .i64 (([0, 1] : List Int).length : Int) ∧ fr 38 = .i .i64 x3 ∧ Own B h k [eBox r₁ (e_T_api_Cell.c (gi cells (x2 : Int).toNat)), eSl eInt v₁ ([0, 1] : List Int)]) ho₂ (s := (sum, 0)) (And.intro (q₂_1) (And.intro (q₂_7) (And.intro (rfl) (And.intro (rfl) (And.intro (q₂_29) (And.intro (q₂_30) (And.intro (q₂_31) (And.intro (rfl) (And.intro (rfl) (And.intro (rfl) (hO₈.pick [0, 1] rfl (by decide)))))))))))) ?_
            rintro ⟨sum2, x3⟩ q₄ k₁₀ ⟨q₄_1, q₄_7, q₄_8, q₄_9, q₄_29, q₄_30, q₄_31, q₄_36, q₄_37, q₄_38, hO₁₀⟩ o₄ hp
            dsimp only [p_arcs_Length.s1] at hp
            refine W_sq ?_
            refine W_rg ?_
            refine WO_v (a_lss (a := x3) (b := (([0, 1] : List Int).length : Int)) q₄_38 q₄_37) ?_
            refine WO_end ?_
            refine then_n ?_
            refine W_sq ?_
            rcases if_some hp with ⟨b₅, hp⟩ | ⟨b₅, hp⟩
            · refine W_cT (t := (decide (x3 < (([0, 1] : List Int).length : Int)))) rfl b₅ ?_
              refine W_sk ?_
              refine then_n ?_
              refine W_sq ?_
              refine W_bl ?_
              refine W_sq ?_
              refine W_rg ?_
              obtain ⟨c₂, hp⟩ := ck_some hp
              refine WO_v (a_ixa (E := eInt) (z := x3) (hO₁₀.sl 1 rfl : Sl eInt k₁₀ v₁ ([0, 1] : List Int)) q₄_36 q₄_38 c₂) ?_
              refine WO_v (a_ldE (w := .i .i64 (gi ([0, 1] : List Int) (x3 : Int).toNat)) (hO₁₀.sl 1 rfl : Sl eInt k₁₀ v₁ ([0, 1] : List Int)) rfl (toNat_lt c₂) rfl) ?_
              refine WO_v (a_mv (v := .i .i64 (gi ([0, 1] : List Int) (x3 : Int).toNat)) rfl) ?_
              refine WO_end ?_
              refine then_n ?_
              refine W_sq ?_
              refine W_rg ?_
              refine WO_v (a_mv (v := .i .i64 (gi ([0, 1] : List Int) (x3 : Int).toNat)) rfl) ?_
              refine WO_v (a_fa (r := r₁) (o := 0) (o' := 0) q₄_9 rfl) ?_
              obtain ⟨c₃, hp⟩ := ck_some hp
              refine WO_v (a_ixaa (o := 0) (o' := (0 + (gi ([0, 1] : List Int) (x3 : Int).toNat : Int).toNat * 1)) (z := (gi ([0, 1] : List Int) (x3 : Int).toNat)) rfl rfl c₃ rfl) ?_
              refine WO_v (a_ldb (cs := (e_T_api_Cell.c (gi cells (x2 : Int).toNat))) (v := .i .i64 (((gi cells (x2 : Int).toNat).Next).get (gi ([0, 1] : List Int) (x3 : Int).toNat))) (hO₁₀.box 0 rfl) rfl (ld_T_api_Cell_Next c₃)) ?_
              refine WO_v (a_mv (v := .i .i64 (((gi cells (x2 : Int).toNat).Next).get (gi ([0, 1] : List Int) (x3 : Int).toNat))) rfl) ?_
              refine WO_end ?_
              refine then_n ?_
              refine W_sq ?_
              refine W_sq ?_
              refine W_rg ?_
              refine WO_v (a_mv (v := .i .i64 (((gi cells (x2 : Int).toNat).Next).get (gi ([0, 1] : List Int) (x3 : Int).toNat))) rfl) ?_
              refine WO_v (a_lss (a := (((gi cells (x2 : Int).toNat).Next).get (gi ([0, 1] : List Int) (x3 : Int).toNat))) (b := 0) rfl rfl) ?_
              refine WO_end ?_
              refine then_n ?_
              rcases if_some hp with ⟨b₆, hp⟩ | ⟨b₆, hp⟩
              · refine W_cT (t := (decide ((((gi cells (x2 : Int).toNat).Next).get (gi ([0, 1] : List Int) (x3 : Int).toNat)) < 0))) rfl b₆ ?_
                refine W_ex ?_
                refine then_e ?_
                refine blk_i ?_
                refine then_n ?_
                refine W_rg ?_
                obtain ⟨c₄, hp⟩ := ck_some hp
                refine WO_v (a_add (a := x3) (b := 1) q₄_38 rfl c₄) ?_
                refine WO_v (a_mv (v := .i .i64 (x3 + 1)) rfl) ?_
                refine WO_end ?_
                have hp := Option.some.inj hp; subst hp
                exact (Or.inl (Exists.intro (sum2, x3 + 1) (And.intro rfl (And.intro rfl (And.intro (q₄_1) (And.intro (q₄_7) (And.intro (q₄_8) (And.intro (q₄_9) (And.intro (q₄_29) (And.intro (q₄_30) (And.intro (q₄_31) (And.intro (q₄_36) (And.intro (q₄_37) (And.intro (rfl) (hO₁₀.pick [0, 1] rfl (by decide))))))))))))))))
              · refine W_cF (t := (decide ((((gi cells (x2 : Int).toNat).Next).get (gi ([0, 1] : List Int) (x3 : Int).toNat)) < 0))) rfl b₆ ?_
                refine W_sk ?_
                refine then_n ?_
                refine W_sq ?_
                refine W_sq ?_
                refine W_dr ?_
                have hW := hO₁₀.bump 14
                have fr₁ := Fresh.start k₁₀ 14
                have nb₁ : ∀ {i : Nat}, h.n ≤ k₁₀.n + i := Nat.le_trans hO₁₀.n (Nat.le_add_right _ _)
                have hO₁₁ : Own B h (k₁₀.bump 14) [eBox r₁ (e_T_api_Cell.c (gi cells (x2 : Int).toNat)), eSl eInt v₁ ([0, 1] : List Int)] := hW
                refine WD_v (a_mv (v := v_at_) q₄_1) ?_
                refine WD_v (a_mv (v := .i .i64 x2) q₄_8) ?_
                obtain ⟨c₅, hp⟩ := ck_some hp
                refine WD_v (a_ixa (E := e_T_api_Point) (z := x2) (hO₁₁.rd0 s_at_.rd : Sl e_T_api_Point (k₁₀.bump 14) v_at_ at_) rfl rfl c₅) ?_
                refine WD_v (a_ldA (E := e_T_api_Point) (hO₁₁.rd0 s_at_.rd : Sl e_T_api_Point (k₁₀.bump 14) v_at_ at_) rfl (toNat_lt c₅)) ?_
                refine WD_v (a_mv (v := v_at_) q₄_1) ?_
                refine WD_v (a_mv (v := .i .i64 (((gi cells (x2 : Int).toNat).Next).get (gi ([0, 1] : List Int) (x3 : Int).toNat))) rfl) ?_
                obtain ⟨c₆, hp⟩ := ck_some hp
                refine WD_v (a_ixa (E := e_T_api_Point) (z := (((gi cells (x2 : Int).toNat).Next).get (gi ([0, 1] : List Int) (x3 : Int).toNat))) (hO₁₁.rd0 s_at_.rd : Sl e_T_api_Point (k₁₀.bump 14) v_at_ at_) rfl rfl c₆) ?_
                refine WD_v (a_ldA (E := e_T_api_Point) (hO₁₁.rd0 s_at_.rd : Sl e_T_api_Point (k₁₀.bump 14) v_at_ at_) rfl (toNat_lt c₆)) ?_
                obtain ⟨⟨x4, x5⟩, hx₃, hp⟩ := bd_some hp
                obtain ⟨u₃, k₁₂, ca₃, rfl, hW₃⟩ := p_compass_Between.ok (h := (k₁₀.bump 14))   hx₃
                refine WD_c (id := 148) (caps := []) rfl (mp_cons (v := .ag (e_T_api_Point.c (gi at_ (x2 : Int).toNat))) rfl (mp_cons (v := .ag (e_T_api_Point.c (gi at_ (((gi cells (x2 : Int).toNat).Next).get (gi ([0, 1] : List Int) (x3 : Int).toNat) : Int).toNat))) rfl mp_nil)) ca₃ ?_
                have fr₂ := fr₁.call hW₃
                have hO₁₂ : Own B h k₁₂ [eBox r₁ (e_T_api_Cell.c (gi cells (x2 : Int).toNat)), eSl eInt v₁ ([0, 1] : List Int)] := hO₁₁.call hW₃ rfl
                refine WD_v (a_mv (v := .tu [.i .i64 x4, .b x5]) rfl) ?_
                refine WD_v (a_ext (vs := [.i .i64 x4, .b x5]) (v := .i .i64 x4) rfl rfl) ?_
                refine WD_v (a_ext (vs := [.i .i64 x4, .b x5]) (v := .b x5) rfl rfl) ?_
                refine WD_v (a_mv (v := .i .i64 x4) rfl) ?_
                refine WD_v (a_mv (v := .b x5) rfl) ?_
                refine WD_end ?_
                refine And.intro ?_ ?_
                · intro q hq
                  simp only [List.mem_cons, List.not_mem_nil, or_false] at hq
                  rcases hq with rfl
                  · refine ap_ll ?_ ?_
                    · exact (fun h => nomatch h)
                    · exact (fun h => nomatch h)
                refine then_n ?_
                refine W_sq ?_
                refine W_rg ?_
                refine WO_v (a_mv (v := .b x5) rfl) ?_
                refine WO_v (a_not (t := x5) rfl) ?_
                refine WO_v (a_mv (v := .b (!x5)) rfl) ?_
                refine WO_cut 4 (fun fr' k' => k₁₂ = k' ∧ fr' 66 = .b ((!x5) || (!(decide (x4 = gi ([0, 1] : List Int) (x3 : Int).toNat)))) ∧ fr' 1 = v_at_ ∧ fr' 11 = .i .i64 (gi ([0, 1] : List Int) (x3 : Int).toNat) ∧ fr' 12 = .i .i64 (((gi cells (x2 : Int).toNat).Next).get (gi ([0, 1] : List Int) (x3 : Int).toNat)) ∧ fr' 29 = v_cells ∧ fr' 30 = .i .i64 (cells.length : Int) ∧ fr' 31 = .i .i64 x2 ∧ fr' 36 = v₁ ∧ fr' 37 = .i .i64 (([0, 1] : List Int).length : Int) ∧ fr' 38 = .i .i64 x3 ∧ fr' 7 = .i .i64 sum2 ∧ fr' 8 = .i .i64 x2 ∧ fr' 9 = .p r₁ 0) ?_ ?_
                · rcases bc (!x5) with b₇ | b₇
                  · skip
                    refine WO_off rfl b₇ ?_
                    refine WO_off rfl b₇ ?_
                    refine WO_off rfl b₇ ?_
                    refine WO_v (a_pickT (t := (!x5)) (v := .b ((!x5) || (!(decide (x4 = gi ([0, 1] : List Int) (x3 : Int).toNat))))) rfl b₇ (Eq.trans (b := V.b true) rfl (or_off b₇))) ?_
                    refine WO_end ?_
                    exact ⟨rfl, rfl, q₄_1, rfl, rfl, q₄_29, q₄_30, q₄_31, q₄_36, q₄_37, q₄_38, q₄_7, q₄_8, q₄_9⟩
                  · skip
                    refine WO_on rfl b₇ ?_
                    refine WO_v (a_mv (v := .i .i64 x4) rfl) ?_
                    refine WO_on rfl b₇ ?_
                    refine WO_v (a_mv (v := .i .i64 (gi ([0, 1] : List Int) (x3 : Int).toNat)) rfl) ?_
                    refine WO_on rfl b₇ ?_
                    refine WO_v (a_neI (a := x4) (b := (gi ([0, 1] : List Int) (x3 : Int).toNat)) rfl rfl) ?_
                    refine WO_v (a_pickF (t := (!x5)) (v := .b ((!x5) || (!(decide (x4 = gi ([0, 1] : List Int) (x3 : Int).toNat))))) rfl b₇ (Eq.trans (b := V.b (!(decide (x4 = gi ([0, 1] : List Int) (x3 : Int).toNat)))) rfl (or_on b₇))) ?_
                    refine WO_end ?_
                    exact ⟨rfl, rfl, q₄_1, rfl, rfl, q₄_29, q₄_30, q₄_31, q₄_36, q₄_37, q₄_38, q₄_7, q₄_8, q₄_9⟩
                rintro frg₂ _ ⟨rfl, g₂_66, g₂_1, g₂_11, g₂_12, g₂_29, g₂_30, g₂_31, g₂_36, g₂_37, g₂_38, g₂_7, g₂_8, g₂_9⟩
                refine WO_end ?_
                refine then_n ?_
                rcases if_some hp with ⟨b₈, hp⟩ | ⟨b₈, hp⟩
                · refine W_cT (t := ((!x5) || (!(decide (x4 = gi ([0, 1] : List Int) (x3 : Int).toNat))))) g₂_66 b₈ ?_
                  refine W_sq ?_
                  refine W_rg ?_
                  refine WO_v (a_mv (v := .i .i64 0) rfl) ?_
                  refine WO_v (a_mv (v := .i .i64 15) rfl) ?_
                  refine WO_end ?_
                  refine then_n ?_
                  refine W_rt ?_
                  refine then_r ?_
                  refine blk_r ?_
                  refine then_r ?_
                  have hp := Option.some.inj hp; subst hp
                  refine (Or.inr (Exists.intro (.inr ()) (And.intro rfl (And.intro (fun h => nomatch h) (fun he => ?_)))))
                  subst he; exact (And.intro rfl (And.intro (rfl) (And.intro (rfl) (hO₁₂.pick [] rfl (by decide)))))
                · refine W_cF (t := ((!x5) || (!(decide (x4 = gi ([0, 1] : List Int) (x3 : Int).toNat))))) g₂_66 b₈ ?_
                  refine W_sk ?_
                  refine then_n ?_
                  refine W_dr ?_
                  have hW := hO₁₂.bump 32
                  have fr₃ := Fresh.start k₁₂ 32
                  have nb₂ : ∀ {i : Nat}, h.n ≤ k₁₂.n + i := Nat.le_trans hO₁₂.n (Nat.le_add_right _ _)
                  have hO₁₃ : Own B h (k₁₂.bump 32) [eBox r₁ (e_T_api_Cell.c (gi cells (x2 : Int).toNat)), eSl eInt v₁ ([0, 1] : List Int)] := hW
                  refine WD_v (a_mv (v := .i .i64 sum2) g₂_7) ?_
                  refine WD_v (a_mv (v := .i .i64 (gi ([0, 1] : List Int) (x3 : Int).toNat)) g₂_11) ?_
                  refine WD_v (a_fa (r := r₁) (o := 0) (o' := 4) g₂_9 rfl) ?_
                  refine WD_v (a_ixaa (o := 4) (o' := (4 + (gi ([0, 1] : List Int) (x3 : Int).toNat : Int).toNat * 1)) (z := (gi ([0, 1] : List Int) (x3 : Int).toNat)) rfl rfl c₃ rfl) ?_
                  refine WD_v (a_ldb (cs := (e_T_api_Cell.c (gi cells (x2 : Int).toNat))) (v := .i .i64 (((gi cells (x2 : Int).toNat).Owner).get (gi ([0, 1] : List Int) (x3 : Int).toNat))) (hO₁₃.box 0 rfl) rfl (ld_T_api_Cell_Owner c₃)) ?_
                  obtain ⟨x6, hx₄, hp⟩ := bd_some hp
                  obtain ⟨u₄, k₁₄, ca₄, rfl, hW₄⟩ := p_arcs_weight.ok (h := (k₁₂.bump 32))   hx₄
                  refine WD_c (id := 149) (caps := []) rfl (mp_cons (v := .i .i64 (((gi cells (x2 : Int).toNat).Owner).get (gi ([0, 1] : List Int) (x3 : Int).toNat))) rfl mp_nil) ca₄ ?_
                  have fr₄ := fr₃.call hW₄
                  have hO₁₄ : Own B h k₁₄ [eBox r₁ (e_T_api_Cell.c (gi cells (x2 : Int).toNat)), eSl eInt v₁ ([0, 1] : List Int)] := hO₁₃.call hW₄ rfl
                  refine WD_v (a_mv (v := v_at_) g₂_1) ?_
                  refine WD_v (a_mv (v := .i .i64 (((gi cells (x2 : Int).toNat).Next).get (gi ([0, 1] : List Int) (x3 : Int).toNat))) g₂_12) ?_
                  refine WD_v (a_ixa (E := e_T_api_Point) (z := (((gi cells (x2 : Int).toNat).Next).get (gi ([0, 1] : List Int) (x3 : Int).toNat))) (hO₁₄.rd0 s_at_.rd : Sl e_T_api_Point k₁₄ v_at_ at_) rfl rfl c₆) ?_
                  refine WD_v (a_faE (off' := 0) (off2 := 0) (hO₁₄.rd0 s_at_.rd : Sl e_T_api_Point k₁₄ v_at_ at_) (toNat_lt c₆) rfl rfl) ?_
                  refine WD_v (a_ldE (w := .i .i64 ((gi at_ (((gi cells (x2 : Int).toNat).Next).get (gi ([0, 1] : List Int) (x3 : Int).toNat) : Int).toNat).X)) (hO₁₄.rd0 s_at_.rd : Sl e_T_api_Point k₁₄ v_at_ at_) rfl (toNat_lt c₆) rfl) ?_
                  refine WD_v (a_mv (v := v_at_) g₂_1) ?_
                  refine WD_v (a_mv (v := .i .i64 x2) g₂_8) ?_
                  refine WD_v (a_ixa (E := e_T_api_Point) (z := x2) (hO₁₄.rd0 s_at_.rd : Sl e_T_api_Point k₁₄ v_at_ at_) rfl rfl c₅) ?_
                  refine WD_v (a_faE (off' := 0) (off2 := 0) (hO₁₄.rd0 s_at_.rd : Sl e_T_api_Point k₁₄ v_at_ at_) (toNat_lt c₅) rfl rfl) ?_
                  refine WD_v (a_ldE (w := .i .i64 ((gi at_ (x2 : Int).toNat).X)) (hO₁₄.rd0 s_at_.rd : Sl e_T_api_Point k₁₄ v_at_ at_) rfl (toNat_lt c₅) rfl) ?_
                  obtain ⟨c₇, hp⟩ := ck_some hp
                  refine WD_v (a_sub (a := ((gi at_ (((gi cells (x2 : Int).toNat).Next).get (gi ([0, 1] : List Int) (x3 : Int).toNat) : Int).toNat).X)) (b := ((gi at_ (x2 : Int).toNat).X)) rfl rfl c₇) ?_
                  refine WD_v (a_mv (v := v_at_) g₂_1) ?_
                  refine WD_v (a_mv (v := .i .i64 (((gi cells (x2 : Int).toNat).Next).get (gi ([0, 1] : List Int) (x3 : Int).toNat))) g₂_12) ?_
                  refine WD_v (a_ixa (E := e_T_api_Point) (z := (((gi cells (x2 : Int).toNat).Next).get (gi ([0, 1] : List Int) (x3 : Int).toNat))) (hO₁₄.rd0 s_at_.rd : Sl e_T_api_Point k₁₄ v_at_ at_) rfl rfl c₆) ?_
                  refine WD_v (a_faE (off' := 0) (off2 := 1) (hO₁₄.rd0 s_at_.rd : Sl e_T_api_Point k₁₄ v_at_ at_) (toNat_lt c₆) rfl rfl) ?_
                  refine WD_v (a_ldE (w := .i .i64 ((gi at_ (((gi cells (x2 : Int).toNat).Next).get (gi ([0, 1] : List Int) (x3 : Int).toNat) : Int).toNat).Y)) (hO₁₄.rd0 s_at_.rd : Sl e_T_api_Point k₁₄ v_at_ at_) rfl (toNat_lt c₆) rfl) ?_
                  obtain ⟨c₈, hp⟩ := ck_some hp
                  refine WD_v (a_add (a := (((gi at_ (((gi cells (x2 : Int).toNat).Next).get (gi ([0, 1] : List Int) (x3 : Int).toNat) : Int).toNat).X) - ((gi at_ (x2 : Int).toNat).X))) (b := ((gi at_ (((gi cells (x2 : Int).toNat).Next).get (gi ([0, 1] : List Int) (x3 : Int).toNat) : Int).toNat).Y)) rfl rfl c₈) ?_
                  refine WD_v (a_mv (v := v_at_) g₂_1) ?_
                  refine WD_v (a_mv (v := .i .i64 x2) g₂_8) ?_
                  refine WD_v (a_ixa (E := e_T_api_Point) (z := x2) (hO₁₄.rd0 s_at_.rd : Sl e_T_api_Point k₁₄ v_at_ at_) rfl rfl c₅) ?_
                  refine WD_v (a_faE (off' := 0) (off2 := 1) (hO₁₄.rd0 s_at_.rd : Sl e_T_api_Point k₁₄ v_at_ at_) (toNat_lt c₅) rfl rfl) ?_
                  refine WD_v (a_ldE (w := .i .i64 ((gi at_ (x2 : Int).toNat).Y)) (hO₁₄.rd0 s_at_.rd : Sl e_T_api_Point k₁₄ v_at_ at_) rfl (toNat_lt c₅) rfl) ?_
                  obtain ⟨c₉, hp⟩ := ck_some hp
                  refine WD_v (a_sub (a := ((((gi at_ (((gi cells (x2 : Int).toNat).Next).get (gi ([0, 1] : List Int) (x3 : Int).toNat) : Int).toNat).X) - ((gi at_ (x2 : Int).toNat).X)) + ((gi at_ (((gi cells (x2 : Int).toNat).Next).get (gi ([0, 1] : List Int) (x3 : Int).toNat) : Int).toNat).Y))) (b := ((gi at_ (x2 : Int).toNat).Y)) rfl rfl c₉) ?_
                  obtain ⟨c₁₀, hp⟩ := ck_some hp
                  refine WD_v (a_mul (a := x6) (b := (((((gi at_ (((gi cells (x2 : Int).toNat).Next).get (gi ([0, 1] : List Int) (x3 : Int).toNat) : Int).toNat).X) - ((gi at_ (x2 : Int).toNat).X)) + ((gi at_ (((gi cells (x2 : Int).toNat).Next).get (gi ([0, 1] : List Int) (x3 : Int).toNat) : Int).toNat).Y)) - ((gi at_ (x2 : Int).toNat).Y))) rfl rfl c₁₀) ?_
                  obtain ⟨c₁₁, hp⟩ := ck_some hp
                  refine WD_v (a_add (a := sum2) (b := (x6 * (((((gi at_ (((gi cells (x2 : Int).toNat).Next).get (gi ([0, 1] : List Int) (x3 : Int).toNat) : Int).toNat).X) - ((gi at_ (x2 : Int).toNat).X)) + ((gi at_ (((gi cells (x2 : Int).toNat).Next).get (gi ([0, 1] : List Int) (x3 : Int).toNat) : Int).toNat).Y)) - ((gi at_ (x2 : Int).toNat).Y)))) rfl rfl c₁₁) ?_
                  refine WD_v (a_mv (v := .i .i64 (sum2 + (x6 * (((((gi at_ (((gi cells (x2 : Int).toNat).Next).get (gi ([0, 1] : List Int) (x3 : Int).toNat) : Int).toNat).X) - ((gi at_ (x2 : Int).toNat).X)) + ((gi at_ (((gi cells (x2 : Int).toNat).Next).get (gi ([0, 1] : List Int) (x3 : Int).toNat) : Int).toNat).Y)) - ((gi at_ (x2 : Int).toNat).Y))))) rfl) ?_
                  refine WD_end ?_
                  refine And.intro ?_ ?_
                  · intro q hq
                    simp only [List.mem_cons, List.not_mem_nil, or_false] at hq
                    rcases hq with rfl | rfl | rfl | rfl | rfl | rfl | rfl | rfl | rfl | rfl | rfl | rfl | rfl | rfl
                    · refine ap_ll ?_ ?_
                      · exact (fun h => nomatch h)
                      · exact (fun h => nomatch h)
                    · refine ap_cl rfl ?_
                      · exact (fun r hm hc => hc (hW₄.base r (Nat.lt_of_lt_of_le (Nat.lt_of_lt_of_le (hO₁₂.lo _ (Rd.B s_at_.rd hO₁₂.lo (toNat_lt c₆) _ (refs_elt (tch (v := V.elt v_at_ (((gi cells (x2 : Int).toNat).Next).get (gi ([0, 1] : List Int) (x3 : Int).toNat) : Int).toNat 0) (ld_el hm) rfl)))) hO₁₂.n) (Nat.le_trans (Nat.le_add_right _ _) fr₃.n))))
                    · refine ap_ll ?_ ?_
                      · exact (fun h => nomatch h)
                      · exact (fun h => nomatch h)
                    · refine ap_cl rfl ?_
                      · exact (fun r hm hc => hc (hW₄.base r (Nat.lt_of_lt_of_le (Nat.lt_of_lt_of_le (hO₁₂.lo _ (Rd.B s_at_.rd hO₁₂.lo (toNat_lt c₅) _ (refs_elt (tch (v := V.elt v_at_ (x2 : Int).toNat 0) (ld_el hm) rfl)))) hO₁₂.n) (Nat.le_trans (Nat.le_add_right _ _) fr₃.n))))
                    · refine ap_ll ?_ ?_
                      · exact (fun h => nomatch h)
                      · exact (fun h => nomatch h)
                    · refine ap_ll ?_ ?_
                      · exact (fun h => nomatch h)
                      · exact (fun h => nomatch h)
                    · refine ap_cl rfl ?_
                      · exact (fun r hm hc => hc (hW₄.base r (Nat.lt_of_lt_of_le (Nat.lt_of_lt_of_le (hO₁₂.lo _ (Rd.B s_at_.rd hO₁₂.lo (toNat_lt c₆) _ (refs_elt (tch (v := V.elt v_at_ (((gi cells (x2 : Int).toNat).Next).get (gi ([0, 1] : List Int) (x3 : Int).toNat) : Int).toNat 1) (ld_el hm) rfl)))) hO₁₂.n) (Nat.le_trans (Nat.le_add_right _ _) fr₃.n))))
                    · refine ap_ll ?_ ?_
                      · exact (fun h => nomatch h)
                      · exact (fun h => nomatch h)
                    · refine ap_ll ?_ ?_
                      · exact (fun h => nomatch h)
                      · exact (fun h => nomatch h)
                    · refine ap_ll ?_ ?_
                      · exact (fun h => nomatch h)
                      · exact (fun h => nomatch h)
                    · refine ap_cl rfl ?_
                      · exact (fun r hm hc => hc (hW₄.base r (Nat.lt_of_lt_of_le (Nat.lt_of_lt_of_le (hO₁₂.lo _ (Rd.B s_at_.rd hO₁₂.lo (toNat_lt c₅) _ (refs_elt (tch (v := V.elt v_at_ (x2 : Int).toNat 1) (ld_el hm) rfl)))) hO₁₂.n) (Nat.le_trans (Nat.le_add_right _ _) fr₃.n))))
                    · refine ap_ll ?_ ?_
                      · exact (fun h => nomatch h)
                      · exact (fun h => nomatch h)
                    · refine ap_ll ?_ ?_
                      · exact (fun h => nomatch h)
                      · exact (fun h => nomatch h)
                    · refine ap_ll ?_ ?_
                      · exact (fun h => nomatch h)
                      · exact (fun h => nomatch h)
                  refine blk_n ?_
                  refine then_n ?_
                  refine W_rg ?_
                  obtain ⟨c₁₂, hp⟩ := ck_some hp
                  refine WO_v (a_add (a := x3) (b := 1) g₂_38 rfl c₁₂) ?_
                  refine WO_v (a_mv (v := .i .i64 (x3 + 1)) rfl) ?_
                  refine WO_end ?_
                  have hp := Option.some.inj hp; subst hp
                  exact (Or.inl (Exists.intro (sum2 + (x6 * (((((gi at_ (((gi cells (x2 : Int).toNat).Next).get (gi ([0, 1] : List Int) (x3 : Int).toNat) : Int).toNat).X) - ((gi at_ (x2 : Int).toNat).X)) + ((gi at_ (((gi cells (x2 : Int).toNat).Next).get (gi ([0, 1] : List Int) (x3 : Int).toNat) : Int).toNat).Y)) - ((gi at_ (x2 : Int).toNat).Y))), x3 + 1) (And.intro rfl (And.intro rfl (And.intro (g₂_1) (And.intro (rfl) (And.intro (g₂_8) (And.intro (g₂_9) (And.intro (g₂_29) (And.intro (g₂_30) (And.intro (g₂_31) (And.intro (g₂_36) (And.intro (g₂_37) (And.intro (rfl) (hO₁₄.pick [0, 1] rfl (by decide))))))))))))))))
            · refine W_cF (t := (decide (x3 < (([0, 1] : List Int).length : Int)))) rfl b₅ ?_
              refine W_ex ?_
              refine then_e ?_
              have hp := Option.some.inj hp; subst hp
              refine (Or.inr (Exists.intro (.inl sum2) (And.intro rfl (And.intro (fun h => nomatch h) (fun he => ?_)))))
              subst he; exact (And.intro rfl (And.intro (q₄_1) (And.intro (q₄_7) (And.intro (q₄_29) (And.intro (q₄_30) (And.intro (q₄_31) (hO₁₀.pick [] rfl (by decide))))))))
          intro e₂ q₃ k₉ hJ₂
          rcases o₃ with sum3 | _
          · obtain ⟨rfl, q₃_1, q₃_7, q₃_29, q₃_30, q₃_31, hO₉⟩ := hJ₂
            refine blk_i ?_
            refine blk_n ?_
            refine then_n ?_
            refine W_rg ?_
            obtain ⟨c₁₃, hp⟩ := ck_some hp
            refine WO_v (a_add (a := x2) (b := 1) q₃_31 rfl c₁₃) ?_
            refine WO_v (a_mv (v := .i .i64 (x2 + 1)) rfl) ?_
            refine WO_end ?_
            have hp := Option.some.inj hp; subst hp
            exact (Or.inl (Exists.intro (sum3, x2 + 1) (And.intro rfl (And.intro rfl (And.intro (q₃_1) (And.intro (q₃_7) (And.intro (q₃_29) (And.intro (q₃_30) (And.intro (rfl) (hO₉.pick [] rfl (by decide)))))))))))
          · obtain ⟨rfl, q₃_4, q₃_5, hO₉⟩ := hJ₂
            refine blk_r ?_
            refine blk_r ?_
            refine then_r ?_
            have hp := Option.some.inj hp; subst hp
            refine (Or.inr (Exists.intro (.inr ()) (And.intro rfl (And.intro (fun h => nomatch h) (fun he => ?_)))))
            subst he; exact (And.intro rfl (And.intro (q₃_4) (And.intro (q₃_5) (hO₉.pick [] rfl (by decide)))))
        · refine W_cF (t := (decide (x2 < (cells.length : Int)))) rfl b₄ ?_
          refine W_ex ?_
          refine then_e ?_
          have hp := Option.some.inj hp; subst hp
          refine (Or.inr (Exists.intro (.inl sum) (And.intro rfl (And.intro (fun h => nomatch h) (fun he => ?_)))))
          subst he; exact (And.intro rfl (And.intro (q₂_7) (hO₅.pick [] rfl (by decide))))
      intro e₁ q₁ k₄ hJ₁
      rcases o₁ with sum1 | _
      · obtain ⟨rfl, q₁_7, hO₄⟩ := hJ₁
        refine blk_i ?_
        refine then_n ?_
        refine W_sq ?_
        refine W_rg ?_
        refine WO_v (a_mv (v := .i .i64 sum1) q₁_7) ?_
        refine WO_v (a_mv (v := .i .i64 sum1) rfl) ?_
        refine WO_v (a_mv (v := .i .i64 0) rfl) ?_
        refine WO_end ?_
        refine then_n ?_
        refine W_rt ?_
        refine Ret_r (rs_t (n := 4) (v := .i .i64 sum1) rfl (rs_t (n := 5) (v := .i .i64 0) rfl rs_nil)) ?_
        have hp := Option.some.inj hp; subst hp
        exact (And.intro rfl (hO₄.pick [] rfl (by decide)))
      · obtain ⟨rfl, q₁_4, q₁_5, hO₄⟩ := hJ₁
        refine blk_r ?_
        refine then_r ?_
        refine Ret_r (rs_t (n := 4) (v := .i .i64 0) q₁_4 (rs_t (n := 5) (v := .i .i64 15) q₁_5 rs_nil)) ?_
        have hp := Option.some.inj hp; subst hp
        exact (And.intro rfl (hO₄.pick [] rfl (by decide)))

theorem p_muntinlaw17_wakes.ok {h : Hp}    {r : Bool} (hp : p_muntinlaw17_wakes  = some r) :
    ∃ u k', Is G 130 [] h u k' ∧ V.b r = u ∧ Own (fun r => r < h.n) h k' [] := by
  refine WC.is (WC_of G_F_muntinlaw17_wakes ?_)
  unfold p_muntinlaw17_wakes at hp
  let B : Nat → Prop := (fun r => r < h.n)
  have hO : Own B h h [] := Own.start0 h
  refine W_sq ?_
  refine W_rg ?_
  refine WO_v (a_mv (v := .b false) rfl) ?_
  refine WO_end ?_
  refine then_n ?_
  refine W_sq ?_
  refine W_rg ?_
  obtain ⟨x, hx₁, hp⟩ := bd_some hp
  obtain ⟨u₁, k₁, ca₁, v₁, rfl, hW₁⟩ := p_muntinlaw17_square.ok (h := h)   hx₁
  refine WO_c (id := 145) (caps := []) rfl mp_nil ca₁ ?_
  have hO₁ : Own B h k₁ [eSl e_T_api_Cell v₁ x] := hO.call hW₁ rfl
  obtain ⟨⟨x1, x2⟩, hx₂, hp⟩ := bd_some hp
  obtain ⟨u₂, k₂, ca₂, v₂, v₃, v₄, vs₁, v₅, vs₂, v₆, v₇, rfl, hW₂⟩ := p_arcs_Of.ok (h := k₁)  (hO₁.sl 0 rfl : Sl e_T_api_Cell k₁ v₁ x) hx₂
  refine WO_c (id := 129) (caps := []) rfl (mp_cons (v := v₁) rfl mp_nil) ca₂ ?_
  have hO₂ : Own B h k₂ [eSl e_T_api_Cell v₁ x, eSl eInt v₂ x1.Chains.X, eSl eInt v₃ x1.Chains.Y, eSl eV v₄ vs₁, eAll eInt vs₁ x1.Chains.Vert, eSl eV v₅ vs₂, eAll eInt vs₂ x1.Chains.Horz, eSl e_T_api_Arc v₆ x1.H, eSl e_T_api_Arc v₇ x1.V] := hO₁.call hW₂ rfl
  refine WO_v (a_mv (v := .tu [.ag [v₂, v₃, v₄, v₅, v₆, v₇], .i .i64 x2]) rfl) ?_
  refine WO_v (a_ext (vs := [.ag [v₂, v₃, v₄, v₅, v₆, v₇], .i .i64 x2]) (v := .ag [v₂, v₃, v₄, v₅, v₆, v₇]) rfl rfl) ?_
  refine WO_v (a_ext (vs := [.ag [v₂, v₃, v₄, v₅, v₆, v₇], .i .i64 x2]) (v := .i .i64 x2) rfl rfl) ?_
  refine WO_x (hO₂.alloc (cs := [.sn, .sn, .sn, .sn, .sn, .sn]) hO₂.fr) ?_
  rintro _ k₃ ⟨r₁, rfl, n₁, f₁, hW⟩
  have hO₃ : Own B h k₃ [eSl e_T_api_Cell v₁ x, eSl eInt v₂ x1.Chains.X, eSl eInt v₃ x1.Chains.Y, eSl eV v₄ vs₁, eAll eInt vs₁ x1.Chains.Vert, eSl eV v₅ vs₂, eAll eInt vs₂ x1.Chains.Horz, eSl e_T_api_Arc v₆ x1.H, eSl e_T_api_Arc v₇ x1.V, eBox r₁ [.sn, .sn, .sn, .sn, .sn, .sn]] := hW
  refine WO_x (hO₃.stb (ws := [v₂, v₃, v₄, v₅, v₆, v₇]) (cs' := [v₂, v₃, v₄, v₅, v₆, v₇]) (v := .ag [v₂, v₃, v₄, v₅, v₆, v₇]) 9 rfl rfl rfl rfl ⟨rfl, Nat.le_of_ble_eq_true rfl, (all_cons (hO₃.sl 1 rfl : Sl eInt k₃ v₂ x1.Chains.X).oneV (all_cons (hO₃.sl 2 rfl : Sl eInt k₃ v₃ x1.Chains.Y).oneV (all_cons (hO₃.sl 3 rfl : Sl eV k₃ v₄ vs₁).oneV (all_cons (hO₃.sl 5 rfl : Sl eV k₃ v₅ vs₂).oneV (all_cons (hO₃.sl 7 rfl : Sl e_T_api_Arc k₃ v₆ x1.H).oneV (all_cons (hO₃.sl 8 rfl : Sl e_T_api_Arc k₃ v₇ x1.V).oneV all_nil))))))⟩ rfl) ?_
  rintro _ k₄ ⟨rfl, f₂, m₁, hW⟩
  have hO₄ : Own B h k₄ [eSl e_T_api_Cell v₁ x, eSl eInt v₂ x1.Chains.X, eSl eInt v₃ x1.Chains.Y, eSl eV v₄ vs₁, eAll eInt vs₁ x1.Chains.Vert, eSl eV v₅ vs₂, eAll eInt vs₂ x1.Chains.Horz, eSl e_T_api_Arc v₆ x1.H, eSl e_T_api_Arc v₇ x1.V, eBox r₁ [v₂, v₃, v₄, v₅, v₆, v₇]] := hW
  refine WO_v (a_mv (v := .i .i64 x2) rfl) ?_
  refine WO_end ?_
  refine then_n ?_
  refine W_sq ?_
  refine W_sq ?_
  refine W_rg ?_
  refine WO_v (a_mv (v := .i .i64 x2) rfl) ?_
  refine WO_v (a_neI (a := x2) (b := 0) rfl rfl) ?_
  refine WO_v (a_mv (v := .b (!(decide (x2 = 0)))) rfl) ?_
  refine WO_cut 5 (fun fr' k' => k₄ = k' ∧ fr' 19 = .b ((!(decide (x2 = 0))) || (!(decide ((x1.H.length : Int) = 2)))) ∧ fr' 1 = .p r₁ 0) ?_ ?_
  · rcases bc (!(decide (x2 = 0))) with b₁ | b₁
    · skip
      refine WO_off rfl b₁ ?_
      refine WO_off rfl b₁ ?_
      refine WO_off rfl b₁ ?_
      refine WO_off rfl b₁ ?_
      refine WO_v (a_pickT (t := (!(decide (x2 = 0)))) (v := .b ((!(decide (x2 = 0))) || (!(decide ((x1.H.length : Int) = 2))))) rfl b₁ (Eq.trans (b := V.b true) rfl (or_off b₁))) ?_
      refine WO_end ?_
      exact ⟨rfl, rfl, rfl⟩
    · skip
      refine WO_on rfl b₁ ?_
      refine WO_v (a_fa (r := r₁) (o := 0) (o' := 4) rfl rfl) ?_
      refine WO_on rfl b₁ ?_
      refine WO_v (a_ldb (cs := [v₂, v₃, v₄, v₅, v₆, v₇]) (v := v₆) (hO₄.box 9 rfl) rfl rfl) ?_
      refine WO_on rfl b₁ ?_
      refine WO_v (a_len (hO₄.sl 7 rfl : Sl e_T_api_Arc k₄ v₆ x1.H) rfl) ?_
      refine WO_on rfl b₁ ?_
      refine WO_v (a_neI (a := (x1.H.length : Int)) (b := 2) rfl rfl) ?_
      refine WO_v (a_pickF (t := (!(decide (x2 = 0)))) (v := .b ((!(decide (x2 = 0))) || (!(decide ((x1.H.length : Int) = 2))))) rfl b₁ (Eq.trans (b := V.b (!(decide ((x1.H.length : Int) = 2)))) rfl (or_on b₁))) ?_
      refine WO_end ?_
      exact ⟨rfl, rfl, rfl⟩
  rintro frg₁ _ ⟨rfl, g₁_19, g₁_1⟩
  refine WO_v (a_mv (v := .b ((!(decide (x2 = 0))) || (!(decide ((x1.H.length : Int) = 2))))) g₁_19) ?_
  obtain ⟨t, hv₁, hp⟩ := bd_some hp
  refine WO_cut 7 (fun fr' k' => k₄ = k' ∧ fr' 27 = .b t ∧ fr' 1 = .p r₁ 0) ?_ ?_
  · clear hp; rcases if_some hv₁ with ⟨b₂, hp⟩ | ⟨b₂, hp⟩
    · skip
      refine WO_off rfl b₂ ?_
      refine WO_off rfl b₂ ?_
      refine WO_off rfl b₂ ?_
      refine WO_off rfl b₂ ?_
      refine WO_off rfl b₂ ?_
      refine WO_off rfl b₂ ?_
      refine WO_v (a_pickT (t := ((!(decide (x2 = 0))) || (!(decide ((x1.H.length : Int) = 2))))) (v := .b t) rfl b₂ (Eq.trans (b := V.b true) rfl (congrArg V.b (Option.some.inj hp)))) ?_
      refine WO_end ?_
      exact ⟨rfl, rfl, g₁_1⟩
    · skip
      refine WO_on rfl b₂ ?_
      refine WO_v (a_fa (r := r₁) (o := 0) (o' := 4) g₁_1 rfl) ?_
      refine WO_on rfl b₂ ?_
      refine WO_v (a_ldb (cs := [v₂, v₃, v₄, v₅, v₆, v₇]) (v := v₆) (hO₄.box 9 rfl) rfl rfl) ?_
      refine WO_on rfl b₂ ?_
      obtain ⟨c₁, hp⟩ := ck_some hp
      refine WO_v (a_ixa (E := e_T_api_Arc) (z := 1) (hO₄.sl 7 rfl : Sl e_T_api_Arc k₄ v₆ x1.H) rfl rfl c₁) ?_
      refine WO_on rfl b₂ ?_
      refine WO_v (a_ldA (E := e_T_api_Arc) (hO₄.sl 7 rfl : Sl e_T_api_Arc k₄ v₆ x1.H) rfl (toNat_lt c₁)) ?_
      refine WO_on rfl b₂ ?_
      refine WO_v (a_build (cs := e_T_api_Arc.c (⟨0, 1, 1⟩ : T_api_Arc)) (by rw [(ev_cons (v := .i .i64 0) rfl (ev_cons (v := .i .i64 1) rfl (ev_cons (v := .i .i64 1) rfl ev_nil)))]; rfl)) ?_
      refine WO_on rfl b₂ ?_
      refine WO_v (a_neA (as := e_T_api_Arc.c (gi x1.H (1 : Int).toNat)) (bs := e_T_api_Arc.c (⟨0, 1, 1⟩ : T_api_Arc)) rfl rfl (Mu.e_T_api_Arc.same _ _)) ?_
      refine WO_v (a_pickF (t := ((!(decide (x2 = 0))) || (!(decide ((x1.H.length : Int) = 2))))) (v := .b t) rfl b₂ (Eq.trans (b := V.b (!(decide (gi x1.H (1 : Int).toNat = (⟨0, 1, 1⟩ : T_api_Arc))))) rfl (congrArg V.b (Option.some.inj hp)))) ?_
      refine WO_end ?_
      exact ⟨rfl, rfl, g₁_1⟩
  rintro frg₂ _ ⟨rfl, g₂_27, g₂_1⟩
  refine WO_v (a_mv (v := .b t) g₂_27) ?_
  obtain ⟨t1, hv₂, hp⟩ := bd_some hp
  refine WO_cut 7 (fun fr' k' => k₄ = k' ∧ fr' 35 = .b t1 ∧ fr' 1 = .p r₁ 0) ?_ ?_
  · clear hp; rcases if_some hv₂ with ⟨b₃, hp⟩ | ⟨b₃, hp⟩
    · skip
      refine WO_off rfl b₃ ?_
      refine WO_off rfl b₃ ?_
      refine WO_off rfl b₃ ?_
      refine WO_off rfl b₃ ?_
      refine WO_off rfl b₃ ?_
      refine WO_off rfl b₃ ?_
      refine WO_v (a_pickT (t := t) (v := .b t1) rfl b₃ (Eq.trans (b := V.b true) rfl (congrArg V.b (Option.some.inj hp)))) ?_
      refine WO_end ?_
      exact ⟨rfl, rfl, g₂_1⟩
    · skip
      refine WO_on rfl b₃ ?_
      refine WO_v (a_fa (r := r₁) (o := 0) (o' := 5) g₂_1 rfl) ?_
      refine WO_on rfl b₃ ?_
      refine WO_v (a_ldb (cs := [v₂, v₃, v₄, v₅, v₆, v₇]) (v := v₇) (hO₄.box 9 rfl) rfl rfl) ?_
      refine WO_on rfl b₃ ?_
      obtain ⟨c₂, hp⟩ := ck_some hp
      refine WO_v (a_ixa (E := e_T_api_Arc) (z := 0) (hO₄.sl 8 rfl : Sl e_T_api_Arc k₄ v₇ x1.V) rfl rfl c₂) ?_
      refine WO_on rfl b₃ ?_
      refine WO_v (a_ldA (E := e_T_api_Arc) (hO₄.sl 8 rfl : Sl e_T_api_Arc k₄ v₇ x1.V) rfl (toNat_lt c₂)) ?_
      refine WO_on rfl b₃ ?_
      refine WO_v (a_build (cs := e_T_api_Arc.c (⟨0, 1, (0 : Int)⟩ : T_api_Arc)) (by rw [(ev_cons (v := .i .i64 0) rfl (ev_cons (v := .i .i64 1) rfl ev_nil))]; rfl)) ?_
      refine WO_on rfl b₃ ?_
      refine WO_v (a_neA (as := e_T_api_Arc.c (gi x1.V (0 : Int).toNat)) (bs := e_T_api_Arc.c (⟨0, 1, (0 : Int)⟩ : T_api_Arc)) rfl rfl (Mu.e_T_api_Arc.same _ _)) ?_
      refine WO_v (a_pickF (t := t) (v := .b t1) rfl b₃ (Eq.trans (b := V.b (!(decide (gi x1.V (0 : Int).toNat = (⟨0, 1, (0 : Int)⟩ : T_api_Arc))))) rfl (congrArg V.b (Option.some.inj hp)))) ?_
      refine WO_end ?_
      exact ⟨rfl, rfl, g₂_1⟩
  rintro frg₃ _ ⟨rfl, g₃_35, g₃_1⟩
  refine WO_end ?_
  refine then_n ?_
  rcases if_some hp with ⟨b₄, hp⟩ | ⟨b₄, hp⟩
  · refine W_cT (t := t1) g₃_35 b₄ ?_
    refine W_sq ?_
    refine W_rg ?_
    refine WO_v (a_mv (v := .b false) rfl) ?_
    refine WO_end ?_
    refine then_n ?_
    refine W_rt ?_
    refine then_r ?_
    refine Ret_r (rs_t (n := 0) (v := .b false) rfl rs_nil) ?_
    have hp := Option.some.inj hp; subst hp
    exact (And.intro rfl (hO₄.pick [] rfl (by decide)))
  · refine W_cF (t := t1) g₃_35 b₄ ?_
    refine W_sk ?_
    refine then_n ?_
    refine W_sq ?_
    refine W_rg ?_
    refine WO_v (a_fa (r := r₁) (o := 0) (o' := 0) g₃_1 rfl) ?_
    refine WO_v (a_ldbA (cs := [v₂, v₃, v₄, v₅, v₆, v₇]) (ws := [v₂, v₃, v₄, v₅]) (hO₄.box 9 rfl) rfl rfl) ?_
    refine WO_x (hO₄.bsl (E := eInt) (l := ([0, 5] : List Int)) hO₄.fr (by rw [(ev_cons (v := .i .i64 0) rfl (ev_cons (v := .i .i64 5) rfl ev_nil))]; rfl) rfl) ?_
    rintro v₈ k₅ ⟨r₂, f₃, hW⟩
    have hO₅ : Own B h k₅ [eSl e_T_api_Cell v₁ x, eSl eInt v₂ x1.Chains.X, eSl eInt v₃ x1.Chains.Y, eSl eV v₄ vs₁, eAll eInt vs₁ x1.Chains.Vert, eSl eV v₅ vs₂, eAll eInt vs₂ x1.Chains.Horz, eSl e_T_api_Arc v₆ x1.H, eSl e_T_api_Arc v₇ x1.V, eBox r₁ [v₂, v₃, v₄, v₅, v₆, v₇], eSl eInt v₈ ([0, 5] : List Int)] := hW
    refine WO_x (hO₅.bsl (E := eInt) (l := ([0, 2] : List Int)) hO₅.fr (by rw [(ev_cons (v := .i .i64 0) rfl (ev_cons (v := .i .i64 2) rfl ev_nil))]; rfl) rfl) ?_
    rintro v₉ k₆ ⟨r₃, f₄, hW⟩
    have hO₆ : Own B h k₆ [eSl e_T_api_Cell v₁ x, eSl eInt v₂ x1.Chains.X, eSl eInt v₃ x1.Chains.Y, eSl eV v₄ vs₁, eAll eInt vs₁ x1.Chains.Vert, eSl eV v₅ vs₂, eAll eInt vs₂ x1.Chains.Horz, eSl e_T_api_Arc v₆ x1.H, eSl e_T_api_Arc v₇ x1.V, eBox r₁ [v₂, v₃, v₄, v₅, v₆, v₇], eSl eInt v₈ ([0, 5] : List Int), eSl eInt v₉ ([0, 2] : List Int)] := hW
    obtain ⟨⟨x3, x4⟩, hx₃, hp⟩ := bd_some hp
    obtain ⟨u₃, k₇, ca₃, v₁₀, rfl, hW₃⟩ := p_arcs_Place.ok (h := k₆)  (hO₆.sl 1 rfl : Sl eInt k₆ v₂ x1.Chains.X) (hO₆.sl 2 rfl : Sl eInt k₆ v₃ x1.Chains.Y) (hO₆.sl 3 rfl : Sl eV k₆ v₄ vs₁) (hO₆.allLen 4 rfl : (vs₁).length = (x1.Chains.Vert).length) (fun j hj => hO₆.inn 4 rfl hj) (hO₆.sl 5 rfl : Sl eV k₆ v₅ vs₂) (hO₆.allLen 6 rfl : (vs₂).length = (x1.Chains.Horz).length) (fun j hj => hO₆.inn 6 rfl hj) (hO₆.sl 10 rfl : Sl eInt k₆ v₈ ([0, 5] : List Int)) (hO₆.sl 11 rfl : Sl eInt k₆ v₉ ([0, 2] : List Int)) hx₃
    refine WO_c (id := 132) (caps := []) rfl (mp_cons (v := .ag [v₂, v₃, v₄, v₅]) rfl (mp_cons (v := v₈) rfl (mp_cons (v := v₉) rfl mp_nil))) ca₃ ?_
    have hO₇ : Own B h k₇ [eSl e_T_api_Cell v₁ x, eSl eInt v₂ x1.Chains.X, eSl eInt v₃ x1.Chains.Y, eSl eV v₄ vs₁, eAll eInt vs₁ x1.Chains.Vert, eSl eV v₅ vs₂, eAll eInt vs₂ x1.Chains.Horz, eSl e_T_api_Arc v₆ x1.H, eSl e_T_api_Arc v₇ x1.V, eBox r₁ [v₂, v₃, v₄, v₅, v₆, v₇], eSl eInt v₈ ([0, 5] : List Int), eSl eInt v₉ ([0, 2] : List Int), eSl e_T_api_Point v₁₀ x3] := hO₆.call hW₃ rfl
    refine WO_v (a_mv (v := .tu [v₁₀, .i .i64 x4]) rfl) ?_
    refine WO_v (a_ext (vs := [v₁₀, .i .i64 x4]) (v := v₁₀) rfl rfl) ?_
    refine WO_v (a_ext (vs := [v₁₀, .i .i64 x4]) (v := .i .i64 x4) rfl rfl) ?_
    refine WO_v (a_mv (v := v₁₀) rfl) ?_
    refine WO_v (a_mv (v := .i .i64 x4) rfl) ?_
    refine WO_end ?_
    refine then_n ?_
    refine W_sq ?_
    refine W_rg ?_
    obtain ⟨x5, hx₄, hp⟩ := bd_some hp
    obtain ⟨u₄, k₈, ca₄, v₁₁, rfl, hW₄⟩ := p_muntinlaw17_square.ok (h := k₇)   hx₄
    refine WO_c (id := 145) (caps := []) rfl mp_nil ca₄ ?_
    have hO₈ : Own B h k₈ [eSl e_T_api_Cell v₁ x, eSl eInt v₂ x1.Chains.X, eSl eInt v₃ x1.Chains.Y, eSl eV v₄ vs₁, eAll eInt vs₁ x1.Chains.Vert, eSl eV v₅ vs₂, eAll eInt vs₂ x1.Chains.Horz, eSl e_T_api_Arc v₆ x1.H, eSl e_T_api_Arc v₇ x1.V, eBox r₁ [v₂, v₃, v₄, v₅, v₆, v₇], eSl eInt v₈ ([0, 5] : List Int), eSl eInt v₉ ([0, 2] : List Int), eSl e_T_api_Point v₁₀ x3, eSl e_T_api_Cell v₁₁ x5] := hO₇.call hW₄ rfl
    refine WO_v (a_mv (v := v₁₀) rfl) ?_
    obtain ⟨⟨x6, x7⟩, hx₅, hp⟩ := bd_some hp
    obtain ⟨u₅, k₉, ca₅, rfl, hW₅⟩ := p_arcs_Length.ok (h := k₈)  (hO₈.sl 13 rfl : Sl e_T_api_Cell k₈ v₁₁ x5) (hO₈.sl 12 rfl : Sl e_T_api_Point k₈ v₁₀ x3) hx₅
    refine WO_c (id := 133) (caps := []) rfl (mp_cons (v := v₁₁) rfl (mp_cons (v := v₁₀) rfl mp_nil)) ca₅ ?_
    have hO₉ : Own B h k₉ [eSl e_T_api_Cell v₁ x, eSl eInt v₂ x1.Chains.X, eSl eInt v₃ x1.Chains.Y, eSl eV v₄ vs₁, eAll eInt vs₁ x1.Chains.Vert, eSl eV v₅ vs₂, eAll eInt vs₂ x1.Chains.Horz, eSl e_T_api_Arc v₆ x1.H, eSl e_T_api_Arc v₇ x1.V, eBox r₁ [v₂, v₃, v₄, v₅, v₆, v₇], eSl eInt v₈ ([0, 5] : List Int), eSl eInt v₉ ([0, 2] : List Int), eSl e_T_api_Point v₁₀ x3, eSl e_T_api_Cell v₁₁ x5] := hO₈.call hW₅ rfl
    refine WO_v (a_mv (v := .tu [.i .i64 x6, .i .i64 x7]) rfl) ?_
    refine WO_v (a_ext (vs := [.i .i64 x6, .i .i64 x7]) (v := .i .i64 x6) rfl rfl) ?_
    refine WO_v (a_ext (vs := [.i .i64 x6, .i .i64 x7]) (v := .i .i64 x7) rfl rfl) ?_
    refine WO_v (a_mv (v := .i .i64 x6) rfl) ?_
    refine WO_v (a_mv (v := .i .i64 x7) rfl) ?_
    refine WO_end ?_
    refine then_n ?_
    refine W_sq ?_
    refine W_rg ?_
    refine WO_v (a_mv (v := .i .i64 x4) rfl) ?_
    refine WO_v (a_eqI (a := x4) (b := 0) rfl rfl) ?_
    refine WO_v (a_mv (v := .b (decide (x4 = 0))) rfl) ?_
    refine WO_cut 4 (fun fr' k' => k₉ = k' ∧ fr' 56 = .b ((decide (x4 = 0)) && (decide ((x3.length : Int) = 4))) ∧ fr' 3 = v₁₀ ∧ fr' 5 = .i .i64 x6 ∧ fr' 6 = .i .i64 x7) ?_ ?_
    · rcases bc (decide (x4 = 0)) with b₅ | b₅
      · skip
        refine WO_on rfl b₅ ?_
        refine WO_v (a_mv (v := v₁₀) rfl) ?_
        refine WO_on rfl b₅ ?_
        refine WO_v (a_len (hO₉.sl 12 rfl : Sl e_T_api_Point k₉ v₁₀ x3) rfl) ?_
        refine WO_on rfl b₅ ?_
        refine WO_v (a_eqI (a := (x3.length : Int)) (b := 4) rfl rfl) ?_
        refine WO_v (a_pickT (t := (decide (x4 = 0))) (v := .b ((decide (x4 = 0)) && (decide ((x3.length : Int) = 4)))) rfl b₅ (Eq.trans (b := V.b (decide ((x3.length : Int) = 4))) rfl (and_on b₅))) ?_
        refine WO_end ?_
        exact ⟨rfl, rfl, rfl, rfl, rfl⟩
      · skip
        refine WO_off rfl b₅ ?_
        refine WO_off rfl b₅ ?_
        refine WO_off rfl b₅ ?_
        refine WO_v (a_pickF (t := (decide (x4 = 0))) (v := .b ((decide (x4 = 0)) && (decide ((x3.length : Int) = 4)))) rfl b₅ (Eq.trans (b := V.b false) rfl (and_off b₅))) ?_
        refine WO_end ?_
        exact ⟨rfl, rfl, rfl, rfl, rfl⟩
    rintro frg₄ _ ⟨rfl, g₄_56, g₄_3, g₄_5, g₄_6⟩
    refine WO_v (a_mv (v := .b ((decide (x4 = 0)) && (decide ((x3.length : Int) = 4)))) g₄_56) ?_
    obtain ⟨t2, hv₃, hp⟩ := bd_some hp
    refine WO_cut 6 (fun fr' k' => k₉ = k' ∧ fr' 63 = .b t2 ∧ fr' 5 = .i .i64 x6 ∧ fr' 6 = .i .i64 x7) ?_ ?_
    · clear hp; rcases if_some hv₃ with ⟨b₆, hp⟩ | ⟨b₆, hp⟩
      · skip
        refine WO_on rfl b₆ ?_
        refine WO_v (a_mv (v := v₁₀) g₄_3) ?_
        refine WO_on rfl b₆ ?_
        obtain ⟨c₃, hp⟩ := ck_some hp
        refine WO_v (a_ixa (E := e_T_api_Point) (z := 2) (hO₉.sl 12 rfl : Sl e_T_api_Point k₉ v₁₀ x3) rfl rfl c₃) ?_
        refine WO_on rfl b₆ ?_
        refine WO_v (a_ldA (E := e_T_api_Point) (hO₉.sl 12 rfl : Sl e_T_api_Point k₉ v₁₀ x3) rfl (toNat_lt c₃)) ?_
        refine WO_on rfl b₆ ?_
        refine WO_v (a_build (cs := e_T_api_Point.c (⟨5, 2⟩ : T_api_Point)) (by rw [(ev_cons (v := .i .i64 5) rfl (ev_cons (v := .i .i64 2) rfl ev_nil))]; rfl)) ?_
        refine WO_on rfl b₆ ?_
        refine WO_v (a_eqA (as := e_T_api_Point.c (gi x3 (2 : Int).toNat)) (bs := e_T_api_Point.c (⟨5, 2⟩ : T_api_Point)) rfl rfl (Mu.e_T_api_Point.same _ _)) ?_
        refine WO_v (a_pickT (t := ((decide (x4 = 0)) && (decide ((x3.length : Int) = 4)))) (v := .b t2) rfl b₆ (Eq.trans (b := V.b (decide (gi x3 (2 : Int).toNat = (⟨5, 2⟩ : T_api_Point)))) rfl (congrArg V.b (Option.some.inj hp)))) ?_
        refine WO_end ?_
        exact ⟨rfl, rfl, g₄_5, g₄_6⟩
      · skip
        refine WO_off rfl b₆ ?_
        refine WO_off rfl b₆ ?_
        refine WO_off rfl b₆ ?_
        refine WO_off rfl b₆ ?_
        refine WO_off rfl b₆ ?_
        refine WO_v (a_pickF (t := ((decide (x4 = 0)) && (decide ((x3.length : Int) = 4)))) (v := .b t2) rfl b₆ (Eq.trans (b := V.b false) rfl (congrArg V.b (Option.some.inj hp)))) ?_
        refine WO_end ?_
        exact ⟨rfl, rfl, g₄_5, g₄_6⟩
    rintro frg₅ _ ⟨rfl, g₅_63, g₅_5, g₅_6⟩
    refine WO_v (a_mv (v := .b t2) g₅_63) ?_
    refine WO_cut 3 (fun fr' k' => k₉ = k' ∧ fr' 67 = .b (t2 && (decide (x6 = 12))) ∧ fr' 6 = .i .i64 x7) ?_ ?_
    · rcases bc t2 with b₇ | b₇
      · skip
        refine WO_on rfl b₇ ?_
        refine WO_v (a_mv (v := .i .i64 x6) g₅_5) ?_
        refine WO_on rfl b₇ ?_
        refine WO_v (a_eqI (a := x6) (b := 12) rfl rfl) ?_
        refine WO_v (a_pickT (t := t2) (v := .b (t2 && (decide (x6 = 12)))) rfl b₇ (Eq.trans (b := V.b (decide (x6 = 12))) rfl (and_on b₇))) ?_
        refine WO_end ?_
        exact ⟨rfl, rfl, g₅_6⟩
      · skip
        refine WO_off rfl b₇ ?_
        refine WO_off rfl b₇ ?_
        refine WO_v (a_pickF (t := t2) (v := .b (t2 && (decide (x6 = 12)))) rfl b₇ (Eq.trans (b := V.b false) rfl (and_off b₇))) ?_
        refine WO_end ?_
        exact ⟨rfl, rfl, g₅_6⟩
    rintro frg₆ _ ⟨rfl, g₆_67, g₆_6⟩
    refine WO_v (a_mv (v := .b (t2 && (decide (x6 = 12)))) g₆_67) ?_
    refine WO_cut 3 (fun fr' k' => k₉ = k' ∧ fr' 71 = .b ((t2 && (decide (x6 = 12))) && (decide (x7 = 0)))) ?_ ?_
    · rcases bc (t2 && (decide (x6 = 12))) with b₈ | b₈
      · skip
        refine WO_on rfl b₈ ?_
        refine WO_v (a_mv (v := .i .i64 x7) g₆_6) ?_
        refine WO_on rfl b₈ ?_
        refine WO_v (a_eqI (a := x7) (b := 0) rfl rfl) ?_
        refine WO_v (a_pickT (t := (t2 && (decide (x6 = 12)))) (v := .b ((t2 && (decide (x6 = 12))) && (decide (x7 = 0)))) rfl b₈ (Eq.trans (b := V.b (decide (x7 = 0))) rfl (and_on b₈))) ?_
        refine WO_end ?_
        exact ⟨rfl, rfl⟩
      · skip
        refine WO_off rfl b₈ ?_
        refine WO_off rfl b₈ ?_
        refine WO_v (a_pickF (t := (t2 && (decide (x6 = 12)))) (v := .b ((t2 && (decide (x6 = 12))) && (decide (x7 = 0)))) rfl b₈ (Eq.trans (b := V.b false) rfl (and_off b₈))) ?_
        refine WO_end ?_
        exact ⟨rfl, rfl⟩
    rintro frg₇ _ ⟨rfl, g₇_71⟩
    refine WO_v (a_mv (v := .b ((t2 && (decide (x6 = 12))) && (decide (x7 = 0)))) g₇_71) ?_
    refine WO_end ?_
    refine then_n ?_
    refine W_rt ?_
    refine Ret_r (rs_t (n := 0) (v := .b ((t2 && (decide (x6 = 12))) && (decide (x7 = 0)))) rfl rs_nil) ?_
    have hp := Option.some.inj hp; subst hp
    exact (And.intro rfl (hO₉.pick [] rfl (by decide)))

theorem p_muntinref17_Graph.ok {h : Hp} {l : List T_api_Cell} {d : Int} {of : List Int} {v_l : V} {v_of : V} (s_l : Sl e_T_api_Cell h v_l l) (s_of : Sl eInt h v_of of) {r : (List T_api_Arc)} (hp : p_muntinref17_Graph l d of = some r) :
    ∃ u k', Is G 167 [v_l, .i .i64 d, v_of] h u k' ∧ ∃ (v₁ : V), v₁ = u ∧ Own (fun r => r < h.n) h k' [eSl e_T_api_Arc v₁ r] := by
  refine WC.is (WC_of G_F_muntinref17_Graph ?_)
  unfold p_muntinref17_Graph at hp
  let B : Nat → Prop := (fun r => r < h.n)
  have hO : Own B h h [] := Own.start0 h
  refine W_sq ?_
  refine W_rg ?_
  refine WO_v (a_mv (v := .sn) rfl) ?_
  refine WO_end ?_
  refine then_n ?_
  refine W_sq ?_
  refine W_rg ?_
  refine WO_v (a_mv (v := .sn) rfl) ?_
  refine WO_end ?_
  refine then_n ?_
  refine W_sq ?_
  refine W_sq ?_
  refine W_rg ?_
  refine WO_v (a_mv (v := .i .i64 0) rfl) ?_
  refine WO_end ?_
  refine then_n ?_
  refine W_bl ?_
  obtain ⟨o₁, ho₁, hp⟩ := bd_some hp
  refine W.mono (Q := fun e fr k => match (generalizing := false) o₁ with
      | out1 => e = (.exit 0) ∧ ∃ (v₃ : V), fr 7 = v₃ ∧ Own B h k [eSl e_T_api_Arc v₃ out1]) ?_ ?_
  · clear hp
    have hO₂ : Own B h h [eSl e_T_api_Arc .sn ([] : List T_api_Arc)] := hO.nil e_T_api_Arc
    refine W_loopF (fun st fr k => match st with | (out, v) => ∃ (v₂ : V), fr 0 = v_l ∧ fr 1 = .i .i64 d ∧ fr 2 = v_of ∧ fr 7 = v₂ ∧ fr 8 = .i .i64 v ∧ Own B h k [eSl e_T_api_Arc v₂ out]) ho₁ (s := (([] : List T_api_Arc), 0)) (Exists.intro V.sn (And.intro (rfl) (And.intro (rfl) (And.intro (rfl) (And.intro (rfl) (And.intro (rfl) (hO₂.pick [0] rfl (by decide)))))))) ?_
    rintro ⟨out, v⟩ q₂ k₂ ⟨v₂, q₂_0, q₂_1, q₂_2, q₂_7, q₂_8, hO₃⟩ o₂ hp
    dsimp only [p_muntinref17_Graph.s0] at hp
    refine W_sq ?_
    refine W_sq ?_
    refine W_rg ?_
    refine WO_v (a_mv (v := .i .i64 v) q₂_8) ?_
    refine WO_v (a_mv (v := v_l) q₂_0) ?_
    refine WO_v (a_len (hO₃.rd0 s_l.rd : Sl e_T_api_Cell k₂ v_l l) rfl) ?_
    refine WO_v (a_lss (a := v) (b := (l.length : Int)) rfl rfl) ?_
    refine WO_end ?_
    refine then_n ?_
    rcases if_some hp with ⟨b₁, hp⟩ | ⟨b₁, hp⟩
    · refine W_cT (t := (decide (v < (l.length : Int)))) rfl b₁ ?_
      refine W_sk ?_
      refine then_n ?_
      refine W_sq ?_
      refine W_bl ?_
      refine W_sq ?_
      refine W_rg ?_
      refine WO_v (a_mv (v := v_l) q₂_0) ?_
      refine WO_v (a_mv (v := .i .i64 v) q₂_8) ?_
      refine WO_v (a_mv (v := .i .i64 d) q₂_1) ?_
      obtain ⟨c₁, hp⟩ := ck_some hp
      refine WO_v (a_ixa (E := e_T_api_Cell) (z := v) (hO₃.rd0 s_l.rd : Sl e_T_api_Cell k₂ v_l l) rfl rfl c₁) ?_
      refine WO_v (a_faE (off' := 0) (off2 := 0) (hO₃.rd0 s_l.rd : Sl e_T_api_Cell k₂ v_l l) (toNat_lt c₁) rfl rfl) ?_
      obtain ⟨c₂, hp⟩ := ck_some hp
      refine WO_v (a_ixaaE (off := 0) (off2 := (0 + (d : Int).toNat * 1)) (z := d) (hO₃.rd0 s_l.rd : Sl e_T_api_Cell k₂ v_l l) (toNat_lt c₁) rfl rfl c₂ rfl) ?_
      refine WO_v (a_ldE (w := .i .i64 (((gi l (v : Int).toNat).Next).get d)) (hO₃.rd0 s_l.rd : Sl e_T_api_Cell k₂ v_l l) rfl (toNat_lt c₁) (ld_T_api_Cell_Next c₂)) ?_
      refine WO_v (a_mv (v := .i .i64 (((gi l (v : Int).toNat).Next).get d)) rfl) ?_
      refine WO_end ?_
      refine then_n ?_
      refine W_sq ?_
      refine W_sq ?_
      refine W_rg ?_
      refine WO_v (a_mv (v := .i .i64 (((gi l (v : Int).toNat).Next).get d)) rfl) ?_
      refine WO_v (a_lss (a := (((gi l (v : Int).toNat).Next).get d)) (b := 0) rfl rfl) ?_
      refine WO_end ?_
      refine then_n ?_
      rcases if_some hp with ⟨b₂, hp⟩ | ⟨b₂, hp⟩
      · refine W_cT (t := (decide ((((gi l (v : Int).toNat).Next).get d) < 0))) rfl b₂ ?_
        refine W_ex ?_
        refine then_e ?_
        refine blk_i ?_
        refine then_n ?_
        refine W_rg ?_
        refine WO_v (a_mv (v := .i .i64 v) q₂_8) ?_
        obtain ⟨c₃, hp⟩ := ck_some hp
        refine WO_v (a_add (a := v) (b := 1) rfl rfl c₃) ?_
        refine WO_v (a_mv (v := .i .i64 (v + 1)) rfl) ?_
        refine WO_end ?_
        have hp := Option.some.inj hp; subst hp
        exact (Or.inl (Exists.intro (out, v + 1) (And.intro rfl (And.intro rfl (Exists.intro v₂ (And.intro (q₂_0) (And.intro (q₂_1) (And.intro (q₂_2) (And.intro (q₂_7) (And.intro (rfl) (hO₃.pick [0] rfl (by decide))))))))))))
      · refine W_cF (t := (decide ((((gi l (v : Int).toNat).Next).get d) < 0))) rfl b₂ ?_
        refine W_sk ?_
        refine then_n ?_
        refine W_sq ?_
        refine W_dr ?_
        have hW := hO₃.bump 11
        have fr₁ := Fresh.start k₂ 11
        have nb₁ : ∀ {i : Nat}, h.n ≤ k₂.n + i := Nat.le_trans hO₃.n (Nat.le_add_right _ _)
        have hO₄ : Own B h (k₂.bump 11) [eSl e_T_api_Arc v₂ out] := hW
        refine WD_v (a_mv (v := v_of) q₂_2) ?_
        refine WD_v (a_mv (v := .i .i64 v) q₂_8) ?_
        obtain ⟨c₄, hp⟩ := ck_some hp
        refine WD_v (a_ixa (E := eInt) (z := v) (hO₄.rd0 s_of.rd : Sl eInt (k₂.bump 11) v_of of) rfl rfl c₄) ?_
        refine WD_v (a_ldE (w := .i .i64 (gi of (v : Int).toNat)) (hO₄.rd0 s_of.rd : Sl eInt (k₂.bump 11) v_of of) rfl (toNat_lt c₄) rfl) ?_
        refine WD_v (a_mv (v := v_of) q₂_2) ?_
        refine WD_v (a_mv (v := .i .i64 (((gi l (v : Int).toNat).Next).get d)) rfl) ?_
        obtain ⟨c₅, hp⟩ := ck_some hp
        refine WD_v (a_ixa (E := eInt) (z := (((gi l (v : Int).toNat).Next).get d)) (hO₄.rd0 s_of.rd : Sl eInt (k₂.bump 11) v_of of) rfl rfl c₅) ?_
        refine WD_v (a_ldE (w := .i .i64 (gi of (((gi l (v : Int).toNat).Next).get d : Int).toNat)) (hO₄.rd0 s_of.rd : Sl eInt (k₂.bump 11) v_of of) rfl (toNat_lt c₅) rfl) ?_
        refine WD_v (a_build (cs := e_T_api_Arc.c (⟨gi of (v : Int).toNat, gi of (((gi l (v : Int).toNat).Next).get d : Int).toNat, (0 : Int)⟩ : T_api_Arc)) (by rw [(ev_cons (v := .i .i64 (gi of (v : Int).toNat)) rfl (ev_cons (v := .i .i64 (gi of (((gi l (v : Int).toNat).Next).get d : Int).toNat)) rfl ev_nil))]; rfl)) ?_
        refine WD_x (hO₄.alloc (cs := e_T_api_Arc.c (⟨0, 0, 0⟩ : T_api_Arc)) ⟨fr₁.m 9 (by decide) (by decide), nb₁⟩) ?_
        rintro _ k₄ z₁ ⟨r₁, rfl, n₁, f₁, hW⟩
        have fr₂ := fr₁.kept f₁ (by decide)
        have hO₅ : Own B h k₄ [eSl e_T_api_Arc v₂ out, eBox r₁ (e_T_api_Arc.c (⟨0, 0, 0⟩ : T_api_Arc))] := hW
        refine WD_x (hO₅.stb (ws := e_T_api_Arc.c (⟨gi of (v : Int).toNat, gi of (((gi l (v : Int).toNat).Next).get d : Int).toNat, (0 : Int)⟩ : T_api_Arc)) (cs' := e_T_api_Arc.c (⟨gi of (v : Int).toNat, gi of (((gi l (v : Int).toNat).Next).get d : Int).toNat, (0 : Int)⟩ : T_api_Arc)) (v := .ag (e_T_api_Arc.c (⟨gi of (v : Int).toNat, gi of (((gi l (v : Int).toNat).Next).get d : Int).toNat, (0 : Int)⟩ : T_api_Arc))) 1 rfl rfl rfl rfl ⟨rfl, Nat.le_of_ble_eq_true rfl, rfl⟩ rfl) ?_
        rintro _ k₅ z₂ ⟨rfl, f₂, m₁, hW⟩
        have fr₃ := fr₂.kept f₂ (by decide)
        have hO₆ : Own B h k₅ [eSl e_T_api_Arc v₂ out, eBox r₁ (e_T_api_Arc.c (⟨gi of (v : Int).toNat, gi of (((gi l (v : Int).toNat).Next).get d : Int).toNat, (0 : Int)⟩ : T_api_Arc))] := hW
        refine WD_end ?_
        refine And.intro ?_ ?_
        · intro q hq
          simp only [List.mem_cons, List.not_mem_nil, or_false] at hq
          rcases hq with rfl | rfl | rfl
          · refine ap_ll ?_ ?_
            · exact (fun h => nomatch h)
            · exact (fun h => nomatch h)
          · refine ap_ll ?_ ?_
            · exact (fun h => nomatch h)
            · exact (fun _ hm => Nat.lt_irrefl _ (Nat.lt_of_lt_of_le (Nat.lt_of_lt_of_le (hO₃.lo _ (Rd.B s_of.rd hO₃.lo (toNat_lt c₄) _ (refs_elt (tch (v := V.elt v_of (v : Int).toNat 0) (ld_el hm) rfl)))) hO₃.n) (Nat.le_add_right _ _)))
          · refine ap_ll ?_ ?_
            · exact (fun h => nomatch h)
            · exact (fun _ hm => Nat.lt_irrefl _ (Nat.lt_of_lt_of_le (Nat.lt_of_lt_of_le (hO₃.lo _ (Rd.B s_of.rd hO₃.lo (toNat_lt c₅) _ (refs_elt (tch (v := V.elt v_of (((gi l (v : Int).toNat).Next).get d : Int).toNat 0) (ld_el hm) rfl)))) hO₃.n) (Nat.le_add_right _ _)))
        refine then_n ?_
        refine W_sq ?_
        refine W_sq ?_
        refine W_rg ?_
        refine WO_v (a_mv (v := v_l) q₂_0) ?_
        refine WO_v (a_mv (v := .i .i64 v) q₂_8) ?_
        refine WO_v (a_mv (v := .i .i64 d) q₂_1) ?_
        refine WO_v (a_ixa (E := e_T_api_Cell) (z := v) (hO₆.rd0 s_l.rd : Sl e_T_api_Cell k₅ v_l l) rfl rfl c₁) ?_
        refine WO_v (a_faE (off' := 0) (off2 := 4) (hO₆.rd0 s_l.rd : Sl e_T_api_Cell k₅ v_l l) (toNat_lt c₁) rfl rfl) ?_
        refine WO_v (a_ixaaE (off := 4) (off2 := (4 + (d : Int).toNat * 1)) (z := d) (hO₆.rd0 s_l.rd : Sl e_T_api_Cell k₅ v_l l) (toNat_lt c₁) rfl rfl c₂ rfl) ?_
        refine WO_v (a_ldE (w := .i .i64 (((gi l (v : Int).toNat).Owner).get d)) (hO₆.rd0 s_l.rd : Sl e_T_api_Cell k₅ v_l l) rfl (toNat_lt c₁) (ld_T_api_Cell_Owner c₂)) ?_
        refine WO_v (a_geq (a := (((gi l (v : Int).toNat).Owner).get d)) (b := 0) rfl rfl) ?_
        refine WO_end ?_
        refine then_n ?_
        rcases if_some hp with ⟨b₃, hp⟩ | ⟨b₃, hp⟩
        · refine W_cT (t := (decide (0 ≤ (((gi l (v : Int).toNat).Owner).get d)))) rfl b₃ ?_
          refine W_rg ?_
          refine WO_v (a_fa (r := r₁) (o := 0) (o' := 2) rfl rfl) ?_
          refine WO_x (hO₆.stb (ws := [.i .i64 1]) (cs' := e_T_api_Arc.c ({ (⟨gi of (v : Int).toNat, gi of (((gi l (v : Int).toNat).Next).get d : Int).toNat, (0 : Int)⟩ : T_api_Arc) with Weight := 1 })) (v := .i .i64 1) 1 rfl rfl rfl rfl ⟨rfl, Nat.le_of_ble_eq_true rfl, rfl⟩ rfl) ?_
          rintro _ k₆ ⟨rfl, f₃, m₂, hW⟩
          have hO₇ : Own B h k₆ [eSl e_T_api_Arc v₂ out, eBox r₁ (e_T_api_Arc.c ({ (⟨gi of (v : Int).toNat, gi of (((gi l (v : Int).toNat).Next).get d : Int).toNat, (0 : Int)⟩ : T_api_Arc) with Weight := 1 }))] := hW
          refine WO_end ?_
          refine then_n ?_
          refine W_rg ?_
          refine WO_v (a_mv (v := v₂) q₂_7) ?_
          refine WO_v (a_ldbA (cs := (e_T_api_Arc.c ({ (⟨gi of (v : Int).toNat, gi of (((gi l (v : Int).toNat).Next).get d : Int).toNat, (0 : Int)⟩ : T_api_Arc) with Weight := 1 }))) (ws := e_T_api_Arc.c ({ (⟨gi of (v : Int).toNat, gi of (((gi l (v : Int).toNat).Next).get d : Int).toNat, (0 : Int)⟩ : T_api_Arc) with Weight := 1 })) (hO₇.box 1 rfl) rfl rfl) ?_
          refine WO_x (hO₇.bsl (E := e_T_api_Arc) (l := [{ (⟨gi of (v : Int).toNat, gi of (((gi l (v : Int).toNat).Next).get d : Int).toNat, (0 : Int)⟩ : T_api_Arc) with Weight := 1 }]) hO₇.fr (by rw [(ev_cons (v := .ag (e_T_api_Arc.c ({ (⟨gi of (v : Int).toNat, gi of (((gi l (v : Int).toNat).Next).get d : Int).toNat, (0 : Int)⟩ : T_api_Arc) with Weight := 1 }))) rfl ev_nil)]; rfl) rfl) ?_
          rintro v₄ k₇ ⟨r₂, f₄, hW⟩
          have hO₈ : Own B h k₇ [eSl e_T_api_Arc v₂ out, eBox r₁ (e_T_api_Arc.c ({ (⟨gi of (v : Int).toNat, gi of (((gi l (v : Int).toNat).Next).get d : Int).toNat, (0 : Int)⟩ : T_api_Arc) with Weight := 1 })), eSl e_T_api_Arc v₄ [{ (⟨gi of (v : Int).toNat, gi of (((gi l (v : Int).toNat).Next).get d : Int).toNat, (0 : Int)⟩ : T_api_Arc) with Weight := 1 }]] := hW
          obtain ⟨c₆, hp⟩ := ck_some hp
          refine WO_x (hO₈.app (E := e_T_api_Arc) (bytes := 24) 0 hO₈.fr rfl (hO₈.sl 2 rfl : Sl e_T_api_Arc k₇ v₄ [{ (⟨gi of (v : Int).toNat, gi of (((gi l (v : Int).toNat).Next).get d : Int).toNat, (0 : Int)⟩ : T_api_Arc) with Weight := 1 }]) rfl rfl (fun _ => rfl) c₆ (by decide)) ?_
          rintro v₅ k₈ ⟨f₅, hW⟩
          have hO₉ : Own B h k₈ [eSl e_T_api_Arc v₅ (out ++ [{ (⟨gi of (v : Int).toNat, gi of (((gi l (v : Int).toNat).Next).get d : Int).toNat, (0 : Int)⟩ : T_api_Arc) with Weight := 1 }]), eBox r₁ (e_T_api_Arc.c ({ (⟨gi of (v : Int).toNat, gi of (((gi l (v : Int).toNat).Next).get d : Int).toNat, (0 : Int)⟩ : T_api_Arc) with Weight := 1 })), eSl e_T_api_Arc v₄ [{ (⟨gi of (v : Int).toNat, gi of (((gi l (v : Int).toNat).Next).get d : Int).toNat, (0 : Int)⟩ : T_api_Arc) with Weight := 1 }]] := hW
          refine WO_v (a_mv (v := v₅) rfl) ?_
          refine WO_end ?_
          refine blk_n ?_
          refine then_n ?_
          refine W_rg ?_
          refine WO_v (a_mv (v := .i .i64 v) q₂_8) ?_
          obtain ⟨c₇, hp⟩ := ck_some hp
          refine WO_v (a_add (a := v) (b := 1) rfl rfl c₇) ?_
          refine WO_v (a_mv (v := .i .i64 (v + 1)) rfl) ?_
          refine WO_end ?_
          have hp := Option.some.inj hp; subst hp
          exact (Or.inl (Exists.intro (out ++ [{ (⟨gi of (v : Int).toNat, gi of (((gi l (v : Int).toNat).Next).get d : Int).toNat, (0 : Int)⟩ : T_api_Arc) with Weight := 1 }], v + 1) (And.intro rfl (And.intro rfl (Exists.intro v₅ (And.intro (q₂_0) (And.intro (q₂_1) (And.intro (q₂_2) (And.intro (rfl) (And.intro (rfl) (hO₉.pick [0] rfl (by decide))))))))))))
        · refine W_cF (t := (decide (0 ≤ (((gi l (v : Int).toNat).Owner).get d)))) rfl b₃ ?_
          refine W_sk ?_
          refine then_n ?_
          refine W_rg ?_
          refine WO_v (a_mv (v := v₂) q₂_7) ?_
          refine WO_v (a_ldbA (cs := (e_T_api_Arc.c (⟨gi of (v : Int).toNat, gi of (((gi l (v : Int).toNat).Next).get d : Int).toNat, (0 : Int)⟩ : T_api_Arc))) (ws := e_T_api_Arc.c (⟨gi of (v : Int).toNat, gi of (((gi l (v : Int).toNat).Next).get d : Int).toNat, (0 : Int)⟩ : T_api_Arc)) (hO₆.box 1 rfl) rfl rfl) ?_
          refine WO_x (hO₆.bsl (E := e_T_api_Arc) (l := [(⟨gi of (v : Int).toNat, gi of (((gi l (v : Int).toNat).Next).get d : Int).toNat, (0 : Int)⟩ : T_api_Arc)]) hO₆.fr (by rw [(ev_cons (v := .ag (e_T_api_Arc.c (⟨gi of (v : Int).toNat, gi of (((gi l (v : Int).toNat).Next).get d : Int).toNat, (0 : Int)⟩ : T_api_Arc))) rfl ev_nil)]; rfl) rfl) ?_
          rintro v₆ k₉ ⟨r₃, f₆, hW⟩
          have hO₁₀ : Own B h k₉ [eSl e_T_api_Arc v₂ out, eBox r₁ (e_T_api_Arc.c (⟨gi of (v : Int).toNat, gi of (((gi l (v : Int).toNat).Next).get d : Int).toNat, (0 : Int)⟩ : T_api_Arc)), eSl e_T_api_Arc v₆ [(⟨gi of (v : Int).toNat, gi of (((gi l (v : Int).toNat).Next).get d : Int).toNat, (0 : Int)⟩ : T_api_Arc)]] := hW
          obtain ⟨c₈, hp⟩ := ck_some hp
          refine WO_x (hO₁₀.app (E := e_T_api_Arc) (bytes := 24) 0 hO₁₀.fr rfl (hO₁₀.sl 2 rfl : Sl e_T_api_Arc k₉ v₆ [(⟨gi of (v : Int).toNat, gi of (((gi l (v : Int).toNat).Next).get d : Int).toNat, (0 : Int)⟩ : T_api_Arc)]) rfl rfl (fun _ => rfl) c₈ (by decide)) ?_
          rintro v₇ k₁₀ ⟨f₇, hW⟩
          have hO₁₁ : Own B h k₁₀ [eSl e_T_api_Arc v₇ (out ++ [(⟨gi of (v : Int).toNat, gi of (((gi l (v : Int).toNat).Next).get d : Int).toNat, (0 : Int)⟩ : T_api_Arc)]), eBox r₁ (e_T_api_Arc.c (⟨gi of (v : Int).toNat, gi of (((gi l (v : Int).toNat).Next).get d : Int).toNat, (0 : Int)⟩ : T_api_Arc)), eSl e_T_api_Arc v₆ [(⟨gi of (v : Int).toNat, gi of (((gi l (v : Int).toNat).Next).get d : Int).toNat, (0 : Int)⟩ : T_api_Arc)]] := hW
          refine WO_v (a_mv (v := v₇) rfl) ?_
          refine WO_end ?_
          refine blk_n ?_
          refine then_n ?_
          refine W_rg ?_
          refine WO_v (a_mv (v := .i .i64 v) q₂_8) ?_
          obtain ⟨c₉, hp⟩ := ck_some hp
          refine WO_v (a_add (a := v) (b := 1) rfl rfl c₉) ?_
          refine WO_v (a_mv (v := .i .i64 (v + 1)) rfl) ?_
          refine WO_end ?_
          have hp := Option.some.inj hp; subst hp
          exact (Or.inl (Exists.intro (out ++ [(⟨gi of (v : Int).toNat, gi of (((gi l (v : Int).toNat).Next).get d : Int).toNat, (0 : Int)⟩ : T_api_Arc)], v + 1) (And.intro rfl (And.intro rfl (Exists.intro v₇ (And.intro (q₂_0) (And.intro (q₂_1) (And.intro (q₂_2) (And.intro (rfl) (And.intro (rfl) (hO₁₁.pick [0] rfl (by decide))))))))))))
    · refine W_cF (t := (decide (v < (l.length : Int)))) rfl b₁ ?_
      refine W_ex ?_
      refine then_e ?_
      have hp := Option.some.inj hp; subst hp
      refine (Or.inr (Exists.intro out (And.intro rfl (And.intro (fun h => nomatch h) (fun he => ?_)))))
      subst he; exact (And.intro rfl (Exists.intro v₂ (And.intro (q₂_7) (hO₃.pick [0] rfl (by decide)))))
  intro e₁ q₁ k₁ hJ₁
  obtain ⟨out1, rfl⟩ : ∃ x, x = o₁ := ⟨_, rfl⟩
  obtain ⟨rfl, v₃, q₁_7, hO₁⟩ := hJ₁
  refine blk_i ?_
  refine then_n ?_
  refine W_sq ?_
  refine W_rg ?_
  refine WO_v (a_mv (v := v₃) q₁_7) ?_
  refine WO_v (a_mv (v := v₃) rfl) ?_
  refine WO_end ?_
  refine then_n ?_
  refine W_rt ?_
  refine Ret_r (rs_t (n := 6) (v := v₃) rfl rs_nil) ?_
  have hp := Option.some.inj hp; subst hp
  exact (Exists.intro v₃ (And.intro rfl (hO₁.pick [0] rfl (by decide))))

theorem p_slices_Equal_api_Arc.ok {h : Hp} {s1 : List T_api_Arc} {s2 : List T_api_Arc} {v_s1 : V} {v_s2 : V} (s_s1 : Sl e_T_api_Arc h v_s1 s1) (s_s2 : Sl e_T_api_Arc h v_s2 s2) {r : Bool} (hp : p_slices_Equal_api_Arc s1 s2 = some r) :
    ∃ u k', Is G 166 [v_s1, v_s2] h u k' ∧ V.b r = u ∧ Own (fun r => r < h.n) h k' [] := by
  refine WC.is (WC_of G_F_slices_Equal_api_Arc ?_)
  unfold p_slices_Equal_api_Arc at hp
  let B : Nat → Prop := (fun r => r < h.n)
  have hO : Own B h h [] := Own.start0 h
  refine W_sq ?_
  refine W_rg ?_
  refine WO_v (a_mv (v := .b false) rfl) ?_
  refine WO_end ?_
  refine then_n ?_
  refine W_sq ?_
  refine W_sq ?_
  refine W_rg ?_
  refine WO_v (a_mv (v := v_s1) rfl) ?_
  refine WO_v (a_len (hO.rd0 s_s1.rd : Sl e_T_api_Arc h v_s1 s1) rfl) ?_
  refine WO_v (a_mv (v := v_s2) rfl) ?_
  refine WO_v (a_len (hO.rd0 s_s2.rd : Sl e_T_api_Arc h v_s2 s2) rfl) ?_
  refine WO_v (a_neI (a := (s1.length : Int)) (b := (s2.length : Int)) rfl rfl) ?_
  refine WO_end ?_
  refine then_n ?_
  rcases if_some hp with ⟨b₁, hp⟩ | ⟨b₁, hp⟩
  · refine W_cT (t := (!(decide ((s1.length : Int) = (s2.length : Int))))) rfl b₁ ?_
    refine W_sq ?_
    refine W_rg ?_
    refine WO_v (a_mv (v := .b false) rfl) ?_
    refine WO_end ?_
    refine then_n ?_
    refine W_rt ?_
    refine then_r ?_
    refine Ret_r (rs_t (n := 4) (v := .b false) rfl rs_nil) ?_
    have hp := Option.some.inj hp; subst hp
    exact (And.intro rfl (hO.pick [] rfl (by decide)))
  · refine W_cF (t := (!(decide ((s1.length : Int) = (s2.length : Int))))) rfl b₁ ?_
    refine W_sk ?_
    refine then_n ?_
    refine W_sq ?_
    refine W_sq ?_
    refine W_rg ?_
    refine WO_v (a_mv (v := v_s1) rfl) ?_
    refine WO_v (a_len (hO.rd0 s_s1.rd : Sl e_T_api_Arc h v_s1 s1) rfl) ?_
    refine WO_v (a_mv (v := .i .i64 0) rfl) ?_
    refine WO_end ?_
    refine then_n ?_
    refine W_bl ?_
    obtain ⟨o₁, ho₁, hp⟩ := bd_some hp
    refine W.mono (Q := fun e fr k => match (generalizing := false) o₁ with
        | .inl _ => e = (.exit 0) ∧ Own B h k []
        | .inr _ => e = .ret ∧ fr 4 = .b false ∧ Own B h k []) ?_ ?_
    · clear hp
      refine W_loopF (fun st fr k => match st with | x => fr 0 = v_s1 ∧ fr 1 = v_s2 ∧ fr 12 = .i .i64 (s1.length : Int) ∧ fr 13 = .i .i64 x ∧ Own B h k []) ho₁ (s := 0) (And.intro (rfl) (And.intro (rfl) (And.intro (rfl) (And.intro (rfl) (hO.pick [] rfl (by decide)))))) ?_
      rintro x q₂ k₂ ⟨q₂_0, q₂_1, q₂_12, q₂_13, hO₂⟩ o₂ hp
      dsimp only [p_slices_Equal_api_Arc.s0] at hp
      refine W_sq ?_
      refine W_rg ?_
      refine WO_v (a_lss (a := x) (b := (s1.length : Int)) q₂_13 q₂_12) ?_
      refine WO_end ?_
      refine then_n ?_
      refine W_sq ?_
      rcases if_some hp with ⟨b₂, hp⟩ | ⟨b₂, hp⟩
      · refine W_cT (t := (decide (x < (s1.length : Int)))) rfl b₂ ?_
        refine W_sk ?_
        refine then_n ?_
        refine W_sq ?_
        refine W_bl ?_
        refine W_sq ?_
        refine W_rg ?_
        refine WO_v (a_mv (v := .i .i64 x) q₂_13) ?_
        refine WO_v (a_mv (v := .i .i64 x) rfl) ?_
        refine WO_end ?_
        refine then_n ?_
        refine W_sq ?_
        refine W_qd ?_
        have hW := hO₂.bump 9
        have hO₃ : Own B h (k₂.bump 9) [] := hW
        refine WQ_v rfl (a_mv (v := v_s1) q₂_0) ?_
        refine WQ_v rfl (a_mv (v := .i .i64 x) rfl) ?_
        obtain ⟨c₁, hp⟩ := ck_some hp
        refine WQ_v rfl (a_ixa (E := e_T_api_Arc) (z := x) (hO₃.rd0 s_s1.rd : Sl e_T_api_Arc (k₂.bump 9) v_s1 s1) rfl rfl c₁) ?_
        refine WQ_v rfl (a_ldA (E := e_T_api_Arc) (hO₃.rd0 s_s1.rd : Sl e_T_api_Arc (k₂.bump 9) v_s1 s1) rfl (toNat_lt c₁)) ?_
        refine WQ_v rfl (a_mv (v := v_s2) q₂_1) ?_
        refine WQ_v rfl (a_mv (v := .i .i64 x) rfl) ?_
        obtain ⟨c₂, hp⟩ := ck_some hp
        refine WQ_v rfl (a_ixa (E := e_T_api_Arc) (z := x) (hO₃.rd0 s_s2.rd : Sl e_T_api_Arc (k₂.bump 9) v_s2 s2) rfl rfl c₂) ?_
        refine WQ_v rfl (a_ldA (E := e_T_api_Arc) (hO₃.rd0 s_s2.rd : Sl e_T_api_Arc (k₂.bump 9) v_s2 s2) rfl (toNat_lt c₂)) ?_
        refine WQ_v rfl (a_neA (as := e_T_api_Arc.c (gi s1 (x : Int).toNat)) (bs := e_T_api_Arc.c (gi s2 (x : Int).toNat)) rfl rfl (Mu.e_T_api_Arc.same _ _)) ?_
        refine WQ_end ?_
        refine then_n ?_
        rcases if_some hp with ⟨b₃, hp⟩ | ⟨b₃, hp⟩
        · refine W_cT (t := (!(decide (gi s1 (x : Int).toNat = gi s2 (x : Int).toNat)))) rfl b₃ ?_
          refine W_sq ?_
          refine W_rg ?_
          refine WO_v (a_mv (v := .b false) rfl) ?_
          refine WO_end ?_
          refine then_n ?_
          refine W_rt ?_
          refine blk_r ?_
          refine then_r ?_
          have hp := Option.some.inj hp; subst hp
          refine (Or.inr (Exists.intro (.inr ()) (And.intro rfl (And.intro (fun h => nomatch h) (fun he => ?_)))))
          subst he; exact (And.intro rfl (And.intro (rfl) (hO₃.pick [] rfl (by decide))))
        · refine W_cF (t := (!(decide (gi s1 (x : Int).toNat = gi s2 (x : Int).toNat)))) rfl b₃ ?_
          refine W_sk ?_
          refine blk_n ?_
          refine then_n ?_
          refine W_rg ?_
          obtain ⟨c₃, hp⟩ := ck_some hp
          refine WO_v (a_add (a := x) (b := 1) q₂_13 rfl c₃) ?_
          refine WO_v (a_mv (v := .i .i64 (x + 1)) rfl) ?_
          refine WO_end ?_
          have hp := Option.some.inj hp; subst hp
          exact (Or.inl (Exists.intro (x + 1) (And.intro rfl (And.intro rfl (And.intro (q₂_0) (And.intro (q₂_1) (And.intro (q₂_12) (And.intro (rfl) (hO₃.pick [] rfl (by decide))))))))))
      · refine W_cF (t := (decide (x < (s1.length : Int)))) rfl b₂ ?_
        refine W_ex ?_
        refine then_e ?_
        have hp := Option.some.inj hp; subst hp
        refine (Or.inr (Exists.intro (.inl ()) (And.intro rfl (And.intro (fun h => nomatch h) (fun he => ?_)))))
        subst he; exact (And.intro rfl (hO₂.pick [] rfl (by decide)))
    intro e₁ q₁ k₁ hJ₁
    rcases o₁ with _ | _
    · obtain ⟨rfl, hO₁⟩ := hJ₁
      refine blk_i ?_
      refine then_n ?_
      refine W_sq ?_
      refine W_rg ?_
      refine WO_v (a_mv (v := .b true) rfl) ?_
      refine WO_end ?_
      refine then_n ?_
      refine W_rt ?_
      refine Ret_r (rs_t (n := 4) (v := .b true) rfl rs_nil) ?_
      have hp := Option.some.inj hp; subst hp
      exact (And.intro rfl (hO₁.pick [] rfl (by decide)))
    · obtain ⟨rfl, q₁_4, hO₁⟩ := hJ₁
      refine blk_r ?_
      refine then_r ?_
      refine Ret_r (rs_t (n := 4) (v := .b false) q₁_4 rs_nil) ?_
      have hp := Option.some.inj hp; subst hp
      exact (And.intro rfl (hO₁.pick [] rfl (by decide)))

theorem p_slices_Equal_int.ok {h : Hp} {s1 : List Int} {s2 : List Int} {v_s1 : V} {v_s2 : V} (s_s1 : Sl eInt h v_s1 s1) (s_s2 : Sl eInt h v_s2 s2) {r : Bool} (hp : p_slices_Equal_int s1 s2 = some r) :
    ∃ u k', Is G 33 [v_s1, v_s2] h u k' ∧ V.b r = u ∧ Own (fun r => r < h.n) h k' [] := by
  refine WC.is (WC_of G_F_slices_Equal_int ?_)
  unfold p_slices_Equal_int at hp
  let B : Nat → Prop := (fun r => r < h.n)
  have hO : Own B h h [] := Own.start0 h
  refine W_sq ?_
  refine W_rg ?_
  refine WO_v (a_mv (v := .b false) rfl) ?_
  refine WO_end ?_
  refine then_n ?_
  refine W_sq ?_
  refine W_sq ?_
  refine W_rg ?_
  refine WO_v (a_mv (v := v_s1) rfl) ?_
  refine WO_v (a_len (hO.rd0 s_s1.rd : Sl eInt h v_s1 s1) rfl) ?_
  refine WO_v (a_mv (v := v_s2) rfl) ?_
  refine WO_v (a_len (hO.rd0 s_s2.rd : Sl eInt h v_s2 s2) rfl) ?_
  refine WO_v (a_neI (a := (s1.length : Int)) (b := (s2.length : Int)) rfl rfl) ?_
  refine WO_end ?_
  refine then_n ?_
  rcases if_some hp with ⟨b₁, hp⟩ | ⟨b₁, hp⟩
  · refine W_cT (t := (!(decide ((s1.length : Int) = (s2.length : Int))))) rfl b₁ ?_
    refine W_sq ?_
    refine W_rg ?_
    refine WO_v (a_mv (v := .b false) rfl) ?_
    refine WO_end ?_
    refine then_n ?_
    refine W_rt ?_
    refine then_r ?_
    refine Ret_r (rs_t (n := 4) (v := .b false) rfl rs_nil) ?_
    have hp := Option.some.inj hp; subst hp
    exact (And.intro rfl (hO.pick [] rfl (by decide)))
  · refine W_cF (t := (!(decide ((s1.length : Int) = (s2.length : Int))))) rfl b₁ ?_
    refine W_sk ?_
    refine then_n ?_
    refine W_sq ?_
    refine W_sq ?_
    refine W_rg ?_
    refine WO_v (a_mv (v := v_s1) rfl) ?_
    refine WO_v (a_len (hO.rd0 s_s1.rd : Sl eInt h v_s1 s1) rfl) ?_
    refine WO_v (a_mv (v := .i .i64 0) rfl) ?_
    refine WO_end ?_
    refine then_n ?_
    refine W_bl ?_
    obtain ⟨o₁, ho₁, hp⟩ := bd_some hp
    refine W.mono (Q := fun e fr k => match (generalizing := false) o₁ with
        | .inl _ => e = (.exit 0) ∧ Own B h k []
        | .inr _ => e = .ret ∧ fr 4 = .b false ∧ Own B h k []) ?_ ?_
    · clear hp
      refine W_loopF (fun st fr k => match st with | x => fr 0 = v_s1 ∧ fr 1 = v_s2 ∧ fr 12 = .i .i64 (s1.length : Int) ∧ fr 13 = .i .i64 x ∧ Own B h k []) ho₁ (s := 0) (And.intro (rfl) (And.intro (rfl) (And.intro (rfl) (And.intro (rfl) (hO.pick [] rfl (by decide)))))) ?_
      rintro x q₂ k₂ ⟨q₂_0, q₂_1, q₂_12, q₂_13, hO₂⟩ o₂ hp
      dsimp only [p_slices_Equal_int.s0] at hp
      refine W_sq ?_
      refine W_rg ?_
      refine WO_v (a_lss (a := x) (b := (s1.length : Int)) q₂_13 q₂_12) ?_
      refine WO_end ?_
      refine then_n ?_
      refine W_sq ?_
      rcases if_some hp with ⟨b₂, hp⟩ | ⟨b₂, hp⟩
      · refine W_cT (t := (decide (x < (s1.length : Int)))) rfl b₂ ?_
        refine W_sk ?_
        refine then_n ?_
        refine W_sq ?_
        refine W_bl ?_
        refine W_sq ?_
        refine W_rg ?_
        refine WO_v (a_mv (v := .i .i64 x) q₂_13) ?_
        refine WO_v (a_mv (v := .i .i64 x) rfl) ?_
        refine WO_end ?_
        refine then_n ?_
        refine W_sq ?_
        refine W_qd ?_
        have hW := hO₂.bump 9
        have hO₃ : Own B h (k₂.bump 9) [] := hW
        refine WQ_v rfl (a_mv (v := v_s1) q₂_0) ?_
        refine WQ_v rfl (a_mv (v := .i .i64 x) rfl) ?_
        obtain ⟨c₁, hp⟩ := ck_some hp
        refine WQ_v rfl (a_ixa (E := eInt) (z := x) (hO₃.rd0 s_s1.rd : Sl eInt (k₂.bump 9) v_s1 s1) rfl rfl c₁) ?_
        refine WQ_v rfl (a_ldE (w := .i .i64 (gi s1 (x : Int).toNat)) (hO₃.rd0 s_s1.rd : Sl eInt (k₂.bump 9) v_s1 s1) rfl (toNat_lt c₁) rfl) ?_
        refine WQ_v rfl (a_mv (v := v_s2) q₂_1) ?_
        refine WQ_v rfl (a_mv (v := .i .i64 x) rfl) ?_
        obtain ⟨c₂, hp⟩ := ck_some hp
        refine WQ_v rfl (a_ixa (E := eInt) (z := x) (hO₃.rd0 s_s2.rd : Sl eInt (k₂.bump 9) v_s2 s2) rfl rfl c₂) ?_
        refine WQ_v rfl (a_ldE (w := .i .i64 (gi s2 (x : Int).toNat)) (hO₃.rd0 s_s2.rd : Sl eInt (k₂.bump 9) v_s2 s2) rfl (toNat_lt c₂) rfl) ?_
        refine WQ_v rfl (a_neI (a := (gi s1 (x : Int).toNat)) (b := (gi s2 (x : Int).toNat)) rfl rfl) ?_
        refine WQ_end ?_
        refine then_n ?_
        rcases if_some hp with ⟨b₃, hp⟩ | ⟨b₃, hp⟩
        · refine W_cT (t := (!(decide (gi s1 (x : Int).toNat = gi s2 (x : Int).toNat)))) rfl b₃ ?_
          refine W_sq ?_
          refine W_rg ?_
          refine WO_v (a_mv (v := .b false) rfl) ?_
          refine WO_end ?_
          refine then_n ?_
          refine W_rt ?_
          refine blk_r ?_
          refine then_r ?_
          have hp := Option.some.inj hp; subst hp
          refine (Or.inr (Exists.intro (.inr ()) (And.intro rfl (And.intro (fun h => nomatch h) (fun he => ?_)))))
          subst he; exact (And.intro rfl (And.intro (rfl) (hO₃.pick [] rfl (by decide))))
        · refine W_cF (t := (!(decide (gi s1 (x : Int).toNat = gi s2 (x : Int).toNat)))) rfl b₃ ?_
          refine W_sk ?_
          refine blk_n ?_
          refine then_n ?_
          refine W_rg ?_
          obtain ⟨c₃, hp⟩ := ck_some hp
          refine WO_v (a_add (a := x) (b := 1) q₂_13 rfl c₃) ?_
          refine WO_v (a_mv (v := .i .i64 (x + 1)) rfl) ?_
          refine WO_end ?_
          have hp := Option.some.inj hp; subst hp
          exact (Or.inl (Exists.intro (x + 1) (And.intro rfl (And.intro rfl (And.intro (q₂_0) (And.intro (q₂_1) (And.intro (q₂_12) (And.intro (rfl) (hO₃.pick [] rfl (by decide))))))))))
      · refine W_cF (t := (decide (x < (s1.length : Int)))) rfl b₂ ?_
        refine W_ex ?_
        refine then_e ?_
        have hp := Option.some.inj hp; subst hp
        refine (Or.inr (Exists.intro (.inl ()) (And.intro rfl (And.intro (fun h => nomatch h) (fun he => ?_)))))
        subst he; exact (And.intro rfl (hO₂.pick [] rfl (by decide)))
    intro e₁ q₁ k₁ hJ₁
    rcases o₁ with _ | _
    · obtain ⟨rfl, hO₁⟩ := hJ₁
      refine blk_i ?_
      refine then_n ?_
      refine W_sq ?_
      refine W_rg ?_
      refine WO_v (a_mv (v := .b true) rfl) ?_
      refine WO_end ?_
      refine then_n ?_
      refine W_rt ?_
      refine Ret_r (rs_t (n := 4) (v := .b true) rfl rs_nil) ?_
      have hp := Option.some.inj hp; subst hp
      exact (And.intro rfl (hO₁.pick [] rfl (by decide)))
    · obtain ⟨rfl, q₁_4, hO₁⟩ := hJ₁
      refine blk_r ?_
      refine then_r ?_
      refine Ret_r (rs_t (n := 4) (v := .b false) q₁_4 rs_nil) ?_
      have hp := Option.some.inj hp; subst hp
      exact (And.intro rfl (hO₁.pick [] rfl (by decide)))

theorem p_muntinref10_Check.ok {h : Hp} {l : List T_api_Cell} {v_l : V} (s_l : Sl e_T_api_Cell h v_l l) {r : Int} (hp : p_muntinref10_Check l = some r) :
    ∃ u k', Is G 34 [v_l] h u k' ∧ V.i .i64 r = u ∧ Own (fun r => r < h.n) h k' [] := by
  refine WC.is (WC_of G_F_muntinref10_Check ?_)
  unfold p_muntinref10_Check at hp
  let B : Nat → Prop := (fun r => r < h.n)
  have hO : Own B h h [] := Own.start0 h
  refine W_sq ?_
  refine W_rg ?_
  refine WO_v (a_mv (v := .i .i64 0) rfl) ?_
  refine WO_end ?_
  refine then_n ?_
  refine W_sq ?_
  refine W_sq ?_
  refine W_rg ?_
  refine WO_v (a_mv (v := v_l) rfl) ?_
  refine WO_v (a_len (hO.rd0 s_l.rd : Sl e_T_api_Cell h v_l l) rfl) ?_
  refine WO_v (a_gtr (a := (l.length : Int)) (b := 4096) rfl rfl) ?_
  refine WO_end ?_
  refine then_n ?_
  rcases if_some hp with ⟨b₁, hp⟩ | ⟨b₁, hp⟩
  · refine W_cT (t := (decide (4096 < (l.length : Int)))) rfl b₁ ?_
    refine W_sq ?_
    refine W_rg ?_
    refine WO_v (a_mv (v := .i .i64 6) rfl) ?_
    refine WO_end ?_
    refine then_n ?_
    refine W_rt ?_
    refine then_r ?_
    refine Ret_r (rs_t (n := 2) (v := .i .i64 6) rfl rs_nil) ?_
    have hp := Option.some.inj hp; subst hp
    exact (And.intro rfl (hO.pick [] rfl (by decide)))
  · refine W_cF (t := (decide (4096 < (l.length : Int)))) rfl b₁ ?_
    refine W_sk ?_
    refine then_n ?_
    refine W_sq ?_
    refine W_sq ?_
    refine W_rg ?_
    refine WO_v (a_mv (v := .i .i64 0) rfl) ?_
    refine WO_end ?_
    refine then_n ?_
    refine W_bl ?_
    obtain ⟨o₁, ho₁, hp⟩ := bd_some hp
    refine W.mono (Q := fun e fr k => match (generalizing := false) o₁ with
        | .inl _ => e = (.exit 0) ∧ Own B h k []
        | .inr x => e = .ret ∧ fr 2 = .i .i64 x ∧ Own B h k []) ?_ ?_
    · clear hp
      refine W_loopF (fun st fr k => match st with | v => fr 0 = v_l ∧ fr 3 = .i .i64 v ∧ Own B h k []) ho₁ (s := 0) (And.intro (rfl) (And.intro (rfl) (hO.pick [] rfl (by decide)))) ?_
      rintro v q₂ k₂ ⟨q₂_0, q₂_3, hO₂⟩ o₂ hp
      dsimp only [p_muntinref10_Check.s0] at hp
      refine W_sq ?_
      refine W_sq ?_
      refine W_rg ?_
      refine WO_v (a_mv (v := .i .i64 v) q₂_3) ?_
      refine WO_v (a_mv (v := v_l) q₂_0) ?_
      refine WO_v (a_len (hO₂.rd0 s_l.rd : Sl e_T_api_Cell k₂ v_l l) rfl) ?_
      refine WO_v (a_lss (a := v) (b := (l.length : Int)) rfl rfl) ?_
      refine WO_end ?_
      refine then_n ?_
      rcases if_some hp with ⟨b₂, hp⟩ | ⟨b₂, hp⟩
      · refine W_cT (t := (decide (v < (l.length : Int)))) rfl b₂ ?_
        refine W_sk ?_
        refine then_n ?_
        refine W_sq ?_
        refine W_bl ?_
        refine W_sq ?_
        refine W_rg ?_
        refine WO_v (a_mv (v := .i .i64 0) rfl) ?_
        refine WO_end ?_
        refine then_n ?_
        refine W_bl ?_
        obtain ⟨o₃, ho₂, hp⟩ := bd_some hp
        refine W.mono (Q := fun e fr k => match (generalizing := false) o₃ with
            | .inl _ => e = (.exit 2) ∧ fr 0 = v_l ∧ fr 3 = .i .i64 v ∧ Own B h k []
            | .inr x1 => e = .ret ∧ fr 2 = .i .i64 x1 ∧ Own B h k []) ?_ ?_
        · clear hp
          refine W_loopF (fun st fr k => match st with | d => fr 0 = v_l ∧ fr 3 = .i .i64 v ∧ fr 4 = .i .i64 d ∧ Own B h k []) ho₂ (s := 0) (And.intro (q₂_0) (And.intro (q₂_3) (And.intro (rfl) (hO₂.pick [] rfl (by decide))))) ?_
          rintro d q₄ k₄ ⟨q₄_0, q₄_3, q₄_4, hO₄⟩ o₄ hp
          dsimp only [p_muntinref10_Check.s1] at hp
          refine W_sq ?_
          refine W_sq ?_
          refine W_rg ?_
          refine WO_v (a_mv (v := .i .i64 d) q₄_4) ?_
          refine WO_v (a_lss (a := d) (b := 4) rfl rfl) ?_
          refine WO_end ?_
          refine then_n ?_
          rcases if_some hp with ⟨b₃, hp⟩ | ⟨b₃, hp⟩
          · refine W_cT (t := (decide (d < 4))) rfl b₃ ?_
            refine W_sk ?_
            refine then_n ?_
            refine W_sq ?_
            refine W_bl ?_
            refine W_sq ?_
            refine W_rg ?_
            refine WO_v (a_mv (v := v_l) q₄_0) ?_
            refine WO_v (a_mv (v := .i .i64 v) q₄_3) ?_
            refine WO_v (a_mv (v := .i .i64 d) q₄_4) ?_
            obtain ⟨c₁, hp⟩ := ck_some hp
            refine WO_v (a_ixa (E := e_T_api_Cell) (z := v) (hO₄.rd0 s_l.rd : Sl e_T_api_Cell k₄ v_l l) rfl rfl c₁) ?_
            refine WO_v (a_faE (off' := 0) (off2 := 0) (hO₄.rd0 s_l.rd : Sl e_T_api_Cell k₄ v_l l) (toNat_lt c₁) rfl rfl) ?_
            obtain ⟨c₂, hp⟩ := ck_some hp
            refine WO_v (a_ixaaE (off := 0) (off2 := (0 + (d : Int).toNat * 1)) (z := d) (hO₄.rd0 s_l.rd : Sl e_T_api_Cell k₄ v_l l) (toNat_lt c₁) rfl rfl c₂ rfl) ?_
            refine WO_v (a_ldE (w := .i .i64 (((gi l (v : Int).toNat).Next).get d)) (hO₄.rd0 s_l.rd : Sl e_T_api_Cell k₄ v_l l) rfl (toNat_lt c₁) (ld_T_api_Cell_Next c₂)) ?_
            refine WO_v (a_mv (v := .i .i64 (((gi l (v : Int).toNat).Next).get d)) rfl) ?_
            refine WO_end ?_
            refine then_n ?_
            refine W_sq ?_
            refine W_rg ?_
            refine WO_v (a_mv (v := v_l) q₄_0) ?_
            refine WO_v (a_mv (v := .i .i64 v) q₄_3) ?_
            refine WO_v (a_mv (v := .i .i64 d) q₄_4) ?_
            refine WO_v (a_ixa (E := e_T_api_Cell) (z := v) (hO₄.rd0 s_l.rd : Sl e_T_api_Cell k₄ v_l l) rfl rfl c₁) ?_
            refine WO_v (a_faE (off' := 0) (off2 := 4) (hO₄.rd0 s_l.rd : Sl e_T_api_Cell k₄ v_l l) (toNat_lt c₁) rfl rfl) ?_
            refine WO_v (a_ixaaE (off := 4) (off2 := (4 + (d : Int).toNat * 1)) (z := d) (hO₄.rd0 s_l.rd : Sl e_T_api_Cell k₄ v_l l) (toNat_lt c₁) rfl rfl c₂ rfl) ?_
            refine WO_v (a_ldE (w := .i .i64 (((gi l (v : Int).toNat).Owner).get d)) (hO₄.rd0 s_l.rd : Sl e_T_api_Cell k₄ v_l l) rfl (toNat_lt c₁) (ld_T_api_Cell_Owner c₂)) ?_
            refine WO_v (a_mv (v := .i .i64 (((gi l (v : Int).toNat).Owner).get d)) rfl) ?_
            refine WO_end ?_
            refine then_n ?_
            refine W_sq ?_
            refine W_sq ?_
            refine W_rg ?_
            refine WO_v (a_mv (v := .i .i64 (((gi l (v : Int).toNat).Next).get d)) rfl) ?_
            refine WO_v (a_eqI (a := (((gi l (v : Int).toNat).Next).get d)) (b := (-1)) rfl rfl) ?_
            refine WO_end ?_
            refine then_n ?_
            rcases if_some hp with ⟨b₄, hp⟩ | ⟨b₄, hp⟩
            · refine W_cT (t := (decide (((gi l (v : Int).toNat).Next).get d = (-1)))) rfl b₄ ?_
              refine W_sq ?_
              refine W_sq ?_
              refine W_rg ?_
              refine WO_v (a_mv (v := .i .i64 (((gi l (v : Int).toNat).Owner).get d)) rfl) ?_
              refine WO_v (a_neI (a := (((gi l (v : Int).toNat).Owner).get d)) (b := 0) rfl rfl) ?_
              refine WO_end ?_
              refine then_n ?_
              rcases if_some hp with ⟨b₅, hp⟩ | ⟨b₅, hp⟩
              · refine W_cT (t := (!(decide (((gi l (v : Int).toNat).Owner).get d = 0)))) rfl b₅ ?_
                refine W_sq ?_
                refine W_rg ?_
                refine WO_v (a_mv (v := .i .i64 9) rfl) ?_
                refine WO_end ?_
                refine then_n ?_
                refine W_rt ?_
                refine then_r ?_
                refine then_r ?_
                refine blk_r ?_
                refine then_r ?_
                have hp := Option.some.inj hp; subst hp
                refine (Or.inr (Exists.intro (.inr 9) (And.intro rfl (And.intro (fun h => nomatch h) (fun he => ?_)))))
                subst he; exact (And.intro rfl (And.intro (rfl) (hO₄.pick [] rfl (by decide))))
              · refine W_cF (t := (!(decide (((gi l (v : Int).toNat).Owner).get d = 0)))) rfl b₅ ?_
                refine W_sk ?_
                refine then_n ?_
                refine W_ex ?_
                refine then_e ?_
                refine blk_i ?_
                refine then_n ?_
                refine W_rg ?_
                refine WO_v (a_mv (v := .i .i64 d) q₄_4) ?_
                obtain ⟨c₃, hp⟩ := ck_some hp
                refine WO_v (a_add (a := d) (b := 1) rfl rfl c₃) ?_
                refine WO_v (a_mv (v := .i .i64 (d + 1)) rfl) ?_
                refine WO_end ?_
                have hp := Option.some.inj hp; subst hp
                exact (Or.inl (Exists.intro (d + 1) (And.intro rfl (And.intro rfl (And.intro (q₄_0) (And.intro (q₄_3) (And.intro (rfl) (hO₄.pick [] rfl (by decide)))))))))
            · refine W_cF (t := (decide (((gi l (v : Int).toNat).Next).get d = (-1)))) rfl b₄ ?_
              refine W_sk ?_
              refine then_n ?_
              refine W_sq ?_
              refine W_sq ?_
              refine W_rg ?_
              refine WO_v (a_mv (v := .i .i64 (((gi l (v : Int).toNat).Next).get d)) rfl) ?_
              refine WO_v (a_lss (a := (((gi l (v : Int).toNat).Next).get d)) (b := 0) rfl rfl) ?_
              refine WO_v (a_mv (v := .b (decide ((((gi l (v : Int).toNat).Next).get d) < 0))) rfl) ?_
              refine WO_cut 5 (fun fr' k' => k₄ = k' ∧ fr' 45 = .b ((decide ((((gi l (v : Int).toNat).Next).get d) < 0)) || (decide ((l.length : Int) ≤ (((gi l (v : Int).toNat).Next).get d)))) ∧ fr' 0 = v_l ∧ fr' 3 = .i .i64 v ∧ fr' 4 = .i .i64 d ∧ fr' 5 = .i .i64 (((gi l (v : Int).toNat).Next).get d) ∧ fr' 6 = .i .i64 (((gi l (v : Int).toNat).Owner).get d)) ?_ ?_
              · rcases bc (decide ((((gi l (v : Int).toNat).Next).get d) < 0)) with b₆ | b₆
                · skip
                  refine WO_off rfl b₆ ?_
                  refine WO_off rfl b₆ ?_
                  refine WO_off rfl b₆ ?_
                  refine WO_off rfl b₆ ?_
                  refine WO_v (a_pickT (t := (decide ((((gi l (v : Int).toNat).Next).get d) < 0))) (v := .b ((decide ((((gi l (v : Int).toNat).Next).get d) < 0)) || (decide ((l.length : Int) ≤ (((gi l (v : Int).toNat).Next).get d))))) rfl b₆ (Eq.trans (b := V.b true) rfl (or_off b₆))) ?_
                  refine WO_end ?_
                  exact ⟨rfl, rfl, q₄_0, q₄_3, q₄_4, rfl, rfl⟩
                · skip
                  refine WO_on rfl b₆ ?_
                  refine WO_v (a_mv (v := .i .i64 (((gi l (v : Int).toNat).Next).get d)) rfl) ?_
                  refine WO_on rfl b₆ ?_
                  refine WO_v (a_mv (v := v_l) q₄_0) ?_
                  refine WO_on rfl b₆ ?_
                  refine WO_v (a_len (hO₄.rd0 s_l.rd : Sl e_T_api_Cell k₄ v_l l) rfl) ?_
                  refine WO_on rfl b₆ ?_
                  refine WO_v (a_geq (a := (((gi l (v : Int).toNat).Next).get d)) (b := (l.length : Int)) rfl rfl) ?_
                  refine WO_v (a_pickF (t := (decide ((((gi l (v : Int).toNat).Next).get d) < 0))) (v := .b ((decide ((((gi l (v : Int).toNat).Next).get d) < 0)) || (decide ((l.length : Int) ≤ (((gi l (v : Int).toNat).Next).get d))))) rfl b₆ (Eq.trans (b := V.b (decide ((l.length : Int) ≤ (((gi l (v : Int).toNat).Next).get d)))) rfl (or_on b₆))) ?_
                  refine WO_end ?_
                  exact ⟨rfl, rfl, q₄_0, q₄_3, q₄_4, rfl, rfl⟩
              rintro frg₁ _ ⟨rfl, g₁_45, g₁_0, g₁_3, g₁_4, g₁_5, g₁_6⟩
              refine WO_v (a_mv (v := .b ((decide ((((gi l (v : Int).toNat).Next).get d) < 0)) || (decide ((l.length : Int) ≤ (((gi l (v : Int).toNat).Next).get d))))) g₁_45) ?_
              refine WO_cut 4 (fun fr' k' => k₄ = k' ∧ fr' 50 = .b (((decide ((((gi l (v : Int).toNat).Next).get d) < 0)) || (decide ((l.length : Int) ≤ (((gi l (v : Int).toNat).Next).get d)))) || (decide (((gi l (v : Int).toNat).Next).get d = v))) ∧ fr' 0 = v_l ∧ fr' 3 = .i .i64 v ∧ fr' 4 = .i .i64 d ∧ fr' 5 = .i .i64 (((gi l (v : Int).toNat).Next).get d) ∧ fr' 6 = .i .i64 (((gi l (v : Int).toNat).Owner).get d)) ?_ ?_
              · rcases bc ((decide ((((gi l (v : Int).toNat).Next).get d) < 0)) || (decide ((l.length : Int) ≤ (((gi l (v : Int).toNat).Next).get d)))) with b₇ | b₇
                · skip
                  refine WO_off rfl b₇ ?_
                  refine WO_off rfl b₇ ?_
                  refine WO_off rfl b₇ ?_
                  refine WO_v (a_pickT (t := ((decide ((((gi l (v : Int).toNat).Next).get d) < 0)) || (decide ((l.length : Int) ≤ (((gi l (v : Int).toNat).Next).get d))))) (v := .b (((decide ((((gi l (v : Int).toNat).Next).get d) < 0)) || (decide ((l.length : Int) ≤ (((gi l (v : Int).toNat).Next).get d)))) || (decide (((gi l (v : Int).toNat).Next).get d = v)))) rfl b₇ (Eq.trans (b := V.b true) rfl (or_off b₇))) ?_
                  refine WO_end ?_
                  exact ⟨rfl, rfl, g₁_0, g₁_3, g₁_4, g₁_5, g₁_6⟩
                · skip
                  refine WO_on rfl b₇ ?_
                  refine WO_v (a_mv (v := .i .i64 (((gi l (v : Int).toNat).Next).get d)) g₁_5) ?_
                  refine WO_on rfl b₇ ?_
                  refine WO_v (a_mv (v := .i .i64 v) g₁_3) ?_
                  refine WO_on rfl b₇ ?_
                  refine WO_v (a_eqI (a := (((gi l (v : Int).toNat).Next).get d)) (b := v) rfl rfl) ?_
                  refine WO_v (a_pickF (t := ((decide ((((gi l (v : Int).toNat).Next).get d) < 0)) || (decide ((l.length : Int) ≤ (((gi l (v : Int).toNat).Next).get d))))) (v := .b (((decide ((((gi l (v : Int).toNat).Next).get d) < 0)) || (decide ((l.length : Int) ≤ (((gi l (v : Int).toNat).Next).get d)))) || (decide (((gi l (v : Int).toNat).Next).get d = v)))) rfl b₇ (Eq.trans (b := V.b (decide (((gi l (v : Int).toNat).Next).get d = v))) rfl (or_on b₇))) ?_
                  refine WO_end ?_
                  exact ⟨rfl, rfl, g₁_0, g₁_3, g₁_4, g₁_5, g₁_6⟩
              rintro frg₂ _ ⟨rfl, g₂_50, g₂_0, g₂_3, g₂_4, g₂_5, g₂_6⟩
              refine WO_end ?_
              refine then_n ?_
              rcases if_some hp with ⟨b₈, hp⟩ | ⟨b₈, hp⟩
              · refine W_cT (t := (((decide ((((gi l (v : Int).toNat).Next).get d) < 0)) || (decide ((l.length : Int) ≤ (((gi l (v : Int).toNat).Next).get d)))) || (decide (((gi l (v : Int).toNat).Next).get d = v)))) g₂_50 b₈ ?_
                refine W_sq ?_
                refine W_rg ?_
                refine WO_v (a_mv (v := .i .i64 3) rfl) ?_
                refine WO_end ?_
                refine then_n ?_
                refine W_rt ?_
                refine then_r ?_
                refine blk_r ?_
                refine then_r ?_
                have hp := Option.some.inj hp; subst hp
                refine (Or.inr (Exists.intro (.inr 3) (And.intro rfl (And.intro (fun h => nomatch h) (fun he => ?_)))))
                subst he; exact (And.intro rfl (And.intro (rfl) (hO₄.pick [] rfl (by decide))))
              · refine W_cF (t := (((decide ((((gi l (v : Int).toNat).Next).get d) < 0)) || (decide ((l.length : Int) ≤ (((gi l (v : Int).toNat).Next).get d)))) || (decide (((gi l (v : Int).toNat).Next).get d = v)))) g₂_50 b₈ ?_
                refine W_sk ?_
                refine then_n ?_
                refine W_sq ?_
                refine W_rg ?_
                refine WO_v (a_mv (v := v_l) g₂_0) ?_
                refine WO_v (a_mv (v := .i .i64 (((gi l (v : Int).toNat).Next).get d)) g₂_5) ?_
                refine WO_v (a_mv (v := .i .i64 d) g₂_4) ?_
                obtain ⟨c₄, hp⟩ := ck_some hp
                refine WO_v (a_add (a := d) (b := 2) rfl rfl c₄) ?_
                refine WO_v (a_rem (a := (d + 2)) (b := 4) rfl rfl (by decide)) ?_
                obtain ⟨c₅, hp⟩ := ck_some hp
                refine WO_v (a_ixa (E := e_T_api_Cell) (z := (((gi l (v : Int).toNat).Next).get d)) (hO₄.rd0 s_l.rd : Sl e_T_api_Cell k₄ v_l l) rfl rfl c₅) ?_
                refine WO_v (a_faE (off' := 0) (off2 := 0) (hO₄.rd0 s_l.rd : Sl e_T_api_Cell k₄ v_l l) (toNat_lt c₅) rfl rfl) ?_
                obtain ⟨c₆, hp⟩ := ck_some hp
                refine WO_v (a_ixaaE (off := 0) (off2 := (0 + ((d + 2).tmod 4 : Int).toNat * 1)) (z := ((d + 2).tmod 4)) (hO₄.rd0 s_l.rd : Sl e_T_api_Cell k₄ v_l l) (toNat_lt c₅) rfl rfl c₆ rfl) ?_
                refine WO_v (a_ldE (w := .i .i64 (((gi l (((gi l (v : Int).toNat).Next).get d : Int).toNat).Next).get ((d + 2).tmod 4))) (hO₄.rd0 s_l.rd : Sl e_T_api_Cell k₄ v_l l) rfl (toNat_lt c₅) (ld_T_api_Cell_Next c₆)) ?_
                refine WO_v (a_mv (v := .i .i64 v) g₂_3) ?_
                refine WO_v (a_neI (a := (((gi l (((gi l (v : Int).toNat).Next).get d : Int).toNat).Next).get ((d + 2).tmod 4))) (b := v) rfl rfl) ?_
                refine WO_v (a_mv (v := .b (!(decide (((gi l (((gi l (v : Int).toNat).Next).get d : Int).toNat).Next).get ((d + 2).tmod 4) = v)))) rfl) ?_
                refine WO_cut 12 (fun fr' k' => k₄ = k' ∧ fr' 74 = .b ((!(decide (((gi l (((gi l (v : Int).toNat).Next).get d : Int).toNat).Next).get ((d + 2).tmod 4) = v))) || (!(decide (((gi l (((gi l (v : Int).toNat).Next).get d : Int).toNat).Owner).get ((d + 2).tmod 4) = ((gi l (v : Int).toNat).Owner).get d)))) ∧ fr' 0 = v_l ∧ fr' 3 = .i .i64 v ∧ fr' 4 = .i .i64 d ∧ fr' 6 = .i .i64 (((gi l (v : Int).toNat).Owner).get d)) ?_ ?_
                · rcases bc (!(decide (((gi l (((gi l (v : Int).toNat).Next).get d : Int).toNat).Next).get ((d + 2).tmod 4) = v))) with b₉ | b₉
                  · skip
                    refine WO_off rfl b₉ ?_
                    refine WO_off rfl b₉ ?_
                    refine WO_off rfl b₉ ?_
                    refine WO_off rfl b₉ ?_
                    refine WO_off rfl b₉ ?_
                    refine WO_off rfl b₉ ?_
                    refine WO_off rfl b₉ ?_
                    refine WO_off rfl b₉ ?_
                    refine WO_off rfl b₉ ?_
                    refine WO_off rfl b₉ ?_
                    refine WO_off rfl b₉ ?_
                    refine WO_v (a_pickT (t := (!(decide (((gi l (((gi l (v : Int).toNat).Next).get d : Int).toNat).Next).get ((d + 2).tmod 4) = v)))) (v := .b ((!(decide (((gi l (((gi l (v : Int).toNat).Next).get d : Int).toNat).Next).get ((d + 2).tmod 4) = v))) || (!(decide (((gi l (((gi l (v : Int).toNat).Next).get d : Int).toNat).Owner).get ((d + 2).tmod 4) = ((gi l (v : Int).toNat).Owner).get d))))) rfl b₉ (Eq.trans (b := V.b true) rfl (or_off b₉))) ?_
                    refine WO_end ?_
                    exact ⟨rfl, rfl, g₂_0, g₂_3, g₂_4, g₂_6⟩
                  · skip
                    refine WO_on rfl b₉ ?_
                    refine WO_v (a_mv (v := v_l) g₂_0) ?_
                    refine WO_on rfl b₉ ?_
                    refine WO_v (a_mv (v := .i .i64 (((gi l (v : Int).toNat).Next).get d)) g₂_5) ?_
                    refine WO_on rfl b₉ ?_
                    refine WO_v (a_mv (v := .i .i64 d) g₂_4) ?_
                    refine WO_on rfl b₉ ?_
                    refine WO_v (a_add (a := d) (b := 2) rfl rfl c₄) ?_
                    refine WO_on rfl b₉ ?_
                    refine WO_v (a_rem (a := (d + 2)) (b := 4) rfl rfl (by decide)) ?_
                    refine WO_on rfl b₉ ?_
                    refine WO_v (a_ixa (E := e_T_api_Cell) (z := (((gi l (v : Int).toNat).Next).get d)) (hO₄.rd0 s_l.rd : Sl e_T_api_Cell k₄ v_l l) rfl rfl c₅) ?_
                    refine WO_on rfl b₉ ?_
                    refine WO_v (a_faE (off' := 0) (off2 := 4) (hO₄.rd0 s_l.rd : Sl e_T_api_Cell k₄ v_l l) (toNat_lt c₅) rfl rfl) ?_
                    refine WO_on rfl b₉ ?_
                    refine WO_v (a_ixaaE (off := 4) (off2 := (4 + ((d + 2).tmod 4 : Int).toNat * 1)) (z := ((d + 2).tmod 4)) (hO₄.rd0 s_l.rd : Sl e_T_api_Cell k₄ v_l l) (toNat_lt c₅) rfl rfl c₆ rfl) ?_
                    refine WO_on rfl b₉ ?_
                    refine WO_v (a_ldE (w := .i .i64 (((gi l (((gi l (v : Int).toNat).Next).get d : Int).toNat).Owner).get ((d + 2).tmod 4))) (hO₄.rd0 s_l.rd : Sl e_T_api_Cell k₄ v_l l) rfl (toNat_lt c₅) (ld_T_api_Cell_Owner c₆)) ?_
                    refine WO_on rfl b₉ ?_
                    refine WO_v (a_mv (v := .i .i64 (((gi l (v : Int).toNat).Owner).get d)) g₂_6) ?_
                    refine WO_on rfl b₉ ?_
                    refine WO_v (a_neI (a := (((gi l (((gi l (v : Int).toNat).Next).get d : Int).toNat).Owner).get ((d + 2).tmod 4))) (b := (((gi l (v : Int).toNat).Owner).get d)) rfl rfl) ?_
                    refine WO_v (a_pickF (t := (!(decide (((gi l (((gi l (v : Int).toNat).Next).get d : Int).toNat).Next).get ((d + 2).tmod 4) = v)))) (v := .b ((!(decide (((gi l (((gi l (v : Int).toNat).Next).get d : Int).toNat).Next).get ((d + 2).tmod 4) = v))) || (!(decide (((gi l (((gi l (v : Int).toNat).Next).get d : Int).toNat).Owner).get ((d + 2).tmod 4) = ((gi l (v : Int).toNat).Owner).get d))))) rfl b₉ (Eq.trans (b := V.b (!(decide (((gi l (((gi l (v : Int).toNat).Next).get d : Int).toNat).Owner).get ((d + 2).tmod 4) = ((gi l (v : Int).toNat).Owner).get d)))) rfl (or_on b₉))) ?_
                    refine WO_end ?_
                    exact ⟨rfl, rfl, g₂_0, g₂_3, g₂_4, g₂_6⟩
                rintro frg₃ _ ⟨rfl, g₃_74, g₃_0, g₃_3, g₃_4, g₃_6⟩
                refine WO_v (a_mv (v := .b ((!(decide (((gi l (((gi l (v : Int).toNat).Next).get d : Int).toNat).Next).get ((d + 2).tmod 4) = v))) || (!(decide (((gi l (((gi l (v : Int).toNat).Next).get d : Int).toNat).Owner).get ((d + 2).tmod 4) = ((gi l (v : Int).toNat).Owner).get d))))) g₃_74) ?_
                refine WO_cut 3 (fun fr' k' => k₄ = k' ∧ fr' 78 = .b (((!(decide (((gi l (((gi l (v : Int).toNat).Next).get d : Int).toNat).Next).get ((d + 2).tmod 4) = v))) || (!(decide (((gi l (((gi l (v : Int).toNat).Next).get d : Int).toNat).Owner).get ((d + 2).tmod 4) = ((gi l (v : Int).toNat).Owner).get d)))) || (decide ((((gi l (v : Int).toNat).Owner).get d) < (-2)))) ∧ fr' 0 = v_l ∧ fr' 3 = .i .i64 v ∧ fr' 4 = .i .i64 d) ?_ ?_
                · rcases bc ((!(decide (((gi l (((gi l (v : Int).toNat).Next).get d : Int).toNat).Next).get ((d + 2).tmod 4) = v))) || (!(decide (((gi l (((gi l (v : Int).toNat).Next).get d : Int).toNat).Owner).get ((d + 2).tmod 4) = ((gi l (v : Int).toNat).Owner).get d)))) with b₁₀ | b₁₀
                  · skip
                    refine WO_off rfl b₁₀ ?_
                    refine WO_off rfl b₁₀ ?_
                    refine WO_v (a_pickT (t := ((!(decide (((gi l (((gi l (v : Int).toNat).Next).get d : Int).toNat).Next).get ((d + 2).tmod 4) = v))) || (!(decide (((gi l (((gi l (v : Int).toNat).Next).get d : Int).toNat).Owner).get ((d + 2).tmod 4) = ((gi l (v : Int).toNat).Owner).get d))))) (v := .b (((!(decide (((gi l (((gi l (v : Int).toNat).Next).get d : Int).toNat).Next).get ((d + 2).tmod 4) = v))) || (!(decide (((gi l (((gi l (v : Int).toNat).Next).get d : Int).toNat).Owner).get ((d + 2).tmod 4) = ((gi l (v : Int).toNat).Owner).get d)))) || (decide ((((gi l (v : Int).toNat).Owner).get d) < (-2))))) rfl b₁₀ (Eq.trans (b := V.b true) rfl (or_off b₁₀))) ?_
                    refine WO_end ?_
                    exact ⟨rfl, rfl, g₃_0, g₃_3, g₃_4⟩
                  · skip
                    refine WO_on rfl b₁₀ ?_
                    refine WO_v (a_mv (v := .i .i64 (((gi l (v : Int).toNat).Owner).get d)) g₃_6) ?_
                    refine WO_on rfl b₁₀ ?_
                    refine WO_v (a_lss (a := (((gi l (v : Int).toNat).Owner).get d)) (b := (-2)) rfl rfl) ?_
                    refine WO_v (a_pickF (t := ((!(decide (((gi l (((gi l (v : Int).toNat).Next).get d : Int).toNat).Next).get ((d + 2).tmod 4) = v))) || (!(decide (((gi l (((gi l (v : Int).toNat).Next).get d : Int).toNat).Owner).get ((d + 2).tmod 4) = ((gi l (v : Int).toNat).Owner).get d))))) (v := .b (((!(decide (((gi l (((gi l (v : Int).toNat).Next).get d : Int).toNat).Next).get ((d + 2).tmod 4) = v))) || (!(decide (((gi l (((gi l (v : Int).toNat).Next).get d : Int).toNat).Owner).get ((d + 2).tmod 4) = ((gi l (v : Int).toNat).Owner).get d)))) || (decide ((((gi l (v : Int).toNat).Owner).get d) < (-2))))) rfl b₁₀ (Eq.trans (b := V.b (decide ((((gi l (v : Int).toNat).Owner).get d) < (-2)))) rfl (or_on b₁₀))) ?_
                    refine WO_end ?_
                    exact ⟨rfl, rfl, g₃_0, g₃_3, g₃_4⟩
                rintro frg₄ _ ⟨rfl, g₄_78, g₄_0, g₄_3, g₄_4⟩
                refine WO_end ?_
                refine then_n ?_
                rcases if_some hp with ⟨b₁₁, hp⟩ | ⟨b₁₁, hp⟩
                · refine W_cT (t := (((!(decide (((gi l (((gi l (v : Int).toNat).Next).get d : Int).toNat).Next).get ((d + 2).tmod 4) = v))) || (!(decide (((gi l (((gi l (v : Int).toNat).Next).get d : Int).toNat).Owner).get ((d + 2).tmod 4) = ((gi l (v : Int).toNat).Owner).get d)))) || (decide ((((gi l (v : Int).toNat).Owner).get d) < (-2))))) g₄_78 b₁₁ ?_
                  refine W_sq ?_
                  refine W_rg ?_
                  refine WO_v (a_mv (v := .i .i64 9) rfl) ?_
                  refine WO_end ?_
                  refine then_n ?_
                  refine W_rt ?_
                  refine blk_r ?_
                  refine then_r ?_
                  have hp := Option.some.inj hp; subst hp
                  refine (Or.inr (Exists.intro (.inr 9) (And.intro rfl (And.intro (fun h => nomatch h) (fun he => ?_)))))
                  subst he; exact (And.intro rfl (And.intro (rfl) (hO₄.pick [] rfl (by decide))))
                · refine W_cF (t := (((!(decide (((gi l (((gi l (v : Int).toNat).Next).get d : Int).toNat).Next).get ((d + 2).tmod 4) = v))) || (!(decide (((gi l (((gi l (v : Int).toNat).Next).get d : Int).toNat).Owner).get ((d + 2).tmod 4) = ((gi l (v : Int).toNat).Owner).get d)))) || (decide ((((gi l (v : Int).toNat).Owner).get d) < (-2))))) g₄_78 b₁₁ ?_
                  refine W_sk ?_
                  refine blk_n ?_
                  refine then_n ?_
                  refine W_rg ?_
                  refine WO_v (a_mv (v := .i .i64 d) g₄_4) ?_
                  obtain ⟨c₇, hp⟩ := ck_some hp
                  refine WO_v (a_add (a := d) (b := 1) rfl rfl c₇) ?_
                  refine WO_v (a_mv (v := .i .i64 (d + 1)) rfl) ?_
                  refine WO_end ?_
                  have hp := Option.some.inj hp; subst hp
                  exact (Or.inl (Exists.intro (d + 1) (And.intro rfl (And.intro rfl (And.intro (g₄_0) (And.intro (g₄_3) (And.intro (rfl) (hO₄.pick [] rfl (by decide)))))))))
          · refine W_cF (t := (decide (d < 4))) rfl b₃ ?_
            refine W_ex ?_
            refine then_e ?_
            have hp := Option.some.inj hp; subst hp
            refine (Or.inr (Exists.intro (.inl ()) (And.intro rfl (And.intro (fun h => nomatch h) (fun he => ?_)))))
            subst he; exact (And.intro rfl (And.intro (q₄_0) (And.intro (q₄_3) (hO₄.pick [] rfl (by decide)))))
        intro e₂ q₃ k₃ hJ₂
        rcases o₃ with _ | x1
        · obtain ⟨rfl, q₃_0, q₃_3, hO₃⟩ := hJ₂
          refine blk_i ?_
          refine blk_n ?_
          refine then_n ?_
          refine W_rg ?_
          refine WO_v (a_mv (v := .i .i64 v) q₃_3) ?_
          obtain ⟨c₈, hp⟩ := ck_some hp
          refine WO_v (a_add (a := v) (b := 1) rfl rfl c₈) ?_
          refine WO_v (a_mv (v := .i .i64 (v + 1)) rfl) ?_
          refine WO_end ?_
          have hp := Option.some.inj hp; subst hp
          exact (Or.inl (Exists.intro (v + 1) (And.intro rfl (And.intro rfl (And.intro (q₃_0) (And.intro (rfl) (hO₃.pick [] rfl (by decide))))))))
        · obtain ⟨rfl, q₃_2, hO₃⟩ := hJ₂
          refine blk_r ?_
          refine blk_r ?_
          refine then_r ?_
          have hp := Option.some.inj hp; subst hp
          refine (Or.inr (Exists.intro (.inr x1) (And.intro rfl (And.intro (fun h => nomatch h) (fun he => ?_)))))
          subst he; exact (And.intro rfl (And.intro (q₃_2) (hO₃.pick [] rfl (by decide))))
      · refine W_cF (t := (decide (v < (l.length : Int)))) rfl b₂ ?_
        refine W_ex ?_
        refine then_e ?_
        have hp := Option.some.inj hp; subst hp
        refine (Or.inr (Exists.intro (.inl ()) (And.intro rfl (And.intro (fun h => nomatch h) (fun he => ?_)))))
        subst he; exact (And.intro rfl (hO₂.pick [] rfl (by decide)))
    intro e₁ q₁ k₁ hJ₁
    rcases o₁ with _ | x
    · obtain ⟨rfl, hO₁⟩ := hJ₁
      refine blk_i ?_
      refine then_n ?_
      refine W_sq ?_
      refine W_rg ?_
      refine WO_v (a_mv (v := .i .i64 0) rfl) ?_
      refine WO_end ?_
      refine then_n ?_
      refine W_rt ?_
      refine Ret_r (rs_t (n := 2) (v := .i .i64 0) rfl rs_nil) ?_
      have hp := Option.some.inj hp; subst hp
      exact (And.intro rfl (hO₁.pick [] rfl (by decide)))
    · obtain ⟨rfl, q₁_2, hO₁⟩ := hJ₁
      refine blk_r ?_
      refine then_r ?_
      refine Ret_r (rs_t (n := 2) (v := .i .i64 x) q₁_2 rs_nil) ?_
      have hp := Option.some.inj hp; subst hp
      exact (And.intro rfl (hO₁.pick [] rfl (by decide)))

theorem p_muntinlaw17_ArcsTell.ok {h : Hp} {z : T_muntinref10_Places} {raw : List T_api_Cell} {v_z_At : V} {v_z_Bits : V} {v_z_Own : V} {v_raw : V} (s_z_At : Sl e_u8 h v_z_At z.At) (s_z_Bits : Sl e_u8 h v_z_Bits z.Bits) (s_z_Own : Sl e_i8 h v_z_Own z.Own) (s_raw : Sl e_T_api_Cell h v_raw raw) {r : Bool} (hp : p_muntinlaw17_ArcsTell z raw = some r) :
    ∃ u k', Is G 153 [.ag [v_z_At, v_z_Bits, v_z_Own], v_raw] h u k' ∧ V.b r = u ∧ Own (fun r => r < h.n) h k' [] := by
  refine WC.is (WC_of G_F_muntinlaw17_ArcsTell ?_)
  unfold p_muntinlaw17_ArcsTell at hp
  let B : Nat → Prop := (fun r => r < h.n)
  have hO : Own B h h [] := Own.start0 h
  refine W_sq ?_
  refine W_rg ?_
  refine WO_x (hO.boxd (v := .ag [v_z_At, v_z_Bits, v_z_Own]) (cs := [v_z_At, v_z_Bits, v_z_Own]) hO.fr rfl rfl) ?_
  rintro _ k₁ ⟨r₁, rfl, n₁, f₁, hW⟩
  have hO₁ : Own B h k₁ [eBox r₁ [v_z_At, v_z_Bits, v_z_Own]] := hW
  refine WO_v (a_mv (v := .b false) rfl) ?_
  refine WO_end ?_
  refine then_n ?_
  refine W_sq ?_
  refine W_rg ?_
  refine WO_v (a_ldbA (cs := [v_z_At, v_z_Bits, v_z_Own]) (ws := [v_z_At, v_z_Bits, v_z_Own]) (hO₁.box 0 rfl) rfl rfl) ?_
  obtain ⟨⟨x, x1⟩, hx₁, hp⟩ := bd_some hp
  obtain ⟨u₁, k₂, ca₁, v₁, v₂, rfl, hW₁⟩ := p_muntinref10_Make.ok (h := k₁)  (hO₁.rd0 s_z_At.rd : Sl e_u8 k₁ v_z_At z.At) (hO₁.rd0 s_z_Bits.rd : Sl e_u8 k₁ v_z_Bits z.Bits) (hO₁.rd0 s_z_Own.rd : Sl e_i8 k₁ v_z_Own z.Own) hx₁
  refine WO_c (id := 28) (caps := []) rfl (mp_cons (v := .ag [v_z_At, v_z_Bits, v_z_Own]) rfl (mp_cons (v := .i .i64 20) rfl mp_nil)) ca₁ ?_
  have hO₂ : Own B h k₂ [eBox r₁ [v_z_At, v_z_Bits, v_z_Own], eSl e_T_api_Cell v₁ x, eSl e_T_api_Point v₂ x1] := hO₁.call hW₁ rfl
  refine WO_v (a_mv (v := .tu [v₁, v₂]) rfl) ?_
  refine WO_v (a_ext (vs := [v₁, v₂]) (v := v₁) rfl rfl) ?_
  refine WO_v (a_ext (vs := [v₁, v₂]) (v := v₂) rfl rfl) ?_
  refine WO_v (a_mv (v := v₁) rfl) ?_
  refine WO_v (a_mv (v := v₂) rfl) ?_
  refine WO_end ?_
  refine then_n ?_
  refine W_sq ?_
  refine W_rg ?_
  refine WO_v (a_mv (v := v₁) rfl) ?_
  obtain ⟨⟨x2, x3⟩, hx₂, hp⟩ := bd_some hp
  obtain ⟨u₂, k₃, ca₂, v₃, v₄, v₅, vs₁, v₆, vs₂, v₇, v₈, rfl, hW₂⟩ := p_arcs_Of.ok (h := k₂)  (hO₂.sl 1 rfl : Sl e_T_api_Cell k₂ v₁ x) hx₂
  refine WO_c (id := 129) (caps := []) rfl (mp_cons (v := v₁) rfl mp_nil) ca₂ ?_
  have hO₃ : Own B h k₃ [eBox r₁ [v_z_At, v_z_Bits, v_z_Own], eSl e_T_api_Cell v₁ x, eSl e_T_api_Point v₂ x1, eSl eInt v₃ x2.Chains.X, eSl eInt v₄ x2.Chains.Y, eSl eV v₅ vs₁, eAll eInt vs₁ x2.Chains.Vert, eSl eV v₆ vs₂, eAll eInt vs₂ x2.Chains.Horz, eSl e_T_api_Arc v₇ x2.H, eSl e_T_api_Arc v₈ x2.V] := hO₂.call hW₂ rfl
  refine WO_v (a_mv (v := .tu [.ag [v₃, v₄, v₅, v₆, v₇, v₈], .i .i64 x3]) rfl) ?_
  refine WO_v (a_ext (vs := [.ag [v₃, v₄, v₅, v₆, v₇, v₈], .i .i64 x3]) (v := .ag [v₃, v₄, v₅, v₆, v₇, v₈]) rfl rfl) ?_
  refine WO_v (a_ext (vs := [.ag [v₃, v₄, v₅, v₆, v₇, v₈], .i .i64 x3]) (v := .i .i64 x3) rfl rfl) ?_
  refine WO_x (hO₃.alloc (cs := [.sn, .sn, .sn, .sn, .sn, .sn]) hO₃.fr) ?_
  rintro _ k₄ ⟨r₂, rfl, n₂, f₂, hW⟩
  have hO₄ : Own B h k₄ [eBox r₁ [v_z_At, v_z_Bits, v_z_Own], eSl e_T_api_Cell v₁ x, eSl e_T_api_Point v₂ x1, eSl eInt v₃ x2.Chains.X, eSl eInt v₄ x2.Chains.Y, eSl eV v₅ vs₁, eAll eInt vs₁ x2.Chains.Vert, eSl eV v₆ vs₂, eAll eInt vs₂ x2.Chains.Horz, eSl e_T_api_Arc v₇ x2.H, eSl e_T_api_Arc v₈ x2.V, eBox r₂ [.sn, .sn, .sn, .sn, .sn, .sn]] := hW
  refine WO_x (hO₄.stb (ws := [v₃, v₄, v₅, v₆, v₇, v₈]) (cs' := [v₃, v₄, v₅, v₆, v₇, v₈]) (v := .ag [v₃, v₄, v₅, v₆, v₇, v₈]) 11 rfl rfl rfl rfl ⟨rfl, Nat.le_of_ble_eq_true rfl, (all_cons (hO₄.sl 3 rfl : Sl eInt k₄ v₃ x2.Chains.X).oneV (all_cons (hO₄.sl 4 rfl : Sl eInt k₄ v₄ x2.Chains.Y).oneV (all_cons (hO₄.sl 5 rfl : Sl eV k₄ v₅ vs₁).oneV (all_cons (hO₄.sl 7 rfl : Sl eV k₄ v₆ vs₂).oneV (all_cons (hO₄.sl 9 rfl : Sl e_T_api_Arc k₄ v₇ x2.H).oneV (all_cons (hO₄.sl 10 rfl : Sl e_T_api_Arc k₄ v₈ x2.V).oneV all_nil))))))⟩ rfl) ?_
  rintro _ k₅ ⟨rfl, f₃, m₁, hW⟩
  have hO₅ : Own B h k₅ [eBox r₁ [v_z_At, v_z_Bits, v_z_Own], eSl e_T_api_Cell v₁ x, eSl e_T_api_Point v₂ x1, eSl eInt v₃ x2.Chains.X, eSl eInt v₄ x2.Chains.Y, eSl eV v₅ vs₁, eAll eInt vs₁ x2.Chains.Vert, eSl eV v₆ vs₂, eAll eInt vs₂ x2.Chains.Horz, eSl e_T_api_Arc v₇ x2.H, eSl e_T_api_Arc v₈ x2.V, eBox r₂ [v₃, v₄, v₅, v₆, v₇, v₈]] := hW
  refine WO_v (a_mv (v := .i .i64 x3) rfl) ?_
  refine WO_end ?_
  refine then_n ?_
  refine W_sq ?_
  refine W_rg ?_
  refine WO_v (a_mv (v := v₁) rfl) ?_
  obtain ⟨⟨x4, x5⟩, hx₃, hp⟩ := bd_some hp
  obtain ⟨u₃, k₆, ca₃, v₉, v₁₀, v₁₁, vs₃, v₁₂, vs₄, rfl, hW₃⟩ := p_muntinref16_Of.ok (h := k₅)  (hO₅.sl 1 rfl : Sl e_T_api_Cell k₅ v₁ x) hx₃
  refine WO_c (id := 121) (caps := []) rfl (mp_cons (v := v₁) rfl mp_nil) ca₃ ?_
  have hO₆ : Own B h k₆ [eBox r₁ [v_z_At, v_z_Bits, v_z_Own], eSl e_T_api_Cell v₁ x, eSl e_T_api_Point v₂ x1, eSl eInt v₃ x2.Chains.X, eSl eInt v₄ x2.Chains.Y, eSl eV v₅ vs₁, eAll eInt vs₁ x2.Chains.Vert, eSl eV v₆ vs₂, eAll eInt vs₂ x2.Chains.Horz, eSl e_T_api_Arc v₇ x2.H, eSl e_T_api_Arc v₈ x2.V, eBox r₂ [v₃, v₄, v₅, v₆, v₇, v₈], eSl eInt v₉ x4.X, eSl eInt v₁₀ x4.Y, eSl eV v₁₁ vs₃, eAll eInt vs₃ x4.Vert, eSl eV v₁₂ vs₄, eAll eInt vs₄ x4.Horz] := hO₅.call hW₃ rfl
  refine WO_v (a_mv (v := .tu [.ag [v₉, v₁₀, v₁₁, v₁₂], .b x5]) rfl) ?_
  refine WO_v (a_ext (vs := [.ag [v₉, v₁₀, v₁₁, v₁₂], .b x5]) (v := .ag [v₉, v₁₀, v₁₁, v₁₂]) rfl rfl) ?_
  refine WO_v (a_ext (vs := [.ag [v₉, v₁₀, v₁₁, v₁₂], .b x5]) (v := .b x5) rfl rfl) ?_
  refine WO_x (hO₆.alloc (cs := [.sn, .sn, .sn, .sn]) hO₆.fr) ?_
  rintro _ k₇ ⟨r₃, rfl, n₃, f₄, hW⟩
  have hO₇ : Own B h k₇ [eBox r₁ [v_z_At, v_z_Bits, v_z_Own], eSl e_T_api_Cell v₁ x, eSl e_T_api_Point v₂ x1, eSl eInt v₃ x2.Chains.X, eSl eInt v₄ x2.Chains.Y, eSl eV v₅ vs₁, eAll eInt vs₁ x2.Chains.Vert, eSl eV v₆ vs₂, eAll eInt vs₂ x2.Chains.Horz, eSl e_T_api_Arc v₇ x2.H, eSl e_T_api_Arc v₈ x2.V, eBox r₂ [v₃, v₄, v₅, v₆, v₇, v₈], eSl eInt v₉ x4.X, eSl eInt v₁₀ x4.Y, eSl eV v₁₁ vs₃, eAll eInt vs₃ x4.Vert, eSl eV v₁₂ vs₄, eAll eInt vs₄ x4.Horz, eBox r₃ [.sn, .sn, .sn, .sn]] := hW
  refine WO_x (hO₇.stb (ws := [v₉, v₁₀, v₁₁, v₁₂]) (cs' := [v₉, v₁₀, v₁₁, v₁₂]) (v := .ag [v₉, v₁₀, v₁₁, v₁₂]) 18 rfl rfl rfl rfl ⟨rfl, Nat.le_of_ble_eq_true rfl, (all_cons (hO₇.sl 12 rfl : Sl eInt k₇ v₉ x4.X).oneV (all_cons (hO₇.sl 13 rfl : Sl eInt k₇ v₁₀ x4.Y).oneV (all_cons (hO₇.sl 14 rfl : Sl eV k₇ v₁₁ vs₃).oneV (all_cons (hO₇.sl 16 rfl : Sl eV k₇ v₁₂ vs₄).oneV all_nil))))⟩ rfl) ?_
  rintro _ k₈ ⟨rfl, f₅, m₂, hW⟩
  have hO₈ : Own B h k₈ [eBox r₁ [v_z_At, v_z_Bits, v_z_Own], eSl e_T_api_Cell v₁ x, eSl e_T_api_Point v₂ x1, eSl eInt v₃ x2.Chains.X, eSl eInt v₄ x2.Chains.Y, eSl eV v₅ vs₁, eAll eInt vs₁ x2.Chains.Vert, eSl eV v₆ vs₂, eAll eInt vs₂ x2.Chains.Horz, eSl e_T_api_Arc v₇ x2.H, eSl e_T_api_Arc v₈ x2.V, eBox r₂ [v₃, v₄, v₅, v₆, v₇, v₈], eSl eInt v₉ x4.X, eSl eInt v₁₀ x4.Y, eSl eV v₁₁ vs₃, eAll eInt vs₃ x4.Vert, eSl eV v₁₂ vs₄, eAll eInt vs₄ x4.Horz, eBox r₃ [v₉, v₁₀, v₁₁, v₁₂]] := hW
  refine WO_v (a_mv (v := .b x5) rfl) ?_
  refine WO_end ?_
  refine then_n ?_
  refine W_sq ?_
  refine W_sq ?_
  obtain ⟨o₁, ho₁, hp⟩ := bd_some hp
  refine W.mono (Q := fun e fr k => match (generalizing := false) o₁ with
      | x6 => e = .normal ∧ fr 1 = v_raw ∧ fr 74 = .b x6 ∧ Own B h k []) ?_ ?_
  · clear hp; have hp := ho₁; clear ho₁
    refine W_dr ?_
    have hW := hO₈.bump 44
    have fr₁ := Fresh.start k₈ 44
    have nb₁ : ∀ {i : Nat}, h.n ≤ k₈.n + i := Nat.le_trans hO₈.n (Nat.le_add_right _ _)
    have hO₁₀ : Own B h (k₈.bump 44) [eBox r₁ [v_z_At, v_z_Bits, v_z_Own], eSl e_T_api_Cell v₁ x, eSl e_T_api_Point v₂ x1, eSl eInt v₃ x2.Chains.X, eSl eInt v₄ x2.Chains.Y, eSl eV v₅ vs₁, eAll eInt vs₁ x2.Chains.Vert, eSl eV v₆ vs₂, eAll eInt vs₂ x2.Chains.Horz, eSl e_T_api_Arc v₇ x2.H, eSl e_T_api_Arc v₈ x2.V, eBox r₂ [v₃, v₄, v₅, v₆, v₇, v₈], eSl eInt v₉ x4.X, eSl eInt v₁₀ x4.Y, eSl eV v₁₁ vs₃, eAll eInt vs₃ x4.Vert, eSl eV v₁₂ vs₄, eAll eInt vs₄ x4.Horz, eBox r₃ [v₉, v₁₀, v₁₁, v₁₂]] := hW
    obtain ⟨x7, hx₄, hp⟩ := bd_some hp
    obtain ⟨u₄, k₁₁, ca₄, rfl, hW₄⟩ := p_muntinlaw17_wakes.ok (h := (k₈.bump 44))   hx₄
    refine WD_c (id := 130) (caps := []) rfl mp_nil ca₄ ?_
    have fr₂ := fr₁.call hW₄
    have hO₁₁ : Own B h k₁₁ [eBox r₁ [v_z_At, v_z_Bits, v_z_Own], eSl e_T_api_Cell v₁ x, eSl e_T_api_Point v₂ x1, eSl eInt v₃ x2.Chains.X, eSl eInt v₄ x2.Chains.Y, eSl eV v₅ vs₁, eAll eInt vs₁ x2.Chains.Vert, eSl eV v₆ vs₂, eAll eInt vs₂ x2.Chains.Horz, eSl e_T_api_Arc v₇ x2.H, eSl e_T_api_Arc v₈ x2.V, eBox r₂ [v₃, v₄, v₅, v₆, v₇, v₈], eSl eInt v₉ x4.X, eSl eInt v₁₀ x4.Y, eSl eV v₁₁ vs₃, eAll eInt vs₃ x4.Vert, eSl eV v₁₂ vs₄, eAll eInt vs₄ x4.Horz, eBox r₃ [v₉, v₁₀, v₁₁, v₁₂]] := hO₁₀.call hW₄ rfl
    refine WD_v (a_not (t := x7) rfl) ?_
    refine WD_v (a_mv (v := .b (!x7)) rfl) ?_
    rcases if_some hp with ⟨b₁, hp⟩ | ⟨b₁, hp⟩
    · skip
      refine WD_off rfl b₁ ?_
      refine WD_off rfl b₁ ?_
      refine WD_v (a_pickT (t := (!x7)) (v := .b true) rfl b₁ rfl) ?_
      refine WD_v (a_mv (v := .b true) rfl) ?_
      refine WD_off rfl rfl ?_
      refine WD_off rfl rfl ?_
      refine WD_off rfl rfl ?_
      refine WD_off rfl rfl ?_
      refine WD_off rfl rfl ?_
      refine WD_off rfl rfl ?_
      refine WD_off rfl rfl ?_
      refine WD_off rfl rfl ?_
      refine WD_v (a_pickT (t := true) (v := .b true) rfl rfl rfl) ?_
      refine WD_v (a_mv (v := .b true) rfl) ?_
      refine WD_off rfl rfl ?_
      refine WD_off rfl rfl ?_
      refine WD_off rfl rfl ?_
      refine WD_off rfl rfl ?_
      refine WD_off rfl rfl ?_
      refine WD_off rfl rfl ?_
      refine WD_off rfl rfl ?_
      refine WD_off rfl rfl ?_
      refine WD_v (a_pickT (t := true) (v := .b true) rfl rfl rfl) ?_
      refine WD_v (a_mv (v := .b true) rfl) ?_
      refine WD_off rfl rfl ?_
      refine WD_off rfl rfl ?_
      refine WD_off rfl rfl ?_
      refine WD_off rfl rfl ?_
      refine WD_off rfl rfl ?_
      refine WD_off rfl rfl ?_
      refine WD_off rfl rfl ?_
      refine WD_v (a_pickT (t := true) (v := .b true) rfl rfl rfl) ?_
      refine WD_v (a_mv (v := .b true) rfl) ?_
      refine WD_off rfl rfl ?_
      refine WD_off rfl rfl ?_
      refine WD_off rfl rfl ?_
      refine WD_off rfl rfl ?_
      refine WD_off rfl rfl ?_
      refine WD_off rfl rfl ?_
      refine WD_off rfl rfl ?_
      refine WD_v (a_pickT (t := true) (v := .b true) rfl rfl rfl) ?_
      refine WD_end ?_
      refine And.intro ?_ ?_
      · intro q hq
        simp only [List.mem_cons, List.not_mem_nil, or_false] at hq
        rcases hq with rfl | rfl | rfl | rfl | rfl | rfl
        · exact ap_n1
        · exact ap_n1
        · exact ap_n1
        · exact ap_n1
        · exact ap_n1
        · exact ap_n1
      have hp := Option.some.inj hp; subst hp
      exact (And.intro rfl (And.intro (rfl) (And.intro (rfl) (hO₁₁.pick [] rfl (by decide)))))
    · skip
      refine WD_on rfl b₁ ?_
      refine WD_v (a_mv (v := .i .i64 x3) rfl) ?_
      refine WD_on rfl b₁ ?_
      refine WD_v (a_neI (a := x3) (b := 0) rfl rfl) ?_
      refine WD_v (a_pickF (t := (!x7)) (v := .b (!(decide (x3 = 0)))) rfl b₁ rfl) ?_
      refine WD_v (a_mv (v := .b (!(decide (x3 = 0)))) rfl) ?_
      rcases if_some hp with ⟨b₂, hp⟩ | ⟨b₂, hp⟩
      · skip
        refine WD_off rfl b₂ ?_
        refine WD_off rfl b₂ ?_
        refine WD_off rfl b₂ ?_
        refine WD_off rfl b₂ ?_
        refine WD_off rfl b₂ ?_
        refine WD_off rfl b₂ ?_
        refine WD_off rfl b₂ ?_
        refine WD_off rfl b₂ ?_
        refine WD_v (a_pickT (t := (!(decide (x3 = 0)))) (v := .b true) rfl b₂ rfl) ?_
        refine WD_v (a_mv (v := .b true) rfl) ?_
        refine WD_off rfl rfl ?_
        refine WD_off rfl rfl ?_
        refine WD_off rfl rfl ?_
        refine WD_off rfl rfl ?_
        refine WD_off rfl rfl ?_
        refine WD_off rfl rfl ?_
        refine WD_off rfl rfl ?_
        refine WD_off rfl rfl ?_
        refine WD_v (a_pickT (t := true) (v := .b true) rfl rfl rfl) ?_
        refine WD_v (a_mv (v := .b true) rfl) ?_
        refine WD_off rfl rfl ?_
        refine WD_off rfl rfl ?_
        refine WD_off rfl rfl ?_
        refine WD_off rfl rfl ?_
        refine WD_off rfl rfl ?_
        refine WD_off rfl rfl ?_
        refine WD_off rfl rfl ?_
        refine WD_v (a_pickT (t := true) (v := .b true) rfl rfl rfl) ?_
        refine WD_v (a_mv (v := .b true) rfl) ?_
        refine WD_off rfl rfl ?_
        refine WD_off rfl rfl ?_
        refine WD_off rfl rfl ?_
        refine WD_off rfl rfl ?_
        refine WD_off rfl rfl ?_
        refine WD_off rfl rfl ?_
        refine WD_off rfl rfl ?_
        refine WD_v (a_pickT (t := true) (v := .b true) rfl rfl rfl) ?_
        refine WD_end ?_
        refine And.intro ?_ ?_
        · intro q hq
          simp only [List.mem_cons, List.not_mem_nil, or_false] at hq
          rcases hq with rfl | rfl | rfl | rfl | rfl | rfl
          · exact ap_n1
          · exact ap_n1
          · exact ap_n1
          · exact ap_n1
          · exact ap_n1
          · exact ap_n1
        have hp := Option.some.inj hp; subst hp
        exact (And.intro rfl (And.intro (rfl) (And.intro (rfl) (hO₁₁.pick [] rfl (by decide)))))
      · skip
        refine WD_on rfl b₂ ?_
        refine WD_v (a_fa (r := r₂) (o := 0) (o' := 4) rfl rfl) ?_
        refine WD_on rfl b₂ ?_
        refine WD_v (a_ldb (cs := [v₃, v₄, v₅, v₆, v₇, v₈]) (v := v₇) (hO₁₁.box 11 rfl) rfl rfl) ?_
        refine WD_on rfl b₂ ?_
        refine WD_v (a_mv (v := v₁) rfl) ?_
        refine WD_on rfl b₂ ?_
        refine WD_v (a_fa (r := r₃) (o := 0) (o' := 0) rfl rfl) ?_
        refine WD_on rfl b₂ ?_
        refine WD_v (a_ldb (cs := [v₉, v₁₀, v₁₁, v₁₂]) (v := v₉) (hO₁₁.box 18 rfl) rfl rfl) ?_
        refine WD_on rfl b₂ ?_
        obtain ⟨x8, hx₅, hp⟩ := bd_some hp
        obtain ⟨u₅, k₁₂, ca₅, v₁₃, rfl, hW₅⟩ := p_muntinref17_Graph.ok (h := k₁₁)  (hO₁₁.sl 1 rfl : Sl e_T_api_Cell k₁₁ v₁ x) (hO₁₁.sl 12 rfl : Sl eInt k₁₁ v₉ x4.X) hx₅
        refine WD_c (id := 167) (caps := []) rfl (mp_cons (v := v₁) rfl (mp_cons (v := .i .i64 0) rfl (mp_cons (v := v₉) rfl mp_nil))) ca₅ ?_
        have fr₃ := fr₂.call hW₅
        have hO₁₂ : Own B h k₁₂ [eBox r₁ [v_z_At, v_z_Bits, v_z_Own], eSl e_T_api_Cell v₁ x, eSl e_T_api_Point v₂ x1, eSl eInt v₃ x2.Chains.X, eSl eInt v₄ x2.Chains.Y, eSl eV v₅ vs₁, eAll eInt vs₁ x2.Chains.Vert, eSl eV v₆ vs₂, eAll eInt vs₂ x2.Chains.Horz, eSl e_T_api_Arc v₇ x2.H, eSl e_T_api_Arc v₈ x2.V, eBox r₂ [v₃, v₄, v₅, v₆, v₇, v₈], eSl eInt v₉ x4.X, eSl eInt v₁₀ x4.Y, eSl eV v₁₁ vs₃, eAll eInt vs₃ x4.Vert, eSl eV v₁₂ vs₄, eAll eInt vs₄ x4.Horz, eBox r₃ [v₉, v₁₀, v₁₁, v₁₂], eSl e_T_api_Arc v₁₃ x8] := hO₁₁.call hW₅ rfl
        refine WD_on rfl b₂ ?_
        obtain ⟨x9, hx₆, hp⟩ := bd_some hp
        obtain ⟨u₆, k₁₃, ca₆, rfl, hW₆⟩ := p_slices_Equal_api_Arc.ok (h := k₁₂)  (hO₁₂.sl 9 rfl : Sl e_T_api_Arc k₁₂ v₇ x2.H) (hO₁₂.sl 19 rfl : Sl e_T_api_Arc k₁₂ v₁₃ x8) hx₆
        refine WD_c (id := 166) (caps := []) rfl (mp_cons (v := v₇) rfl (mp_cons (v := v₁₃) rfl mp_nil)) ca₆ ?_
        have fr₄ := fr₃.call hW₆
        have hO₁₃ : Own B h k₁₃ [eBox r₁ [v_z_At, v_z_Bits, v_z_Own], eSl e_T_api_Cell v₁ x, eSl e_T_api_Point v₂ x1, eSl eInt v₃ x2.Chains.X, eSl eInt v₄ x2.Chains.Y, eSl eV v₅ vs₁, eAll eInt vs₁ x2.Chains.Vert, eSl eV v₆ vs₂, eAll eInt vs₂ x2.Chains.Horz, eSl e_T_api_Arc v₇ x2.H, eSl e_T_api_Arc v₈ x2.V, eBox r₂ [v₃, v₄, v₅, v₆, v₇, v₈], eSl eInt v₉ x4.X, eSl eInt v₁₀ x4.Y, eSl eV v₁₁ vs₃, eAll eInt vs₃ x4.Vert, eSl eV v₁₂ vs₄, eAll eInt vs₄ x4.Horz, eBox r₃ [v₉, v₁₀, v₁₁, v₁₂], eSl e_T_api_Arc v₁₃ x8] := hO₁₂.call hW₆ rfl
        refine WD_on rfl b₂ ?_
        refine WD_v (a_not (t := x9) rfl) ?_
        refine WD_v (a_pickF (t := (!(decide (x3 = 0)))) (v := .b (!x9)) rfl b₂ rfl) ?_
        refine WD_v (a_mv (v := .b (!x9)) rfl) ?_
        rcases if_some hp with ⟨b₃, hp⟩ | ⟨b₃, hp⟩
        · skip
          refine WD_off rfl b₃ ?_
          refine WD_off rfl b₃ ?_
          refine WD_off rfl b₃ ?_
          refine WD_off rfl b₃ ?_
          refine WD_off rfl b₃ ?_
          refine WD_off rfl b₃ ?_
          refine WD_off rfl b₃ ?_
          refine WD_off rfl b₃ ?_
          refine WD_v (a_pickT (t := (!x9)) (v := .b true) rfl b₃ rfl) ?_
          refine WD_v (a_mv (v := .b true) rfl) ?_
          refine WD_off rfl rfl ?_
          refine WD_off rfl rfl ?_
          refine WD_off rfl rfl ?_
          refine WD_off rfl rfl ?_
          refine WD_off rfl rfl ?_
          refine WD_off rfl rfl ?_
          refine WD_off rfl rfl ?_
          refine WD_v (a_pickT (t := true) (v := .b true) rfl rfl rfl) ?_
          refine WD_v (a_mv (v := .b true) rfl) ?_
          refine WD_off rfl rfl ?_
          refine WD_off rfl rfl ?_
          refine WD_off rfl rfl ?_
          refine WD_off rfl rfl ?_
          refine WD_off rfl rfl ?_
          refine WD_off rfl rfl ?_
          refine WD_off rfl rfl ?_
          refine WD_v (a_pickT (t := true) (v := .b true) rfl rfl rfl) ?_
          refine WD_end ?_
          refine And.intro ?_ ?_
          · intro q hq
            simp only [List.mem_cons, List.not_mem_nil, or_false] at hq
            rcases hq with rfl | rfl | rfl | rfl | rfl | rfl
            · refine ap_ll ?_ ?_
              · exact (fun h => nomatch h)
              · exact (fun h => nomatch h)
            · refine ap_ol rfl rfl ?_
              · exact (fun r hm hc => hc (hW₅.base r (Nat.lt_of_lt_of_le (hO₈.ltAt 11 rfl _ (tch (v := V.p r₂ 4) (ld_el hm) rfl)) (Nat.le_trans (Nat.le_add_right _ _) fr₂.n))))
            · exact ap_n1
            · exact ap_n1
            · exact ap_n1
            · exact ap_n1
          have hp := Option.some.inj hp; subst hp
          exact (And.intro rfl (And.intro (rfl) (And.intro (rfl) (hO₁₃.pick [] rfl (by decide)))))
        · skip
          refine WD_on rfl b₃ ?_
          refine WD_v (a_fa (r := r₂) (o := 0) (o' := 5) rfl rfl) ?_
          refine WD_on rfl b₃ ?_
          refine WD_v (a_ldb (cs := [v₃, v₄, v₅, v₆, v₇, v₈]) (v := v₈) (hO₁₃.box 11 rfl) rfl rfl) ?_
          refine WD_on rfl b₃ ?_
          refine WD_v (a_mv (v := v₁) rfl) ?_
          refine WD_on rfl b₃ ?_
          refine WD_v (a_fa (r := r₃) (o := 0) (o' := 1) rfl rfl) ?_
          refine WD_on rfl b₃ ?_
          refine WD_v (a_ldb (cs := [v₉, v₁₀, v₁₁, v₁₂]) (v := v₁₀) (hO₁₃.box 18 rfl) rfl rfl) ?_
          refine WD_on rfl b₃ ?_
          obtain ⟨x10, hx₇, hp⟩ := bd_some hp
          obtain ⟨u₇, k₁₄, ca₇, v₁₄, rfl, hW₇⟩ := p_muntinref17_Graph.ok (h := k₁₃)  (hO₁₃.sl 1 rfl : Sl e_T_api_Cell k₁₃ v₁ x) (hO₁₃.sl 13 rfl : Sl eInt k₁₃ v₁₀ x4.Y) hx₇
          refine WD_c (id := 167) (caps := []) rfl (mp_cons (v := v₁) rfl (mp_cons (v := .i .i64 1) rfl (mp_cons (v := v₁₀) rfl mp_nil))) ca₇ ?_
          have fr₅ := fr₄.call hW₇
          have hO₁₄ : Own B h k₁₄ [eBox r₁ [v_z_At, v_z_Bits, v_z_Own], eSl e_T_api_Cell v₁ x, eSl e_T_api_Point v₂ x1, eSl eInt v₃ x2.Chains.X, eSl eInt v₄ x2.Chains.Y, eSl eV v₅ vs₁, eAll eInt vs₁ x2.Chains.Vert, eSl eV v₆ vs₂, eAll eInt vs₂ x2.Chains.Horz, eSl e_T_api_Arc v₇ x2.H, eSl e_T_api_Arc v₈ x2.V, eBox r₂ [v₃, v₄, v₅, v₆, v₇, v₈], eSl eInt v₉ x4.X, eSl eInt v₁₀ x4.Y, eSl eV v₁₁ vs₃, eAll eInt vs₃ x4.Vert, eSl eV v₁₂ vs₄, eAll eInt vs₄ x4.Horz, eBox r₃ [v₉, v₁₀, v₁₁, v₁₂], eSl e_T_api_Arc v₁₃ x8, eSl e_T_api_Arc v₁₄ x10] := hO₁₃.call hW₇ rfl
          refine WD_on rfl b₃ ?_
          obtain ⟨x11, hx₈, hp⟩ := bd_some hp
          obtain ⟨u₈, k₁₅, ca₈, rfl, hW₈⟩ := p_slices_Equal_api_Arc.ok (h := k₁₄)  (hO₁₄.sl 10 rfl : Sl e_T_api_Arc k₁₄ v₈ x2.V) (hO₁₄.sl 20 rfl : Sl e_T_api_Arc k₁₄ v₁₄ x10) hx₈
          refine WD_c (id := 166) (caps := []) rfl (mp_cons (v := v₈) rfl (mp_cons (v := v₁₄) rfl mp_nil)) ca₈ ?_
          have fr₆ := fr₅.call hW₈
          have hO₁₅ : Own B h k₁₅ [eBox r₁ [v_z_At, v_z_Bits, v_z_Own], eSl e_T_api_Cell v₁ x, eSl e_T_api_Point v₂ x1, eSl eInt v₃ x2.Chains.X, eSl eInt v₄ x2.Chains.Y, eSl eV v₅ vs₁, eAll eInt vs₁ x2.Chains.Vert, eSl eV v₆ vs₂, eAll eInt vs₂ x2.Chains.Horz, eSl e_T_api_Arc v₇ x2.H, eSl e_T_api_Arc v₈ x2.V, eBox r₂ [v₃, v₄, v₅, v₆, v₇, v₈], eSl eInt v₉ x4.X, eSl eInt v₁₀ x4.Y, eSl eV v₁₁ vs₃, eAll eInt vs₃ x4.Vert, eSl eV v₁₂ vs₄, eAll eInt vs₄ x4.Horz, eBox r₃ [v₉, v₁₀, v₁₁, v₁₂], eSl e_T_api_Arc v₁₃ x8, eSl e_T_api_Arc v₁₄ x10] := hO₁₄.call hW₈ rfl
          refine WD_on rfl b₃ ?_
          refine WD_v (a_not (t := x11) rfl) ?_
          refine WD_v (a_pickF (t := (!x9)) (v := .b (!x11)) rfl b₃ rfl) ?_
          refine WD_v (a_mv (v := .b (!x11)) rfl) ?_
          rcases if_some hp with ⟨b₄, hp⟩ | ⟨b₄, hp⟩
          · skip
            refine WD_off rfl b₄ ?_
            refine WD_off rfl b₄ ?_
            refine WD_off rfl b₄ ?_
            refine WD_off rfl b₄ ?_
            refine WD_off rfl b₄ ?_
            refine WD_off rfl b₄ ?_
            refine WD_off rfl b₄ ?_
            refine WD_v (a_pickT (t := (!x11)) (v := .b true) rfl b₄ rfl) ?_
            refine WD_v (a_mv (v := .b true) rfl) ?_
            refine WD_off rfl rfl ?_
            refine WD_off rfl rfl ?_
            refine WD_off rfl rfl ?_
            refine WD_off rfl rfl ?_
            refine WD_off rfl rfl ?_
            refine WD_off rfl rfl ?_
            refine WD_off rfl rfl ?_
            refine WD_v (a_pickT (t := true) (v := .b true) rfl rfl rfl) ?_
            refine WD_end ?_
            refine And.intro ?_ ?_
            · intro q hq
              simp only [List.mem_cons, List.not_mem_nil, or_false] at hq
              rcases hq with rfl | rfl | rfl | rfl | rfl | rfl
              · refine ap_ll ?_ ?_
                · exact (fun h => nomatch h)
                · exact (fun h => nomatch h)
              · refine ap_ol rfl rfl ?_
                · exact (fun r hm hc => hc (hW₅.base r (Nat.lt_of_lt_of_le (hO₈.ltAt 11 rfl _ (tch (v := V.p r₂ 4) (ld_el hm) rfl)) (Nat.le_trans (Nat.le_add_right _ _) fr₂.n))))
              · refine ap_ll ?_ ?_
                · exact (fun h => nomatch h)
                · exact (fun h => nomatch h)
              · refine ap_ol rfl rfl ?_
                · exact (fun r hm hc => hc (hW₇.base r (Nat.lt_of_lt_of_le (hO₈.ltAt 11 rfl _ (tch (v := V.p r₂ 5) (ld_el hm) rfl)) (Nat.le_trans (Nat.le_add_right _ _) fr₄.n))))
              · exact ap_n1
              · exact ap_n1
            have hp := Option.some.inj hp; subst hp
            exact (And.intro rfl (And.intro (rfl) (And.intro (rfl) (hO₁₅.pick [] rfl (by decide)))))
          · skip
            refine WD_on rfl b₄ ?_
            refine WD_v (a_fa (r := r₂) (o := 0) (o' := 0) rfl rfl) ?_
            refine WD_on rfl b₄ ?_
            refine WD_v (a_fa (r := r₂) (o := 0) (o' := 0) rfl rfl) ?_
            refine WD_on rfl b₄ ?_
            refine WD_v (a_ldb (cs := [v₃, v₄, v₅, v₆, v₇, v₈]) (v := v₃) (hO₁₅.box 11 rfl) rfl rfl) ?_
            refine WD_on rfl b₄ ?_
            refine WD_v (a_fa (r := r₃) (o := 0) (o' := 0) rfl rfl) ?_
            refine WD_on rfl b₄ ?_
            refine WD_v (a_ldb (cs := [v₉, v₁₀, v₁₁, v₁₂]) (v := v₉) (hO₁₅.box 18 rfl) rfl rfl) ?_
            refine WD_on rfl b₄ ?_
            obtain ⟨x12, hx₉, hp⟩ := bd_some hp
            obtain ⟨u₉, k₁₆, ca₉, rfl, hW₉⟩ := p_slices_Equal_int.ok (h := k₁₅)  (hO₁₅.sl 3 rfl : Sl eInt k₁₅ v₃ x2.Chains.X) (hO₁₅.sl 12 rfl : Sl eInt k₁₅ v₉ x4.X) hx₉
            refine WD_c (id := 33) (caps := []) rfl (mp_cons (v := v₃) rfl (mp_cons (v := v₉) rfl mp_nil)) ca₉ ?_
            have fr₇ := fr₆.call hW₉
            have hO₁₆ : Own B h k₁₆ [eBox r₁ [v_z_At, v_z_Bits, v_z_Own], eSl e_T_api_Cell v₁ x, eSl e_T_api_Point v₂ x1, eSl eInt v₃ x2.Chains.X, eSl eInt v₄ x2.Chains.Y, eSl eV v₅ vs₁, eAll eInt vs₁ x2.Chains.Vert, eSl eV v₆ vs₂, eAll eInt vs₂ x2.Chains.Horz, eSl e_T_api_Arc v₇ x2.H, eSl e_T_api_Arc v₈ x2.V, eBox r₂ [v₃, v₄, v₅, v₆, v₇, v₈], eSl eInt v₉ x4.X, eSl eInt v₁₀ x4.Y, eSl eV v₁₁ vs₃, eAll eInt vs₃ x4.Vert, eSl eV v₁₂ vs₄, eAll eInt vs₄ x4.Horz, eBox r₃ [v₉, v₁₀, v₁₁, v₁₂], eSl e_T_api_Arc v₁₃ x8, eSl e_T_api_Arc v₁₄ x10] := hO₁₅.call hW₉ rfl
            refine WD_on rfl b₄ ?_
            refine WD_v (a_not (t := x12) rfl) ?_
            refine WD_v (a_pickF (t := (!x11)) (v := .b (!x12)) rfl b₄ rfl) ?_
            refine WD_v (a_mv (v := .b (!x12)) rfl) ?_
            rcases if_some hp with ⟨b₅, hp⟩ | ⟨b₅, hp⟩
            · skip
              refine WD_off rfl b₅ ?_
              refine WD_off rfl b₅ ?_
              refine WD_off rfl b₅ ?_
              refine WD_off rfl b₅ ?_
              refine WD_off rfl b₅ ?_
              refine WD_off rfl b₅ ?_
              refine WD_off rfl b₅ ?_
              refine WD_v (a_pickT (t := (!x12)) (v := .b true) rfl b₅ rfl) ?_
              refine WD_end ?_
              refine And.intro ?_ ?_
              · intro q hq
                simp only [List.mem_cons, List.not_mem_nil, or_false] at hq
                rcases hq with rfl | rfl | rfl | rfl | rfl | rfl
                · refine ap_ll ?_ ?_
                  · exact (fun h => nomatch h)
                  · exact (fun h => nomatch h)
                · refine ap_ol rfl rfl ?_
                  · exact (fun r hm hc => hc (hW₅.base r (Nat.lt_of_lt_of_le (hO₈.ltAt 11 rfl _ (tch (v := V.p r₂ 4) (ld_el hm) rfl)) (Nat.le_trans (Nat.le_add_right _ _) fr₂.n))))
                · refine ap_ll ?_ ?_
                  · exact (fun h => nomatch h)
                  · exact (fun h => nomatch h)
                · refine ap_ol rfl rfl ?_
                  · exact (fun r hm hc => hc (hW₇.base r (Nat.lt_of_lt_of_le (hO₈.ltAt 11 rfl _ (tch (v := V.p r₂ 5) (ld_el hm) rfl)) (Nat.le_trans (Nat.le_add_right _ _) fr₄.n))))
                · refine ap_ll ?_ ?_
                  · exact (fun h => nomatch h)
                  · exact (fun h => nomatch h)
                · exact ap_n1
              have hp := Option.some.inj hp; subst hp
              exact (And.intro rfl (And.intro (rfl) (And.intro (rfl) (hO₁₆.pick [] rfl (by decide)))))
            · skip
              refine WD_on rfl b₅ ?_
              refine WD_v (a_fa (r := r₂) (o := 0) (o' := 0) rfl rfl) ?_
              refine WD_on rfl b₅ ?_
              refine WD_v (a_fa (r := r₂) (o := 0) (o' := 1) rfl rfl) ?_
              refine WD_on rfl b₅ ?_
              refine WD_v (a_ldb (cs := [v₃, v₄, v₅, v₆, v₇, v₈]) (v := v₄) (hO₁₆.box 11 rfl) rfl rfl) ?_
              refine WD_on rfl b₅ ?_
              refine WD_v (a_fa (r := r₃) (o := 0) (o' := 1) rfl rfl) ?_
              refine WD_on rfl b₅ ?_
              refine WD_v (a_ldb (cs := [v₉, v₁₀, v₁₁, v₁₂]) (v := v₁₀) (hO₁₆.box 18 rfl) rfl rfl) ?_
              refine WD_on rfl b₅ ?_
              obtain ⟨x13, hx₁₀, hp⟩ := bd_some hp
              obtain ⟨u₁₀, k₁₇, ca₁₀, rfl, hW₁₀⟩ := p_slices_Equal_int.ok (h := k₁₆)  (hO₁₆.sl 4 rfl : Sl eInt k₁₆ v₄ x2.Chains.Y) (hO₁₆.sl 13 rfl : Sl eInt k₁₆ v₁₀ x4.Y) hx₁₀
              refine WD_c (id := 33) (caps := []) rfl (mp_cons (v := v₄) rfl (mp_cons (v := v₁₀) rfl mp_nil)) ca₁₀ ?_
              have fr₈ := fr₇.call hW₁₀
              have hO₁₇ : Own B h k₁₇ [eBox r₁ [v_z_At, v_z_Bits, v_z_Own], eSl e_T_api_Cell v₁ x, eSl e_T_api_Point v₂ x1, eSl eInt v₃ x2.Chains.X, eSl eInt v₄ x2.Chains.Y, eSl eV v₅ vs₁, eAll eInt vs₁ x2.Chains.Vert, eSl eV v₆ vs₂, eAll eInt vs₂ x2.Chains.Horz, eSl e_T_api_Arc v₇ x2.H, eSl e_T_api_Arc v₈ x2.V, eBox r₂ [v₃, v₄, v₅, v₆, v₇, v₈], eSl eInt v₉ x4.X, eSl eInt v₁₀ x4.Y, eSl eV v₁₁ vs₃, eAll eInt vs₃ x4.Vert, eSl eV v₁₂ vs₄, eAll eInt vs₄ x4.Horz, eBox r₃ [v₉, v₁₀, v₁₁, v₁₂], eSl e_T_api_Arc v₁₃ x8, eSl e_T_api_Arc v₁₄ x10] := hO₁₆.call hW₁₀ rfl
              refine WD_on rfl b₅ ?_
              refine WD_v (a_not (t := x13) rfl) ?_
              refine WD_v (a_pickF (t := (!x12)) (v := .b (!x13)) rfl b₅ rfl) ?_
              refine WD_end ?_
              refine And.intro ?_ ?_
              · intro q hq
                simp only [List.mem_cons, List.not_mem_nil, or_false] at hq
                rcases hq with rfl | rfl | rfl | rfl | rfl | rfl
                · refine ap_ll ?_ ?_
                  · exact (fun h => nomatch h)
                  · exact (fun h => nomatch h)
                · refine ap_ol rfl rfl ?_
                  · exact (fun r hm hc => hc (hW₅.base r (Nat.lt_of_lt_of_le (hO₈.ltAt 11 rfl _ (tch (v := V.p r₂ 4) (ld_el hm) rfl)) (Nat.le_trans (Nat.le_add_right _ _) fr₂.n))))
                · refine ap_ll ?_ ?_
                  · exact (fun h => nomatch h)
                  · exact (fun h => nomatch h)
                · refine ap_ol rfl rfl ?_
                  · exact (fun r hm hc => hc (hW₇.base r (Nat.lt_of_lt_of_le (hO₈.ltAt 11 rfl _ (tch (v := V.p r₂ 5) (ld_el hm) rfl)) (Nat.le_trans (Nat.le_add_right _ _) fr₄.n))))
                · refine ap_ll ?_ ?_
                  · exact (fun h => nomatch h)
                  · exact (fun h => nomatch h)
                · refine ap_ll ?_ ?_
                  · exact (fun h => nomatch h)
                  · exact (fun h => nomatch h)
              have hp := Option.some.inj hp; subst hp
              exact (And.intro rfl (And.intro (rfl) (And.intro (rfl) (hO₁₇.pick [] rfl (by decide)))))
  intro e₁ q₁ k₉ hJ₁
  obtain ⟨x6, rfl⟩ : ∃ x, x = o₁ := ⟨_, rfl⟩
  obtain ⟨rfl, q₁_1, q₁_74, hO₉⟩ := hJ₁
  refine then_n ?_
  rcases if_some hp with ⟨b₆, hp⟩ | ⟨b₆, hp⟩
  · refine W_cT (t := x6) q₁_74 b₆ ?_
    refine W_sq ?_
    refine W_rg ?_
    refine WO_v (a_mv (v := .b false) rfl) ?_
    refine WO_end ?_
    refine then_n ?_
    refine W_rt ?_
    refine then_r ?_
    refine Ret_r (rs_t (n := 4) (v := .b false) rfl rs_nil) ?_
    have hp := Option.some.inj hp; subst hp
    exact (And.intro rfl (hO₉.pick [] rfl (by decide)))
  · refine W_cF (t := x6) q₁_74 b₆ ?_
    refine W_sk ?_
    refine then_n ?_
    refine W_sq ?_
    refine W_rg ?_
    refine WO_v (a_mv (v := v_raw) q₁_1) ?_
    refine WO_v (a_mv (v := v_raw) q₁_1) ?_
    refine WO_v (a_len (hO₉.rd0 s_raw.rd : Sl e_T_api_Cell k₉ v_raw raw) rfl) ?_
    refine WO_v (a_mn (a := (raw.length : Int)) (b := 5) rfl rfl) ?_
    obtain ⟨c₁, hp⟩ := ck_some hp
    refine WO_v (a_slcU (E := e_T_api_Cell) (z := (min (raw.length : Int) 5)) (hO₉.rd0 s_raw.rd : Sl e_T_api_Cell k₉ v_raw raw) rfl rfl c₁) ?_
    refine WO_v (a_mv (v := (V.cut v_raw 0 (min (raw.length : Int) 5 : Int).toNat)) rfl) ?_
    refine WO_end ?_
    refine then_n ?_
    refine W_sq ?_
    refine W_rg ?_
    refine WO_v (a_mv (v := (V.cut v_raw 0 (min (raw.length : Int) 5 : Int).toNat)) rfl) ?_
    obtain ⟨⟨x14, x15⟩, hx₁₁, hp⟩ := bd_some hp
    obtain ⟨u₁₁, k₁₈, ca₁₁, v₁₅, v₁₆, v₁₇, vs₅, v₁₈, vs₆, v₁₉, v₂₀, rfl, hW₁₁⟩ := p_arcs_Of.ok (h := k₉)  (Sl.cutU (hO₉.rd0 s_raw.rd : Sl e_T_api_Cell k₉ v_raw raw) c₁ : Sl e_T_api_Cell k₉ (V.cut v_raw 0 (min (raw.length : Int) 5 : Int).toNat) (raw.take (min (raw.length : Int) 5 : Int).toNat)) hx₁₁
    refine WO_c (id := 129) (caps := []) rfl (mp_cons (v := (V.cut v_raw 0 (min (raw.length : Int) 5 : Int).toNat)) rfl mp_nil) ca₁₁ ?_
    have hO₁₈ : Own B h k₁₈ [eSl eInt v₁₅ x14.Chains.X, eSl eInt v₁₆ x14.Chains.Y, eSl eV v₁₇ vs₅, eAll eInt vs₅ x14.Chains.Vert, eSl eV v₁₈ vs₆, eAll eInt vs₆ x14.Chains.Horz, eSl e_T_api_Arc v₁₉ x14.H, eSl e_T_api_Arc v₂₀ x14.V] := hO₉.call hW₁₁ rfl
    refine WO_v (a_mv (v := .tu [.ag [v₁₅, v₁₆, v₁₇, v₁₈, v₁₉, v₂₀], .i .i64 x15]) rfl) ?_
    refine WO_v (a_ext (vs := [.ag [v₁₅, v₁₆, v₁₇, v₁₈, v₁₉, v₂₀], .i .i64 x15]) (v := .ag [v₁₅, v₁₆, v₁₇, v₁₈, v₁₉, v₂₀]) rfl rfl) ?_
    refine WO_v (a_ext (vs := [.ag [v₁₅, v₁₆, v₁₇, v₁₈, v₁₉, v₂₀], .i .i64 x15]) (v := .i .i64 x15) rfl rfl) ?_
    refine WO_x (hO₁₈.alloc (cs := [.sn, .sn, .sn, .sn, .sn, .sn]) hO₁₈.fr) ?_
    rintro _ k₁₉ ⟨r₄, rfl, n₄, f₆, hW⟩
    have hO₁₉ : Own B h k₁₉ [eSl eInt v₁₅ x14.Chains.X, eSl eInt v₁₆ x14.Chains.Y, eSl eV v₁₇ vs₅, eAll eInt vs₅ x14.Chains.Vert, eSl eV v₁₈ vs₆, eAll eInt vs₆ x14.Chains.Horz, eSl e_T_api_Arc v₁₉ x14.H, eSl e_T_api_Arc v₂₀ x14.V, eBox r₄ [.sn, .sn, .sn, .sn, .sn, .sn]] := hW
    refine WO_x (hO₁₉.stb (ws := [v₁₅, v₁₆, v₁₇, v₁₈, v₁₉, v₂₀]) (cs' := [v₁₅, v₁₆, v₁₇, v₁₈, v₁₉, v₂₀]) (v := .ag [v₁₅, v₁₆, v₁₇, v₁₈, v₁₉, v₂₀]) 8 rfl rfl rfl rfl ⟨rfl, Nat.le_of_ble_eq_true rfl, (all_cons (hO₁₉.sl 0 rfl : Sl eInt k₁₉ v₁₅ x14.Chains.X).oneV (all_cons (hO₁₉.sl 1 rfl : Sl eInt k₁₉ v₁₆ x14.Chains.Y).oneV (all_cons (hO₁₉.sl 2 rfl : Sl eV k₁₉ v₁₇ vs₅).oneV (all_cons (hO₁₉.sl 4 rfl : Sl eV k₁₉ v₁₈ vs₆).oneV (all_cons (hO₁₉.sl 6 rfl : Sl e_T_api_Arc k₁₉ v₁₉ x14.H).oneV (all_cons (hO₁₉.sl 7 rfl : Sl e_T_api_Arc k₁₉ v₂₀ x14.V).oneV all_nil))))))⟩ rfl) ?_
    rintro _ k₂₀ ⟨rfl, f₇, m₃, hW⟩
    have hO₂₀ : Own B h k₂₀ [eSl eInt v₁₅ x14.Chains.X, eSl eInt v₁₆ x14.Chains.Y, eSl eV v₁₇ vs₅, eAll eInt vs₅ x14.Chains.Vert, eSl eV v₁₈ vs₆, eAll eInt vs₆ x14.Chains.Horz, eSl e_T_api_Arc v₁₉ x14.H, eSl e_T_api_Arc v₂₀ x14.V, eBox r₄ [v₁₅, v₁₆, v₁₇, v₁₈, v₁₉, v₂₀]] := hW
    refine WO_v (a_mv (v := .i .i64 x15) rfl) ?_
    refine WO_end ?_
    refine then_n ?_
    refine W_sq ?_
    refine W_sq ?_
    refine W_rg ?_
    refine WO_v (a_mv (v := (V.cut v_raw 0 (min (raw.length : Int) 5 : Int).toNat)) rfl) ?_
    obtain ⟨x16, hx₁₂, hp⟩ := bd_some hp
    obtain ⟨u₁₂, k₂₁, ca₁₂, rfl, hW₁₂⟩ := p_muntinref10_Check.ok (h := k₂₀)  (Sl.cutU (hO₂₀.rd0 s_raw.rd : Sl e_T_api_Cell k₂₀ v_raw raw) c₁ : Sl e_T_api_Cell k₂₀ (V.cut v_raw 0 (min (raw.length : Int) 5 : Int).toNat) (raw.take (min (raw.length : Int) 5 : Int).toNat)) hx₁₂
    refine WO_c (id := 34) (caps := []) rfl (mp_cons (v := (V.cut v_raw 0 (min (raw.length : Int) 5 : Int).toNat)) rfl mp_nil) ca₁₂ ?_
    have hO₂₁ : Own B h k₂₁ [eSl eInt v₁₅ x14.Chains.X, eSl eInt v₁₆ x14.Chains.Y, eSl eV v₁₇ vs₅, eAll eInt vs₅ x14.Chains.Vert, eSl eV v₁₈ vs₆, eAll eInt vs₆ x14.Chains.Horz, eSl e_T_api_Arc v₁₉ x14.H, eSl e_T_api_Arc v₂₀ x14.V, eBox r₄ [v₁₅, v₁₆, v₁₇, v₁₈, v₁₉, v₂₀]] := hO₂₀.call hW₁₂ rfl
    refine WO_v (a_mv (v := .i .i64 x16) rfl) ?_
    refine WO_end ?_
    refine then_n ?_
    refine W_sq ?_
    refine W_rg ?_
    refine WO_v (a_mv (v := .i .i64 x16) rfl) ?_
    refine WO_v (a_neI (a := x16) (b := 0) rfl rfl) ?_
    refine WO_end ?_
    refine then_n ?_
    rcases if_some hp with ⟨b₇, hp⟩ | ⟨b₇, hp⟩
    · refine W_cT (t := (!(decide (x16 = 0)))) rfl b₇ ?_
      refine W_sq ?_
      refine W_rg ?_
      refine WO_v (a_mv (v := .i .i64 x15) rfl) ?_
      refine WO_v (a_mv (v := .i .i64 x16) rfl) ?_
      refine WO_v (a_eqI (a := x15) (b := x16) rfl rfl) ?_
      refine WO_v (a_mv (v := .b (decide (x15 = x16))) rfl) ?_
      obtain ⟨t, hv₁, hp⟩ := bd_some hp
      refine WO_cut 9 (fun fr' k' => k₂₁ = k' ∧ fr' 101 = .b t) ?_ ?_
      · clear hp; rcases if_some hv₁ with ⟨b₈, hp⟩ | ⟨b₈, hp⟩
        · skip
          refine WO_on rfl b₈ ?_
          refine WO_v (a_fa (r := r₄) (o := 0) (o' := 4) rfl rfl) ?_
          refine WO_on rfl b₈ ?_
          refine WO_v (a_ldb (cs := [v₁₅, v₁₆, v₁₇, v₁₈, v₁₉, v₂₀]) (v := v₁₉) (hO₂₁.box 8 rfl) rfl rfl) ?_
          refine WO_on rfl b₈ ?_
          refine WO_v (a_len (hO₂₁.sl 6 rfl : Sl e_T_api_Arc k₂₁ v₁₉ x14.H) rfl) ?_
          refine WO_on rfl b₈ ?_
          refine WO_v (a_fa (r := r₄) (o := 0) (o' := 5) rfl rfl) ?_
          refine WO_on rfl b₈ ?_
          refine WO_v (a_ldb (cs := [v₁₅, v₁₆, v₁₇, v₁₈, v₁₉, v₂₀]) (v := v₂₀) (hO₂₁.box 8 rfl) rfl rfl) ?_
          refine WO_on rfl b₈ ?_
          refine WO_v (a_len (hO₂₁.sl 7 rfl : Sl e_T_api_Arc k₂₁ v₂₀ x14.V) rfl) ?_
          refine WO_on rfl b₈ ?_
          obtain ⟨c₂, hp⟩ := ck_some hp
          refine WO_v (a_add (a := (x14.H.length : Int)) (b := (x14.V.length : Int)) rfl rfl c₂) ?_
          refine WO_on rfl b₈ ?_
          refine WO_v (a_eqI (a := ((x14.H.length : Int) + (x14.V.length : Int))) (b := 0) rfl rfl) ?_
          refine WO_v (a_pickT (t := (decide (x15 = x16))) (v := .b t) rfl b₈ (Eq.trans (b := V.b (decide ((x14.H.length : Int) + (x14.V.length : Int) = 0))) rfl (congrArg V.b (Option.some.inj hp)))) ?_
          refine WO_end ?_
          exact ⟨rfl, rfl⟩
        · skip
          refine WO_off rfl b₈ ?_
          refine WO_off rfl b₈ ?_
          refine WO_off rfl b₈ ?_
          refine WO_off rfl b₈ ?_
          refine WO_off rfl b₈ ?_
          refine WO_off rfl b₈ ?_
          refine WO_off rfl b₈ ?_
          refine WO_off rfl b₈ ?_
          refine WO_v (a_pickF (t := (decide (x15 = x16))) (v := .b t) rfl b₈ (Eq.trans (b := V.b false) rfl (congrArg V.b (Option.some.inj hp)))) ?_
          refine WO_end ?_
          exact ⟨rfl, rfl⟩
      rintro frg₁ _ ⟨rfl, g₁_101⟩
      refine WO_v (a_mv (v := .b t) g₁_101) ?_
      refine WO_end ?_
      refine then_n ?_
      refine W_rt ?_
      refine then_r ?_
      refine Ret_r (rs_t (n := 4) (v := .b t) rfl rs_nil) ?_
      have hp := Option.some.inj hp; subst hp
      exact (And.intro rfl (hO₂₁.pick [] rfl (by decide)))
    · refine W_cF (t := (!(decide (x16 = 0)))) rfl b₇ ?_
      refine W_sk ?_
      refine then_n ?_
      refine W_sq ?_
      refine W_rg ?_
      refine WO_v (a_mv (v := (V.cut v_raw 0 (min (raw.length : Int) 5 : Int).toNat)) rfl) ?_
      obtain ⟨⟨x17, x18⟩, hx₁₃, hp⟩ := bd_some hp
      obtain ⟨u₁₃, k₂₂, ca₁₃, v₂₁, v₂₂, v₂₃, vs₇, v₂₄, vs₈, rfl, hW₁₃⟩ := p_muntinref16_Of.ok (h := k₂₁)  (Sl.cutU (hO₂₁.rd0 s_raw.rd : Sl e_T_api_Cell k₂₁ v_raw raw) c₁ : Sl e_T_api_Cell k₂₁ (V.cut v_raw 0 (min (raw.length : Int) 5 : Int).toNat) (raw.take (min (raw.length : Int) 5 : Int).toNat)) hx₁₃
      refine WO_c (id := 121) (caps := []) rfl (mp_cons (v := (V.cut v_raw 0 (min (raw.length : Int) 5 : Int).toNat)) rfl mp_nil) ca₁₃ ?_
      have hO₂₂ : Own B h k₂₂ [eSl eInt v₁₅ x14.Chains.X, eSl eInt v₁₆ x14.Chains.Y, eSl eV v₁₇ vs₅, eAll eInt vs₅ x14.Chains.Vert, eSl eV v₁₈ vs₆, eAll eInt vs₆ x14.Chains.Horz, eSl e_T_api_Arc v₁₉ x14.H, eSl e_T_api_Arc v₂₀ x14.V, eBox r₄ [v₁₅, v₁₆, v₁₇, v₁₈, v₁₉, v₂₀], eSl eInt v₂₁ x17.X, eSl eInt v₂₂ x17.Y, eSl eV v₂₃ vs₇, eAll eInt vs₇ x17.Vert, eSl eV v₂₄ vs₈, eAll eInt vs₈ x17.Horz] := hO₂₁.call hW₁₃ rfl
      refine WO_v (a_mv (v := .tu [.ag [v₂₁, v₂₂, v₂₃, v₂₄], .b x18]) rfl) ?_
      refine WO_v (a_ext (vs := [.ag [v₂₁, v₂₂, v₂₃, v₂₄], .b x18]) (v := .ag [v₂₁, v₂₂, v₂₃, v₂₄]) rfl rfl) ?_
      refine WO_v (a_ext (vs := [.ag [v₂₁, v₂₂, v₂₃, v₂₄], .b x18]) (v := .b x18) rfl rfl) ?_
      refine WO_x (hO₂₂.alloc (cs := [.sn, .sn, .sn, .sn]) hO₂₂.fr) ?_
      rintro _ k₂₃ ⟨r₅, rfl, n₅, f₈, hW⟩
      have hO₂₃ : Own B h k₂₃ [eSl eInt v₁₅ x14.Chains.X, eSl eInt v₁₆ x14.Chains.Y, eSl eV v₁₇ vs₅, eAll eInt vs₅ x14.Chains.Vert, eSl eV v₁₈ vs₆, eAll eInt vs₆ x14.Chains.Horz, eSl e_T_api_Arc v₁₉ x14.H, eSl e_T_api_Arc v₂₀ x14.V, eBox r₄ [v₁₅, v₁₆, v₁₇, v₁₈, v₁₉, v₂₀], eSl eInt v₂₁ x17.X, eSl eInt v₂₂ x17.Y, eSl eV v₂₃ vs₇, eAll eInt vs₇ x17.Vert, eSl eV v₂₄ vs₈, eAll eInt vs₈ x17.Horz, eBox r₅ [.sn, .sn, .sn, .sn]] := hW
      refine WO_x (hO₂₃.stb (ws := [v₂₁, v₂₂, v₂₃, v₂₄]) (cs' := [v₂₁, v₂₂, v₂₃, v₂₄]) (v := .ag [v₂₁, v₂₂, v₂₃, v₂₄]) 15 rfl rfl rfl rfl ⟨rfl, Nat.le_of_ble_eq_true rfl, (all_cons (hO₂₃.sl 9 rfl : Sl eInt k₂₃ v₂₁ x17.X).oneV (all_cons (hO₂₃.sl 10 rfl : Sl eInt k₂₃ v₂₂ x17.Y).oneV (all_cons (hO₂₃.sl 11 rfl : Sl eV k₂₃ v₂₃ vs₇).oneV (all_cons (hO₂₃.sl 13 rfl : Sl eV k₂₃ v₂₄ vs₈).oneV all_nil))))⟩ rfl) ?_
      rintro _ k₂₄ ⟨rfl, f₉, m₄, hW⟩
      have hO₂₄ : Own B h k₂₄ [eSl eInt v₁₅ x14.Chains.X, eSl eInt v₁₆ x14.Chains.Y, eSl eV v₁₇ vs₅, eAll eInt vs₅ x14.Chains.Vert, eSl eV v₁₈ vs₆, eAll eInt vs₆ x14.Chains.Horz, eSl e_T_api_Arc v₁₉ x14.H, eSl e_T_api_Arc v₂₀ x14.V, eBox r₄ [v₁₅, v₁₆, v₁₇, v₁₈, v₁₉, v₂₀], eSl eInt v₂₁ x17.X, eSl eInt v₂₂ x17.Y, eSl eV v₂₃ vs₇, eAll eInt vs₇ x17.Vert, eSl eV v₂₄ vs₈, eAll eInt vs₈ x17.Horz, eBox r₅ [v₂₁, v₂₂, v₂₃, v₂₄]] := hW
      refine WO_v (a_mv (v := .b x18) rfl) ?_
      refine WO_end ?_
      refine then_n ?_
      refine W_sq ?_
      refine W_rg ?_
      refine WO_v (a_mv (v := .b x18) rfl) ?_
      refine WO_v (a_mv (v := .i .i64 x15) rfl) ?_
      refine WO_v (a_eqI (a := x15) (b := 0) rfl rfl) ?_
      refine WO_v (a_eqB (a := x18) (b := (decide (x15 = 0))) rfl rfl) ?_
      refine WO_v (a_mv (v := .b (decide (x18 = (decide (x15 = 0))))) rfl) ?_
      refine WO_cut 6 (fun fr' k' => k₂₄ = k' ∧ fr' 117 = .b ((decide (x18 = (decide (x15 = 0)))) && (x18 || (decide (x15 = 10))))) ?_ ?_
      · rcases bc (decide (x18 = (decide (x15 = 0)))) with b₉ | b₉
        · skip
          refine WO_on rfl b₉ ?_
          refine WO_v (a_mv (v := .b x18) rfl) ?_
          refine WO_on rfl b₉ ?_
          refine WO_v (a_mv (v := .b x18) rfl) ?_
          refine WO_cut 3 (fun fr' k' => k₂₄ = k' ∧ fr' 116 = .b (x18 || (decide (x15 = 10))) ∧ fr' 111 = .b (decide (x18 = (decide (x15 = 0))))) ?_ ?_
          · rcases bc x18 with b₁₀ | b₁₀
            · skip
              refine WO_off rfl b₁₀ ?_
              refine WO_off rfl b₁₀ ?_
              refine WO_on rfl b₉ ?_
              refine WO_v (a_pickT (t := x18) (v := .b (x18 || (decide (x15 = 10)))) rfl b₁₀ (Eq.trans (b := V.b true) rfl (or_off b₁₀))) ?_
              refine WO_end ?_
              exact ⟨rfl, rfl, rfl⟩
            · skip
              refine WO_on rfl b₁₀ ?_
              refine WO_v (a_mv (v := .i .i64 x15) rfl) ?_
              refine WO_on rfl b₁₀ ?_
              refine WO_v (a_eqI (a := x15) (b := 10) rfl rfl) ?_
              refine WO_on rfl b₉ ?_
              refine WO_v (a_pickF (t := x18) (v := .b (x18 || (decide (x15 = 10)))) rfl b₁₀ (Eq.trans (b := V.b (decide (x15 = 10))) rfl (or_on b₁₀))) ?_
              refine WO_end ?_
              exact ⟨rfl, rfl, rfl⟩
          rintro frg₂ _ ⟨rfl, g₂_116, g₂_111⟩
          refine WO_v (a_pickT (t := (decide (x18 = (decide (x15 = 0))))) (v := .b ((decide (x18 = (decide (x15 = 0)))) && (x18 || (decide (x15 = 10))))) g₂_111 b₉ (Eq.trans (b := V.b (x18 || (decide (x15 = 10)))) g₂_116 (and_on b₉))) ?_
          refine WO_end ?_
          exact ⟨rfl, rfl⟩
        · skip
          refine WO_off rfl b₉ ?_
          refine WO_off rfl b₉ ?_
          refine WO_un rfl ?_
          refine WO_un rfl ?_
          refine WO_off rfl b₉ ?_
          refine WO_v (a_pickF (t := (decide (x18 = (decide (x15 = 0))))) (v := .b ((decide (x18 = (decide (x15 = 0)))) && (x18 || (decide (x15 = 10))))) rfl b₉ (Eq.trans (b := V.b false) rfl (and_off b₉))) ?_
          refine WO_end ?_
          exact ⟨rfl, rfl⟩
      rintro frg₃ _ ⟨rfl, g₃_117⟩
      refine WO_v (a_mv (v := .b ((decide (x18 = (decide (x15 = 0)))) && (x18 || (decide (x15 = 10))))) g₃_117) ?_
      refine WO_end ?_
      refine then_n ?_
      refine W_rt ?_
      refine Ret_r (rs_t (n := 4) (v := .b ((decide (x18 = (decide (x15 = 0)))) && (x18 || (decide (x15 = 10))))) rfl rs_nil) ?_
      have hp := Option.some.inj hp; subst hp
      exact (And.intro rfl (hO₂₄.pick [] rfl (by decide)))

end Mu
