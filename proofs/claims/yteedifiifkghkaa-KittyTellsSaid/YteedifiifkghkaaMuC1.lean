/- The code comes to what was worked out. -/
import Derived.Test.YteedifiifkghkaaMuDf
import Derived.Test.YteedifiifkghkaaMuPa
import Derived.Test.YteedifiifkghkaaMuC0
set_option linter.unusedVariables false
set_option linter.unnecessarySimpa false
set_option linter.unusedSimpArgs false
set_option maxHeartbeats 2000000
set_option maxRecDepth 10000
namespace Mu
open Go (IntKind BinOp UnOp)
theorem p_muntinlaw15_KittyTells.ok {h : Hp} {l : List Int} {a : T_kitty_Corner} {b : T_kitty_Corner} {v_l : V} (s_l : Sl e_i8 h v_l l) {r : Bool} (hp : p_muntinlaw15_KittyTells l a b = some r) :
    ∃ u k', Is G 3 [v_l, .ag (e_T_kitty_Corner.c a), .ag (e_T_kitty_Corner.c b)] h u k' ∧ V.b r = u ∧ Own (fun r => r < h.n) h k' [] := by
  refine WC.is (WC_of G_F_muntinlaw15_KittyTells ?_)
  unfold p_muntinlaw15_KittyTells at hp
  let B : Nat → Prop := (fun r => r < h.n)
  have hO : Own B h h [] := Own.start0 h
  refine W_sq ?_
  refine W_rg ?_
  refine WO_x (hO.boxd (v := .ag (e_T_kitty_Corner.c a)) (cs := e_T_kitty_Corner.c a) hO.fr rfl rfl) ?_
  rintro _ k₁ ⟨r₁, rfl, n₁, f₁, hW⟩
  have hO₁ : Own B h k₁ [eBox r₁ (e_T_kitty_Corner.c a)] := hW
  refine WO_x (hO₁.boxd (v := .ag (e_T_kitty_Corner.c b)) (cs := e_T_kitty_Corner.c b) hO₁.fr rfl rfl) ?_
  rintro _ k₂ ⟨r₂, rfl, n₂, f₂, hW⟩
  have hO₂ : Own B h k₂ [eBox r₁ (e_T_kitty_Corner.c a), eBox r₂ (e_T_kitty_Corner.c b)] := hW
  refine WO_v (a_mv (v := .b false) rfl) ?_
  refine WO_end ?_
  refine then_n ?_
  refine W_sq ?_
  refine W_sq ?_
  refine W_rg ?_
  refine WO_v (a_mv (v := v_l) rfl) ?_
  obtain ⟨x, hx₁, hp⟩ := bd_some hp
  obtain ⟨u₁, k₃, ca₁, v₁, rfl, hW₁⟩ := p_muntinlaw15_turns.ok (h := k₂)  (hO₂.rd0 s_l.rd : Sl e_i8 k₂ v_l l) hx₁
  refine WO_c (id := 18) (caps := []) rfl (mp_cons (v := v_l) rfl (mp_cons (v := .b false) rfl mp_nil)) ca₁ ?_
  have hO₃ : Own B h k₃ [eBox r₁ (e_T_kitty_Corner.c a), eBox r₂ (e_T_kitty_Corner.c b), eSl eInt v₁ x] := hO₂.call hW₁ rfl
  refine WO_v (a_mv (v := v_l) rfl) ?_
  obtain ⟨x1, hx₂, hp⟩ := bd_some hp
  obtain ⟨u₂, k₄, ca₂, v₂, rfl, hW₂⟩ := p_muntinlaw15_turns.ok (h := k₃)  (hO₃.rd0 s_l.rd : Sl e_i8 k₃ v_l l) hx₂
  refine WO_c (id := 18) (caps := []) rfl (mp_cons (v := v_l) rfl (mp_cons (v := .b true) rfl mp_nil)) ca₂ ?_
  have hO₄ : Own B h k₄ [eBox r₁ (e_T_kitty_Corner.c a), eBox r₂ (e_T_kitty_Corner.c b), eSl eInt v₁ x, eSl eInt v₂ x1] := hO₃.call hW₂ rfl
  refine WO_x (hO₄.bsl (E := eV) (l := [v₁, v₂]) hO₄.fr (by rw [(ev_cons (v := v₁) rfl (ev_cons (v := v₂) rfl ev_nil))]; simp [fill, over, (hO₄.sl 2 rfl : Sl eInt k₄ v₁ x).cells, (hO₄.sl 3 rfl : Sl eInt k₄ v₂ x1).cells]) rfl) ?_
  rintro v₃ k₅ ⟨r₃, f₃, hW⟩
  have hO₅ : Own B h k₅ [eBox r₁ (e_T_kitty_Corner.c a), eBox r₂ (e_T_kitty_Corner.c b), eSl eInt v₁ x, eSl eInt v₂ x1, eSl eV v₃ [v₁, v₂]] := hW
  refine WO_v (a_lenN (n := ([x, x1]).length) (hO₅.sl 4 rfl : Sl eV k₅ v₃ [v₁, v₂]) rfl rfl) ?_
  refine WO_v (a_mv (v := .i .i64 0) rfl) ?_
  refine WO_end ?_
  refine then_n ?_
  refine W_bl ?_
  obtain ⟨o₁, ho₁, hp⟩ := bd_some hp
  refine W.mono (Q := fun e fr k => match (generalizing := false) o₁ with
      | .inl _ => e = (.exit 0) ∧ Own B h k []
      | .inr _ => e = .ret ∧ fr 6 = .b false ∧ Own B h k []) ?_ ?_
  · clear hp
    refine W_loopF (fun st fr k => match st with | x2 => fr 4 = .p r₁ 0 ∧ fr 5 = .p r₂ 0 ∧ fr 29 = v₃ ∧ fr 30 = .i .i64 ([x, x1].length : Int) ∧ fr 31 = .i .i64 x2 ∧ Own B h k [eBox r₁ (e_T_kitty_Corner.c a), eBox r₂ (e_T_kitty_Corner.c b), eSl eV v₃ [v₁, v₂], eSl eInt v₁ x, eSl eInt v₂ x1]) ho₁ (s := 0) (And.intro (rfl) (And.intro (rfl) (And.intro (rfl) (And.intro (rfl) (And.intro (rfl) (hO₅.pick [0, 1, 4, 2, 3] rfl (by decide))))))) ?_
    rintro x2 q₂ k₇ ⟨q₂_4, q₂_5, q₂_29, q₂_30, q₂_31, hO₇⟩ o₂ hp
    dsimp only [p_muntinlaw15_KittyTells.s0] at hp
    refine W_sq ?_
    refine W_rg ?_
    refine WO_v (a_lss (a := x2) (b := ([x, x1].length : Int)) q₂_31 q₂_30) ?_
    refine WO_end ?_
    refine then_n ?_
    refine W_sq ?_
    rcases if_some hp with ⟨b₁, hp⟩ | ⟨b₁, hp⟩
    · refine W_cT (t := (decide (x2 < ([x, x1].length : Int)))) rfl b₁ ?_
      refine W_sk ?_
      refine then_n ?_
      refine W_sq ?_
      refine W_bl ?_
      refine W_sq ?_
      refine W_rg ?_
      obtain ⟨c₁, hp⟩ := ck_some hp
      refine WO_v (a_ixa (E := eV) (z := x2) (hO₇.sl 2 rfl : Sl eV k₇ v₃ [v₁, v₂]) q₂_29 q₂_31 c₁) ?_
      refine WO_v (a_ldE (w := (gi [v₁, v₂] (x2 : Int).toNat)) (hO₇.sl 2 rfl : Sl eV k₇ v₃ [v₁, v₂]) rfl (toNat_lt c₁) rfl) ?_
      refine WO_v (a_mv (v := (gi [v₁, v₂] (x2 : Int).toNat)) rfl) ?_
      refine WO_end ?_
      refine then_n ?_
      refine W_sq ?_
      refine W_rg ?_
      refine WO_v (a_mv (v := (gi [v₁, v₂] (x2 : Int).toNat)) rfl) ?_
      obtain ⟨x3, hx₃, hp⟩ := bd_some hp
      obtain ⟨u₃, k₈, ca₃, v₄, rfl, hW₃⟩ := p_kitty_Corners.ok (h := k₇)  (Lit.at (Lit.cons (hO₇.sl 3 rfl : Sl eInt k₇ v₁ x) (Lit.cons (hO₇.sl 4 rfl : Sl eInt k₇ v₂ x1) Lit.nil)) (toNat_lt c₁) : Sl eInt k₇ (gi [v₁, v₂] (x2 : Int).toNat) (gi [x, x1] (x2 : Int).toNat)) hx₃
      refine WO_c (id := 19) (caps := []) rfl (mp_cons (v := (gi [v₁, v₂] (x2 : Int).toNat)) rfl mp_nil) ca₃ ?_
      have hO₈ : Own B h k₈ [eBox r₁ (e_T_kitty_Corner.c a), eBox r₂ (e_T_kitty_Corner.c b), eSl eV v₃ [v₁, v₂], eSl eInt v₁ x, eSl eInt v₂ x1, eSl e_T_kitty_Corner v₄ x3] := hO₇.call hW₃ rfl
      refine WO_v (a_mv (v := (gi [v₁, v₂] (x2 : Int).toNat)) rfl) ?_
      obtain ⟨x4, hx₄, hp⟩ := bd_some hp
      obtain ⟨u₄, k₉, ca₄, v₅, rfl, hW₄⟩ := p_muntinref15_Corners.ok (h := k₈)  (Lit.at (Lit.cons (hO₈.sl 3 rfl : Sl eInt k₈ v₁ x) (Lit.cons (hO₈.sl 4 rfl : Sl eInt k₈ v₂ x1) Lit.nil)) (toNat_lt c₁) : Sl eInt k₈ (gi [v₁, v₂] (x2 : Int).toNat) (gi [x, x1] (x2 : Int).toNat)) hx₄
      refine WO_c (id := 20) (caps := []) rfl (mp_cons (v := (gi [v₁, v₂] (x2 : Int).toNat)) rfl mp_nil) ca₄ ?_
      have hO₉ : Own B h k₉ [eBox r₁ (e_T_kitty_Corner.c a), eBox r₂ (e_T_kitty_Corner.c b), eSl eV v₃ [v₁, v₂], eSl eInt v₁ x, eSl eInt v₂ x1, eSl e_T_kitty_Corner v₄ x3, eSl e_T_muntinref15_Corner v₅ x4] := hO₈.call hW₄ rfl
      refine WO_v (a_mv (v := v₄) rfl) ?_
      refine WO_v (a_mv (v := v₅) rfl) ?_
      refine WO_end ?_
      refine then_n ?_
      refine W_sq ?_
      refine W_sq ?_
      refine W_rg ?_
      refine WO_v (a_mv (v := v₄) rfl) ?_
      refine WO_v (a_len (hO₉.sl 5 rfl : Sl e_T_kitty_Corner k₉ v₄ x3) rfl) ?_
      refine WO_v (a_mv (v := v₅) rfl) ?_
      refine WO_v (a_len (hO₉.sl 6 rfl : Sl e_T_muntinref15_Corner k₉ v₅ x4) rfl) ?_
      refine WO_v (a_neI (a := (x3.length : Int)) (b := (x4.length : Int)) rfl rfl) ?_
      refine WO_end ?_
      refine then_n ?_
      rcases if_some hp with ⟨b₂, hp⟩ | ⟨b₂, hp⟩
      · refine W_cT (t := (!(decide ((x3.length : Int) = (x4.length : Int))))) rfl b₂ ?_
        refine W_sq ?_
        refine W_rg ?_
        refine WO_v (a_mv (v := .b false) rfl) ?_
        refine WO_end ?_
        refine then_n ?_
        refine W_rt ?_
        refine then_r ?_
        refine blk_r ?_
        refine then_r ?_
        have hp := Option.some.inj hp; subst hp
        refine (Or.inr (Exists.intro (.inr ()) (And.intro rfl (And.intro (fun h => nomatch h) (fun he => ?_)))))
        subst he; exact (And.intro rfl (And.intro (rfl) (hO₉.pick [] rfl (by decide))))
      · refine W_cF (t := (!(decide ((x3.length : Int) = (x4.length : Int))))) rfl b₂ ?_
        refine W_sk ?_
        refine then_n ?_
        refine W_sq ?_
        refine W_rg ?_
        refine WO_v (a_mv (v := (gi [v₁, v₂] (x2 : Int).toNat)) rfl) ?_
        obtain ⟨x5, hx₅, hp⟩ := bd_some hp
        obtain ⟨u₅, k₁₀, ca₅, rfl, hW₅⟩ := p_muntinref15_Good.ok (h := k₉)  (Lit.at (Lit.cons (hO₉.sl 3 rfl : Sl eInt k₉ v₁ x) (Lit.cons (hO₉.sl 4 rfl : Sl eInt k₉ v₂ x1) Lit.nil)) (toNat_lt c₁) : Sl eInt k₉ (gi [v₁, v₂] (x2 : Int).toNat) (gi [x, x1] (x2 : Int).toNat)) hx₅
        refine WO_c (id := 21) (caps := []) rfl (mp_cons (v := (gi [v₁, v₂] (x2 : Int).toNat)) rfl mp_nil) ca₅ ?_
        have hO₁₀ : Own B h k₁₀ [eBox r₁ (e_T_kitty_Corner.c a), eBox r₂ (e_T_kitty_Corner.c b), eSl eV v₃ [v₁, v₂], eSl eInt v₁ x, eSl eInt v₂ x1, eSl e_T_kitty_Corner v₄ x3, eSl e_T_muntinref15_Corner v₅ x4] := hO₉.call hW₅ rfl
        refine WO_v (a_mv (v := .b x5) rfl) ?_
        refine WO_end ?_
        refine then_n ?_
        refine W_sq ?_
        refine W_sq ?_
        refine W_rg ?_
        refine WO_v (a_mv (v := v₄) rfl) ?_
        refine WO_v (a_len (hO₁₀.sl 5 rfl : Sl e_T_kitty_Corner k₁₀ v₄ x3) rfl) ?_
        refine WO_v (a_mv (v := .i .i64 0) rfl) ?_
        refine WO_end ?_
        refine then_n ?_
        refine W_bl ?_
        obtain ⟨o₃, ho₂, hp⟩ := bd_some hp
        refine W.mono (Q := fun e fr k => match (generalizing := false) o₃ with
            | .inl _ => e = (.exit 2) ∧ fr 4 = .p r₁ 0 ∧ fr 5 = .p r₂ 0 ∧ fr 8 = (gi [v₁, v₂] (x2 : Int).toNat) ∧ fr 11 = .b x5 ∧ fr 29 = v₃ ∧ fr 30 = .i .i64 ([x, x1].length : Int) ∧ fr 31 = .i .i64 x2 ∧ Own B h k [eBox r₁ (e_T_kitty_Corner.c a), eBox r₂ (e_T_kitty_Corner.c b), eSl eInt v₁ x, eSl eInt v₂ x1, eSl eV v₃ [v₁, v₂]]
            | .inr _ => e = .ret ∧ fr 6 = .b false ∧ Own B h k []) ?_ ?_
        · clear hp
          refine W_loopF (fun st fr k => match st with | x6 => fr 4 = .p r₁ 0 ∧ fr 5 = .p r₂ 0 ∧ fr 8 = (gi [v₁, v₂] (x2 : Int).toNat) ∧ fr 9 = v₄ ∧ fr 10 = v₅ ∧ fr 11 = .b x5 ∧ fr 29 = v₃ ∧ fr 30 = .i .i64 ([x, x1].length : Int) ∧ fr 31 = .i .i64 x2 ∧ fr 47 = .i .i64 (x3.length : Int) ∧ fr 48 = .i .i64 x6 ∧ Own B h k [eBox r₁ (e_T_kitty_Corner.c a), eBox r₂ (e_T_kitty_Corner.c b), eSl eInt v₁ x, eSl eInt v₂ x1, eSl e_T_kitty_Corner v₄ x3, eSl e_T_muntinref15_Corner v₅ x4, eSl eV v₃ [v₁, v₂]]) ho₂ (s := 0) (And.intro (q₂_4) (And.intro (q₂_5) (And.intro (rfl) (And.intro (rfl) (And.intro (rfl) (And.intro (rfl) (And.intro (q₂_29) (And.intro (q₂_30) (And.intro (q₂_31) (And.intro (rfl) (And.intro (rfl) (hO₁₀.pick [0, 1, 3, 4, 5, 6, 2] rfl (by decide))))))))))))) ?_
          rintro x6 q₄ k₁₂ ⟨q₄_4, q₄_5, q₄_8, q₄_9, q₄_10, q₄_11, q₄_29, q₄_30, q₄_31, q₄_47, q₄_48, hO₁₂⟩ o₄ hp
          dsimp only [p_muntinlaw15_KittyTells.s1] at hp
          refine W_sq ?_
          refine W_rg ?_
          refine WO_v (a_lss (a := x6) (b := (x3.length : Int)) q₄_48 q₄_47) ?_
          refine WO_end ?_
          refine then_n ?_
          refine W_sq ?_
          rcases if_some hp with ⟨b₃, hp⟩ | ⟨b₃, hp⟩
          · refine W_cT (t := (decide (x6 < (x3.length : Int)))) rfl b₃ ?_
            refine W_sk ?_
            refine then_n ?_
            refine W_sq ?_
            refine W_bl ?_
            refine W_sq ?_
            refine W_rg ?_
            refine WO_v (a_mv (v := .i .i64 x6) q₄_48) ?_
            refine WO_v (a_mv (v := .i .i64 x6) rfl) ?_
            refine WO_end ?_
            refine then_n ?_
            refine W_sq ?_
            refine W_sq ?_
            refine W_qd ?_
            have hW := hO₁₂.bump 24
            have hO₁₃ : Own B h (k₁₂.bump 24) [eBox r₁ (e_T_kitty_Corner.c a), eBox r₂ (e_T_kitty_Corner.c b), eSl eInt v₁ x, eSl eInt v₂ x1, eSl e_T_kitty_Corner v₄ x3, eSl e_T_muntinref15_Corner v₅ x4, eSl eV v₃ [v₁, v₂]] := hW
            refine WQ_v rfl (a_mv (v := v₄) q₄_9) ?_
            refine WQ_v rfl (a_mv (v := .i .i64 x6) rfl) ?_
            obtain ⟨c₂, hp⟩ := ck_some hp
            refine WQ_v rfl (a_ixa (E := e_T_kitty_Corner) (z := x6) (hO₁₃.sl 4 rfl : Sl e_T_kitty_Corner (k₁₂.bump 24) v₄ x3) rfl rfl c₂) ?_
            refine WQ_v rfl (a_faE (off' := 0) (off2 := 0) (hO₁₃.sl 4 rfl : Sl e_T_kitty_Corner (k₁₂.bump 24) v₄ x3) (toNat_lt c₂) rfl rfl) ?_
            refine WQ_v rfl (a_ldE (w := .i .i64 ((gi x3 (x6 : Int).toNat).At)) (hO₁₃.sl 4 rfl : Sl e_T_kitty_Corner (k₁₂.bump 24) v₄ x3) rfl (toNat_lt c₂) rfl) ?_
            refine WQ_v rfl (a_mv (v := v₅) q₄_10) ?_
            refine WQ_v rfl (a_mv (v := .i .i64 x6) rfl) ?_
            obtain ⟨c₃, hp⟩ := ck_some hp
            refine WQ_v rfl (a_ixa (E := e_T_muntinref15_Corner) (z := x6) (hO₁₃.sl 5 rfl : Sl e_T_muntinref15_Corner (k₁₂.bump 24) v₅ x4) rfl rfl c₃) ?_
            refine WQ_v rfl (a_faE (off' := 0) (off2 := 0) (hO₁₃.sl 5 rfl : Sl e_T_muntinref15_Corner (k₁₂.bump 24) v₅ x4) (toNat_lt c₃) rfl rfl) ?_
            refine WQ_v rfl (a_ldE (w := .i .i64 ((gi x4 (x6 : Int).toNat).At)) (hO₁₃.sl 5 rfl : Sl e_T_muntinref15_Corner (k₁₂.bump 24) v₅ x4) rfl (toNat_lt c₃) rfl) ?_
            refine WQ_v rfl (a_neI (a := ((gi x3 (x6 : Int).toNat).At)) (b := ((gi x4 (x6 : Int).toNat).At)) rfl rfl) ?_
            refine WQ_v rfl (a_mv (v := .b (!(decide ((gi x3 (x6 : Int).toNat).At = (gi x4 (x6 : Int).toNat).At)))) rfl) ?_
            refine WQ_cut 12 (fun fr' k' => (k₁₂.bump 24) = k' ∧ fr' 74 = .b ((!(decide ((gi x3 (x6 : Int).toNat).At = (gi x4 (x6 : Int).toNat).At))) || (!(decide ((gi x3 (x6 : Int).toNat).Part = (gi x4 (x6 : Int).toNat).Part)))) ∧ fr' 10 = v₅ ∧ fr' 11 = .b x5 ∧ fr' 12 = .i .i64 x6 ∧ fr' 29 = v₃ ∧ fr' 30 = .i .i64 ([x, x1].length : Int) ∧ fr' 31 = .i .i64 x2 ∧ fr' 4 = .p r₁ 0 ∧ fr' 47 = .i .i64 (x3.length : Int) ∧ fr' 48 = .i .i64 x6 ∧ fr' 5 = .p r₂ 0 ∧ fr' 8 = (gi [v₁, v₂] (x2 : Int).toNat) ∧ fr' 9 = v₄) ?_ ?_
            · rcases bc (!(decide ((gi x3 (x6 : Int).toNat).At = (gi x4 (x6 : Int).toNat).At))) with b₄ | b₄
              · skip
                refine WQ_off rfl b₄ ?_
                refine WQ_off rfl b₄ ?_
                refine WQ_off rfl b₄ ?_
                refine WQ_off rfl b₄ ?_
                refine WQ_off rfl b₄ ?_
                refine WQ_off rfl b₄ ?_
                refine WQ_off rfl b₄ ?_
                refine WQ_off rfl b₄ ?_
                refine WQ_off rfl b₄ ?_
                refine WQ_off rfl b₄ ?_
                refine WQ_off rfl b₄ ?_
                refine WQ_v rfl (a_pickT (t := (!(decide ((gi x3 (x6 : Int).toNat).At = (gi x4 (x6 : Int).toNat).At)))) (v := .b ((!(decide ((gi x3 (x6 : Int).toNat).At = (gi x4 (x6 : Int).toNat).At))) || (!(decide ((gi x3 (x6 : Int).toNat).Part = (gi x4 (x6 : Int).toNat).Part))))) rfl b₄ (Eq.trans (b := V.b true) rfl (or_off b₄))) ?_
                refine WQ_end ?_
                exact ⟨rfl, rfl, q₄_10, q₄_11, rfl, q₄_29, q₄_30, q₄_31, q₄_4, q₄_47, q₄_48, q₄_5, q₄_8, q₄_9⟩
              · skip
                refine WQ_on rfl b₄ ?_
                refine WQ_v rfl (a_mv (v := v₄) q₄_9) ?_
                refine WQ_on rfl b₄ ?_
                refine WQ_v rfl (a_mv (v := .i .i64 x6) rfl) ?_
                refine WQ_on rfl b₄ ?_
                refine WQ_v rfl (a_ixa (E := e_T_kitty_Corner) (z := x6) (hO₁₃.sl 4 rfl : Sl e_T_kitty_Corner (k₁₂.bump 24) v₄ x3) rfl rfl c₂) ?_
                refine WQ_on rfl b₄ ?_
                refine WQ_v rfl (a_faE (off' := 0) (off2 := 1) (hO₁₃.sl 4 rfl : Sl e_T_kitty_Corner (k₁₂.bump 24) v₄ x3) (toNat_lt c₂) rfl rfl) ?_
                refine WQ_on rfl b₄ ?_
                refine WQ_v rfl (a_ldE (w := .i .i64 ((gi x3 (x6 : Int).toNat).Part)) (hO₁₃.sl 4 rfl : Sl e_T_kitty_Corner (k₁₂.bump 24) v₄ x3) rfl (toNat_lt c₂) rfl) ?_
                refine WQ_on rfl b₄ ?_
                refine WQ_v rfl (a_mv (v := v₅) q₄_10) ?_
                refine WQ_on rfl b₄ ?_
                refine WQ_v rfl (a_mv (v := .i .i64 x6) rfl) ?_
                refine WQ_on rfl b₄ ?_
                refine WQ_v rfl (a_ixa (E := e_T_muntinref15_Corner) (z := x6) (hO₁₃.sl 5 rfl : Sl e_T_muntinref15_Corner (k₁₂.bump 24) v₅ x4) rfl rfl c₃) ?_
                refine WQ_on rfl b₄ ?_
                refine WQ_v rfl (a_faE (off' := 0) (off2 := 1) (hO₁₃.sl 5 rfl : Sl e_T_muntinref15_Corner (k₁₂.bump 24) v₅ x4) (toNat_lt c₃) rfl rfl) ?_
                refine WQ_on rfl b₄ ?_
                refine WQ_v rfl (a_ldE (w := .i .i64 ((gi x4 (x6 : Int).toNat).Part)) (hO₁₃.sl 5 rfl : Sl e_T_muntinref15_Corner (k₁₂.bump 24) v₅ x4) rfl (toNat_lt c₃) rfl) ?_
                refine WQ_on rfl b₄ ?_
                refine WQ_v rfl (a_neI (a := ((gi x3 (x6 : Int).toNat).Part)) (b := ((gi x4 (x6 : Int).toNat).Part)) rfl rfl) ?_
                refine WQ_v rfl (a_pickF (t := (!(decide ((gi x3 (x6 : Int).toNat).At = (gi x4 (x6 : Int).toNat).At)))) (v := .b ((!(decide ((gi x3 (x6 : Int).toNat).At = (gi x4 (x6 : Int).toNat).At))) || (!(decide ((gi x3 (x6 : Int).toNat).Part = (gi x4 (x6 : Int).toNat).Part))))) rfl b₄ (Eq.trans (b := V.b (!(decide ((gi x3 (x6 : Int).toNat).Part = (gi x4 (x6 : Int).toNat).Part)))) rfl (or_on b₄))) ?_
                refine WQ_end ?_
                exact ⟨rfl, rfl, q₄_10, q₄_11, rfl, q₄_29, q₄_30, q₄_31, q₄_4, q₄_47, q₄_48, q₄_5, q₄_8, q₄_9⟩
            rintro frg₁ _ ⟨rfl, g₁_74, g₁_10, g₁_11, g₁_12, g₁_29, g₁_30, g₁_31, g₁_4, g₁_47, g₁_48, g₁_5, g₁_8, g₁_9⟩
            refine WQ_end ?_
            refine then_n ?_
            rcases if_some hp with ⟨b₅, hp⟩ | ⟨b₅, hp⟩
            · refine W_cT (t := ((!(decide ((gi x3 (x6 : Int).toNat).At = (gi x4 (x6 : Int).toNat).At))) || (!(decide ((gi x3 (x6 : Int).toNat).Part = (gi x4 (x6 : Int).toNat).Part))))) g₁_74 b₅ ?_
              refine W_sq ?_
              refine W_rg ?_
              refine WO_v (a_mv (v := .b false) rfl) ?_
              refine WO_end ?_
              refine then_n ?_
              refine W_rt ?_
              refine then_r ?_
              refine blk_r ?_
              refine then_r ?_
              have hp := Option.some.inj hp; subst hp
              refine (Or.inr (Exists.intro (.inr ()) (And.intro rfl (And.intro (fun h => nomatch h) (fun he => ?_)))))
              subst he; exact (And.intro rfl (And.intro (rfl) (hO₁₃.pick [] rfl (by decide))))
            · refine W_cF (t := ((!(decide ((gi x3 (x6 : Int).toNat).At = (gi x4 (x6 : Int).toNat).At))) || (!(decide ((gi x3 (x6 : Int).toNat).Part = (gi x4 (x6 : Int).toNat).Part))))) g₁_74 b₅ ?_
              refine W_sk ?_
              refine then_n ?_
              refine W_sq ?_
              refine W_rg ?_
              refine WO_v (a_mv (v := v₄) g₁_9) ?_
              refine WO_v (a_len (hO₁₃.sl 4 rfl : Sl e_T_kitty_Corner (k₁₂.bump 24) v₄ x3) rfl) ?_
              refine WO_v (a_mv (v := .i .i64 0) rfl) ?_
              refine WO_end ?_
              refine then_n ?_
              refine W_bl ?_
              obtain ⟨o₅, ho₃, hp⟩ := bd_some hp
              refine W.mono (Q := fun e fr k => match (generalizing := false) o₅ with
                  | .inl _ => e = (.exit 4) ∧ fr 4 = .p r₁ 0 ∧ fr 5 = .p r₂ 0 ∧ fr 8 = (gi [v₁, v₂] (x2 : Int).toNat) ∧ fr 9 = v₄ ∧ fr 10 = v₅ ∧ fr 11 = .b x5 ∧ fr 29 = v₃ ∧ fr 30 = .i .i64 ([x, x1].length : Int) ∧ fr 31 = .i .i64 x2 ∧ fr 47 = .i .i64 (x3.length : Int) ∧ fr 48 = .i .i64 x6 ∧ Own B h k [eBox r₁ (e_T_kitty_Corner.c a), eBox r₂ (e_T_kitty_Corner.c b), eSl eInt v₁ x, eSl eInt v₂ x1, eSl e_T_kitty_Corner v₄ x3, eSl e_T_muntinref15_Corner v₅ x4, eSl eV v₃ [v₁, v₂]]
                  | .inr _ => e = .ret ∧ fr 6 = .b false ∧ Own B h k []) ?_ ?_
              · clear hp
                refine W_loopF (fun st fr k => match st with | x7 => fr 4 = .p r₁ 0 ∧ fr 5 = .p r₂ 0 ∧ fr 8 = (gi [v₁, v₂] (x2 : Int).toNat) ∧ fr 9 = v₄ ∧ fr 10 = v₅ ∧ fr 11 = .b x5 ∧ fr 12 = .i .i64 x6 ∧ fr 29 = v₃ ∧ fr 30 = .i .i64 ([x, x1].length : Int) ∧ fr 31 = .i .i64 x2 ∧ fr 47 = .i .i64 (x3.length : Int) ∧ fr 48 = .i .i64 x6 ∧ fr 76 = .i .i64 (x3.length : Int) ∧ fr 77 = .i .i64 x7 ∧ Own B h k [eBox r₁ (e_T_kitty_Corner.c a), eBox r₂ (e_T_kitty_Corner.c b), eSl eInt v₁ x, eSl eInt v₂ x1, eSl e_T_kitty_Corner v₄ x3, eSl e_T_muntinref15_Corner v₅ x4, eSl eV v₃ [v₁, v₂]]) ho₃ (s := 0) (And.intro (g₁_4) (And.intro (g₁_5) (And.intro (g₁_8) (And.intro (g₁_9) (And.intro (g₁_10) (And.intro (g₁_11) (And.intro (g₁_12) (And.intro (g₁_29) (And.intro (g₁_30) (And.intro (g₁_31) (And.intro (g₁_47) (And.intro (g₁_48) (And.intro (rfl) (And.intro (rfl) (hO₁₃.pick [0, 1, 2, 3, 4, 5, 6] rfl (by decide)))))))))))))))) ?_
                rintro x7 q₆ k₁₅ ⟨q₆_4, q₆_5, q₆_8, q₆_9, q₆_10, q₆_11, q₆_12, q₆_29, q₆_30, q₆_31, q₆_47, q₆_48, q₆_76, q₆_77, hO₁₅⟩ o₆ hp
                dsimp only [p_muntinlaw15_KittyTells.s2] at hp
                refine W_sq ?_
                refine W_rg ?_
                refine WO_v (a_lss (a := x7) (b := (x3.length : Int)) q₆_77 q₆_76) ?_
                refine WO_end ?_
                refine then_n ?_
                refine W_sq ?_
                rcases if_some hp with ⟨b₆, hp⟩ | ⟨b₆, hp⟩
                · refine W_cT (t := (decide (x7 < (x3.length : Int)))) rfl b₆ ?_
                  refine W_sk ?_
                  refine then_n ?_
                  refine W_sq ?_
                  refine W_bl ?_
                  refine W_sq ?_
                  refine W_rg ?_
                  refine WO_v (a_mv (v := .i .i64 x7) q₆_77) ?_
                  refine WO_v (a_mv (v := .i .i64 x7) rfl) ?_
                  refine WO_end ?_
                  refine then_n ?_
                  refine W_sq ?_
                  refine W_dr ?_
                  have hW := hO₁₅.bump 15
                  have fr₁ := Fresh.start k₁₅ 15
                  have nb₁ : ∀ {i : Nat}, h.n ≤ k₁₅.n + i := Nat.le_trans hO₁₅.n (Nat.le_add_right _ _)
                  have hO₁₆ : Own B h (k₁₅.bump 15) [eBox r₁ (e_T_kitty_Corner.c a), eBox r₂ (e_T_kitty_Corner.c b), eSl eInt v₁ x, eSl eInt v₂ x1, eSl e_T_kitty_Corner v₄ x3, eSl e_T_muntinref15_Corner v₅ x4, eSl eV v₃ [v₁, v₂]] := hW
                  refine WD_v (a_mv (v := (gi [v₁, v₂] (x2 : Int).toNat)) q₆_8) ?_
                  refine WD_v (a_mv (v := v₄) q₆_9) ?_
                  refine WD_v (a_mv (v := .i .i64 x6) q₆_12) ?_
                  refine WD_v (a_ixa (E := e_T_kitty_Corner) (z := x6) (hO₁₆.sl 4 rfl : Sl e_T_kitty_Corner (k₁₅.bump 15) v₄ x3) rfl rfl c₂) ?_
                  refine WD_v (a_ldA (E := e_T_kitty_Corner) (hO₁₆.sl 4 rfl : Sl e_T_kitty_Corner (k₁₅.bump 15) v₄ x3) rfl (toNat_lt c₂)) ?_
                  refine WD_v (a_mv (v := v₄) q₆_9) ?_
                  refine WD_v (a_mv (v := .i .i64 x7) rfl) ?_
                  obtain ⟨c₄, hp⟩ := ck_some hp
                  refine WD_v (a_ixa (E := e_T_kitty_Corner) (z := x7) (hO₁₆.sl 4 rfl : Sl e_T_kitty_Corner (k₁₅.bump 15) v₄ x3) rfl rfl c₄) ?_
                  refine WD_v (a_ldA (E := e_T_kitty_Corner) (hO₁₆.sl 4 rfl : Sl e_T_kitty_Corner (k₁₅.bump 15) v₄ x3) rfl (toNat_lt c₄)) ?_
                  obtain ⟨⟨x8, x9⟩, hx₆, hp⟩ := bd_some hp
                  obtain ⟨u₆, k₁₇, ca₆, rfl, hW₆⟩ := p_kitty_Rot.ok (h := (k₁₅.bump 15))  (Lit.at (Lit.cons (hO₁₆.sl 2 rfl : Sl eInt (k₁₅.bump 15) v₁ x) (Lit.cons (hO₁₆.sl 3 rfl : Sl eInt (k₁₅.bump 15) v₂ x1) Lit.nil)) (toNat_lt c₁) : Sl eInt (k₁₅.bump 15) (gi [v₁, v₂] (x2 : Int).toNat) (gi [x, x1] (x2 : Int).toNat)) hx₆
                  refine WD_c (id := 22) (caps := []) rfl (mp_cons (v := (gi [v₁, v₂] (x2 : Int).toNat)) rfl (mp_cons (v := .ag (e_T_kitty_Corner.c (gi x3 (x6 : Int).toNat))) rfl (mp_cons (v := .ag (e_T_kitty_Corner.c (gi x3 (x7 : Int).toNat))) rfl mp_nil))) ca₆ ?_
                  have fr₂ := fr₁.call hW₆
                  have hO₁₇ : Own B h k₁₇ [eBox r₁ (e_T_kitty_Corner.c a), eBox r₂ (e_T_kitty_Corner.c b), eSl eInt v₁ x, eSl eInt v₂ x1, eSl e_T_kitty_Corner v₄ x3, eSl e_T_muntinref15_Corner v₅ x4, eSl eV v₃ [v₁, v₂]] := hO₁₆.call hW₆ rfl
                  refine WD_v (a_mv (v := .tu [.i .i64 x8, .i .i64 x9]) rfl) ?_
                  refine WD_v (a_ext (vs := [.i .i64 x8, .i .i64 x9]) (v := .i .i64 x8) rfl rfl) ?_
                  refine WD_v (a_ext (vs := [.i .i64 x8, .i .i64 x9]) (v := .i .i64 x9) rfl rfl) ?_
                  refine WD_v (a_mv (v := .i .i64 x8) rfl) ?_
                  refine WD_v (a_mv (v := .i .i64 x9) rfl) ?_
                  refine WD_end ?_
                  refine And.intro ?_ ?_
                  · intro q hq
                    simp only [List.mem_cons, List.not_mem_nil, or_false] at hq
                    rcases hq with rfl
                    · refine ap_ll ?_ ?_
                      · exact (fun h => nomatch h)
                      · exact (fun h => nomatch h)
                  refine then_n ?_
                  refine W_sq ?_
                  refine W_dr ?_
                  have hW := hO₁₇.bump 33
                  have fr₃ := Fresh.start k₁₇ 33
                  have nb₂ : ∀ {i : Nat}, h.n ≤ k₁₇.n + i := Nat.le_trans hO₁₇.n (Nat.le_add_right _ _)
                  have hO₁₈ : Own B h (k₁₇.bump 33) [eBox r₁ (e_T_kitty_Corner.c a), eBox r₂ (e_T_kitty_Corner.c b), eSl eInt v₁ x, eSl eInt v₂ x1, eSl e_T_kitty_Corner v₄ x3, eSl e_T_muntinref15_Corner v₅ x4, eSl eV v₃ [v₁, v₂]] := hW
                  refine WD_v (a_mv (v := .i .i64 x9) rfl) ?_
                  refine WD_v (a_eqI (a := x9) (b := 0) rfl rfl) ?_
                  refine WD_v (a_mv (v := .b x5) q₆_11) ?_
                  refine WD_v (a_neB (a := (decide (x9 = 0))) (b := x5) rfl rfl) ?_
                  refine WD_v (a_mv (v := .b (!(decide ((decide (x9 = 0)) = x5)))) rfl) ?_
                  rcases if_some hp with ⟨b₇, hp⟩ | ⟨b₇, hp⟩
                  · skip
                    refine WD_off rfl b₇ ?_
                    refine WD_off rfl b₇ ?_
                    refine WD_un rfl ?_
                    refine WD_un rfl ?_
                    refine WD_un rfl ?_
                    refine WD_un rfl ?_
                    refine WD_un rfl ?_
                    refine WD_un rfl ?_
                    refine WD_un rfl ?_
                    refine WD_un rfl ?_
                    refine WD_un rfl ?_
                    refine WD_un rfl ?_
                    refine WD_un rfl ?_
                    refine WD_un rfl ?_
                    refine WD_off rfl b₇ ?_
                    refine WD_v (a_pickT (t := (!(decide ((decide (x9 = 0)) = x5)))) (v := .b true) rfl b₇ rfl) ?_
                    refine WD_v (a_mv (v := .b true) rfl) ?_
                    refine WD_off rfl rfl ?_
                    refine WD_off rfl rfl ?_
                    refine WD_off rfl rfl ?_
                    refine WD_un rfl ?_
                    refine WD_un rfl ?_
                    refine WD_un rfl ?_
                    refine WD_un rfl ?_
                    refine WD_un rfl ?_
                    refine WD_un rfl ?_
                    refine WD_off rfl rfl ?_
                    refine WD_v (a_pickT (t := true) (v := .b true) rfl rfl rfl) ?_
                    refine WD_end ?_
                    refine And.intro ?_ ?_
                    · intro q hq
                      simp only [List.mem_cons, List.not_mem_nil, or_false] at hq
                      rcases hq with rfl
                      · exact ap_n1
                    refine then_n ?_
                    refine W_cT (t := true) rfl rfl ?_
                    refine W_sq ?_
                    refine W_rg ?_
                    refine WO_v (a_mv (v := .b false) rfl) ?_
                    refine WO_end ?_
                    refine then_n ?_
                    refine W_rt ?_
                    refine blk_r ?_
                    refine then_r ?_
                    have hp := Option.some.inj hp; subst hp
                    refine (Or.inr (Exists.intro (.inr ()) (And.intro rfl (And.intro (fun h => nomatch h) (fun he => ?_)))))
                    subst he; exact (And.intro rfl (And.intro (rfl) (hO₁₈.pick [] rfl (by decide))))
                  · skip
                    refine WD_on rfl b₇ ?_
                    refine WD_v (a_mv (v := .b x5) q₆_11) ?_
                    refine WD_on rfl b₇ ?_
                    refine WD_v (a_mv (v := .b x5) rfl) ?_
                    rcases if_some hp with ⟨b₈, hp⟩ | ⟨b₈, hp⟩
                    · skip
                      refine WD_on rfl b₈ ?_
                      refine WD_v (a_mv (v := .i .i64 x8) rfl) ?_
                      refine WD_on rfl b₈ ?_
                      refine WD_v (a_mv (v := (gi [v₁, v₂] (x2 : Int).toNat)) q₆_8) ?_
                      refine WD_on rfl b₈ ?_
                      refine WD_v (a_mv (v := v₅) q₆_10) ?_
                      refine WD_on rfl b₈ ?_
                      refine WD_v (a_mv (v := .i .i64 x6) q₆_12) ?_
                      refine WD_on rfl b₈ ?_
                      refine WD_v (a_ixa (E := e_T_muntinref15_Corner) (z := x6) (hO₁₈.sl 5 rfl : Sl e_T_muntinref15_Corner (k₁₇.bump 33) v₅ x4) rfl rfl c₃) ?_
                      refine WD_on rfl b₈ ?_
                      refine WD_v (a_ldA (E := e_T_muntinref15_Corner) (hO₁₈.sl 5 rfl : Sl e_T_muntinref15_Corner (k₁₇.bump 33) v₅ x4) rfl (toNat_lt c₃)) ?_
                      refine WD_on rfl b₈ ?_
                      refine WD_v (a_mv (v := v₅) q₆_10) ?_
                      refine WD_on rfl b₈ ?_
                      refine WD_v (a_mv (v := .i .i64 x7) rfl) ?_
                      refine WD_on rfl b₈ ?_
                      obtain ⟨c₅, hp⟩ := ck_some hp
                      refine WD_v (a_ixa (E := e_T_muntinref15_Corner) (z := x7) (hO₁₈.sl 5 rfl : Sl e_T_muntinref15_Corner (k₁₇.bump 33) v₅ x4) rfl rfl c₅) ?_
                      refine WD_on rfl b₈ ?_
                      refine WD_v (a_ldA (E := e_T_muntinref15_Corner) (hO₁₈.sl 5 rfl : Sl e_T_muntinref15_Corner (k₁₇.bump 33) v₅ x4) rfl (toNat_lt c₅)) ?_
                      refine WD_on rfl b₈ ?_
                      obtain ⟨x10, hx₇, hp⟩ := bd_some hp
                      obtain ⟨u₇, k₁₉, ca₇, rfl, hW₇⟩ := p_muntinref15_Rot.ok (h := (k₁₇.bump 33))  (Lit.at (Lit.cons (hO₁₈.sl 2 rfl : Sl eInt (k₁₇.bump 33) v₁ x) (Lit.cons (hO₁₈.sl 3 rfl : Sl eInt (k₁₇.bump 33) v₂ x1) Lit.nil)) (toNat_lt c₁) : Sl eInt (k₁₇.bump 33) (gi [v₁, v₂] (x2 : Int).toNat) (gi [x, x1] (x2 : Int).toNat)) hx₇
                      refine WD_c (id := 23) (caps := []) rfl (mp_cons (v := (gi [v₁, v₂] (x2 : Int).toNat)) rfl (mp_cons (v := .ag (e_T_muntinref15_Corner.c (gi x4 (x6 : Int).toNat))) rfl (mp_cons (v := .ag (e_T_muntinref15_Corner.c (gi x4 (x7 : Int).toNat))) rfl mp_nil))) ca₇ ?_
                      have fr₄ := fr₃.call hW₇
                      have hO₁₉ : Own B h k₁₉ [eBox r₁ (e_T_kitty_Corner.c a), eBox r₂ (e_T_kitty_Corner.c b), eSl eInt v₁ x, eSl eInt v₂ x1, eSl e_T_kitty_Corner v₄ x3, eSl e_T_muntinref15_Corner v₅ x4, eSl eV v₃ [v₁, v₂]] := hO₁₈.call hW₇ rfl
                      refine WD_on rfl b₈ ?_
                      refine WD_v (a_neI (a := x8) (b := x10) rfl rfl) ?_
                      refine WD_on rfl b₇ ?_
                      refine WD_v (a_pickT (t := x5) (v := .b (!(decide (x8 = x10)))) rfl b₈ rfl) ?_
                      refine WD_v (a_pickF (t := (!(decide ((decide (x9 = 0)) = x5)))) (v := .b (!(decide (x8 = x10)))) rfl b₇ rfl) ?_
                      refine WD_v (a_mv (v := .b (!(decide (x8 = x10)))) rfl) ?_
                      rcases if_some hp with ⟨b₉, hp⟩ | ⟨b₉, hp⟩
                      · skip
                        refine WD_off rfl b₉ ?_
                        refine WD_off rfl b₉ ?_
                        refine WD_off rfl b₉ ?_
                        refine WD_un rfl ?_
                        refine WD_un rfl ?_
                        refine WD_un rfl ?_
                        refine WD_un rfl ?_
                        refine WD_un rfl ?_
                        refine WD_un rfl ?_
                        refine WD_off rfl b₉ ?_
                        refine WD_v (a_pickT (t := (!(decide (x8 = x10)))) (v := .b true) rfl b₉ rfl) ?_
                        refine WD_end ?_
                        refine And.intro ?_ ?_
                        · intro q hq
                          simp only [List.mem_cons, List.not_mem_nil, or_false] at hq
                          rcases hq with rfl
                          · refine ap_ll ?_ ?_
                            · exact (fun h => nomatch h)
                            · exact (fun h => nomatch h)
                        refine then_n ?_
                        refine W_cT (t := true) rfl rfl ?_
                        refine W_sq ?_
                        refine W_rg ?_
                        refine WO_v (a_mv (v := .b false) rfl) ?_
                        refine WO_end ?_
                        refine then_n ?_
                        refine W_rt ?_
                        refine blk_r ?_
                        refine then_r ?_
                        have hp := Option.some.inj hp; subst hp
                        refine (Or.inr (Exists.intro (.inr ()) (And.intro rfl (And.intro (fun h => nomatch h) (fun he => ?_)))))
                        subst he; exact (And.intro rfl (And.intro (rfl) (hO₁₉.pick [] rfl (by decide))))
                      · skip
                        refine WD_on rfl b₉ ?_
                        refine WD_v (a_mv (v := .b x5) q₆_11) ?_
                        refine WD_on rfl b₉ ?_
                        refine WD_v (a_not (t := x5) rfl) ?_
                        refine WD_on rfl b₉ ?_
                        refine WD_v (a_mv (v := .b (!x5)) rfl) ?_
                        rcases if_some hp with ⟨b₁₀, hp⟩ | ⟨b₁₀, hp⟩
                        · skip
                          refine WD_on rfl b₁₀ ?_
                          refine WD_v (a_mv (v := .i .i64 x9) rfl) ?_
                          refine WD_on rfl b₁₀ ?_
                          refine WD_v (a_neI (a := x9) (b := 2) rfl rfl) ?_
                          refine WD_on rfl b₁₀ ?_
                          refine WD_v (a_mv (v := .b (!(decide (x9 = 2)))) rfl) ?_
                          rcases if_some hp with ⟨b₁₁, hp⟩ | ⟨b₁₁, hp⟩
                          · skip
                            refine WD_off rfl b₁₁ ?_
                            refine WD_off rfl b₁₁ ?_
                            refine WD_on rfl b₁₀ ?_
                            refine WD_v (a_pickT (t := (!(decide (x9 = 2)))) (v := .b true) rfl b₁₁ rfl) ?_
                            refine WD_on rfl b₉ ?_
                            refine WD_v (a_pickT (t := (!x5)) (v := .b true) rfl b₁₀ rfl) ?_
                            refine WD_v (a_pickF (t := (!(decide (x8 = x10)))) (v := .b true) rfl b₉ rfl) ?_
                            refine WD_end ?_
                            refine And.intro ?_ ?_
                            · intro q hq
                              simp only [List.mem_cons, List.not_mem_nil, or_false] at hq
                              rcases hq with rfl
                              · refine ap_ll ?_ ?_
                                · exact (fun h => nomatch h)
                                · exact (fun h => nomatch h)
                            refine then_n ?_
                            refine W_cT (t := true) rfl rfl ?_
                            refine W_sq ?_
                            refine W_rg ?_
                            refine WO_v (a_mv (v := .b false) rfl) ?_
                            refine WO_end ?_
                            refine then_n ?_
                            refine W_rt ?_
                            refine blk_r ?_
                            refine then_r ?_
                            have hp := Option.some.inj hp; subst hp
                            refine (Or.inr (Exists.intro (.inr ()) (And.intro rfl (And.intro (fun h => nomatch h) (fun he => ?_)))))
                            subst he; exact (And.intro rfl (And.intro (rfl) (hO₁₉.pick [] rfl (by decide))))
                          · skip
                            refine WD_on rfl b₁₁ ?_
                            refine WD_v (a_mv (v := .i .i64 x8) rfl) ?_
                            refine WD_on rfl b₁₁ ?_
                            refine WD_v (a_neI (a := x8) (b := 0) rfl rfl) ?_
                            refine WD_on rfl b₁₀ ?_
                            refine WD_v (a_pickF (t := (!(decide (x9 = 2)))) (v := .b (!(decide (x8 = 0)))) rfl b₁₁ rfl) ?_
                            refine WD_on rfl b₉ ?_
                            refine WD_v (a_pickT (t := (!x5)) (v := .b (!(decide (x8 = 0)))) rfl b₁₀ rfl) ?_
                            refine WD_v (a_pickF (t := (!(decide (x8 = x10)))) (v := .b (!(decide (x8 = 0)))) rfl b₉ rfl) ?_
                            refine WD_end ?_
                            refine And.intro ?_ ?_
                            · intro q hq
                              simp only [List.mem_cons, List.not_mem_nil, or_false] at hq
                              rcases hq with rfl
                              · refine ap_ll ?_ ?_
                                · exact (fun h => nomatch h)
                                · exact (fun h => nomatch h)
                            refine then_n ?_
                            rcases if_some hp with ⟨b₁₂, hp⟩ | ⟨b₁₂, hp⟩
                            · refine W_cT (t := (!(decide (x8 = 0)))) rfl b₁₂ ?_
                              refine W_sq ?_
                              refine W_rg ?_
                              refine WO_v (a_mv (v := .b false) rfl) ?_
                              refine WO_end ?_
                              refine then_n ?_
                              refine W_rt ?_
                              refine blk_r ?_
                              refine then_r ?_
                              have hp := Option.some.inj hp; subst hp
                              refine (Or.inr (Exists.intro (.inr ()) (And.intro rfl (And.intro (fun h => nomatch h) (fun he => ?_)))))
                              subst he; exact (And.intro rfl (And.intro (rfl) (hO₁₉.pick [] rfl (by decide))))
                            · refine W_cF (t := (!(decide (x8 = 0)))) rfl b₁₂ ?_
                              refine W_sk ?_
                              refine blk_n ?_
                              refine then_n ?_
                              refine W_rg ?_
                              obtain ⟨c₆, hp⟩ := ck_some hp
                              refine WO_v (a_add (a := x7) (b := 1) q₆_77 rfl c₆) ?_
                              refine WO_v (a_mv (v := .i .i64 (x7 + 1)) rfl) ?_
                              refine WO_end ?_
                              have hp := Option.some.inj hp; subst hp
                              exact (Or.inl (Exists.intro (x7 + 1) (And.intro rfl (And.intro rfl (And.intro (q₆_4) (And.intro (q₆_5) (And.intro (q₆_8) (And.intro (q₆_9) (And.intro (q₆_10) (And.intro (q₆_11) (And.intro (q₆_12) (And.intro (q₆_29) (And.intro (q₆_30) (And.intro (q₆_31) (And.intro (q₆_47) (And.intro (q₆_48) (And.intro (q₆_76) (And.intro (rfl) (hO₁₉.pick [0, 1, 2, 3, 4, 5, 6] rfl (by decide))))))))))))))))))))
                        · skip
                          refine WD_off rfl b₁₀ ?_
                          refine WD_off rfl b₁₀ ?_
                          refine WD_off rfl b₁₀ ?_
                          refine WD_un rfl ?_
                          refine WD_un rfl ?_
                          refine WD_off rfl b₁₀ ?_
                          refine WD_on rfl b₉ ?_
                          refine WD_v (a_pickF (t := (!x5)) (v := .b false) rfl b₁₀ rfl) ?_
                          refine WD_v (a_pickF (t := (!(decide (x8 = x10)))) (v := .b false) rfl b₉ rfl) ?_
                          refine WD_end ?_
                          refine And.intro ?_ ?_
                          · intro q hq
                            simp only [List.mem_cons, List.not_mem_nil, or_false] at hq
                            rcases hq with rfl
                            · refine ap_ll ?_ ?_
                              · exact (fun h => nomatch h)
                              · exact (fun h => nomatch h)
                          refine then_n ?_
                          refine W_cF (t := false) rfl rfl ?_
                          refine W_sk ?_
                          refine blk_n ?_
                          refine then_n ?_
                          refine W_rg ?_
                          obtain ⟨c₇, hp⟩ := ck_some hp
                          refine WO_v (a_add (a := x7) (b := 1) q₆_77 rfl c₇) ?_
                          refine WO_v (a_mv (v := .i .i64 (x7 + 1)) rfl) ?_
                          refine WO_end ?_
                          have hp := Option.some.inj hp; subst hp
                          exact (Or.inl (Exists.intro (x7 + 1) (And.intro rfl (And.intro rfl (And.intro (q₆_4) (And.intro (q₆_5) (And.intro (q₆_8) (And.intro (q₆_9) (And.intro (q₆_10) (And.intro (q₆_11) (And.intro (q₆_12) (And.intro (q₆_29) (And.intro (q₆_30) (And.intro (q₆_31) (And.intro (q₆_47) (And.intro (q₆_48) (And.intro (q₆_76) (And.intro (rfl) (hO₁₉.pick [0, 1, 2, 3, 4, 5, 6] rfl (by decide))))))))))))))))))))
                    · skip
                      refine WD_off rfl b₈ ?_
                      refine WD_off rfl b₈ ?_
                      refine WD_off rfl b₈ ?_
                      refine WD_off rfl b₈ ?_
                      refine WD_off rfl b₈ ?_
                      refine WD_off rfl b₈ ?_
                      refine WD_off rfl b₈ ?_
                      refine WD_off rfl b₈ ?_
                      refine WD_off rfl b₈ ?_
                      refine WD_off rfl b₈ ?_
                      refine WD_off rfl b₈ ?_
                      refine WD_off rfl b₈ ?_
                      refine WD_on rfl b₇ ?_
                      refine WD_v (a_pickF (t := x5) (v := .b false) rfl b₈ rfl) ?_
                      refine WD_v (a_pickF (t := (!(decide ((decide (x9 = 0)) = x5)))) (v := .b false) rfl b₇ rfl) ?_
                      refine WD_v (a_mv (v := .b false) rfl) ?_
                      refine WD_on rfl rfl ?_
                      refine WD_v (a_mv (v := .b x5) q₆_11) ?_
                      refine WD_on rfl rfl ?_
                      refine WD_v (a_not (t := x5) rfl) ?_
                      refine WD_on rfl rfl ?_
                      refine WD_v (a_mv (v := .b (!x5)) rfl) ?_
                      rcases if_some hp with ⟨b₁₃, hp⟩ | ⟨b₁₃, hp⟩
                      · skip
                        refine WD_on rfl b₁₃ ?_
                        refine WD_v (a_mv (v := .i .i64 x9) rfl) ?_
                        refine WD_on rfl b₁₃ ?_
                        refine WD_v (a_neI (a := x9) (b := 2) rfl rfl) ?_
                        refine WD_on rfl b₁₃ ?_
                        refine WD_v (a_mv (v := .b (!(decide (x9 = 2)))) rfl) ?_
                        rcases if_some hp with ⟨b₁₄, hp⟩ | ⟨b₁₄, hp⟩
                        · skip
                          refine WD_off rfl b₁₄ ?_
                          refine WD_off rfl b₁₄ ?_
                          refine WD_on rfl b₁₃ ?_
                          refine WD_v (a_pickT (t := (!(decide (x9 = 2)))) (v := .b true) rfl b₁₄ rfl) ?_
                          refine WD_on rfl rfl ?_
                          refine WD_v (a_pickT (t := (!x5)) (v := .b true) rfl b₁₃ rfl) ?_
                          refine WD_v (a_pickF (t := false) (v := .b true) rfl rfl rfl) ?_
                          refine WD_end ?_
                          refine And.intro ?_ ?_
                          · intro q hq
                            simp only [List.mem_cons, List.not_mem_nil, or_false] at hq
                            rcases hq with rfl
                            · exact ap_n1
                          refine then_n ?_
                          refine W_cT (t := true) rfl rfl ?_
                          refine W_sq ?_
                          refine W_rg ?_
                          refine WO_v (a_mv (v := .b false) rfl) ?_
                          refine WO_end ?_
                          refine then_n ?_
                          refine W_rt ?_
                          refine blk_r ?_
                          refine then_r ?_
                          have hp := Option.some.inj hp; subst hp
                          refine (Or.inr (Exists.intro (.inr ()) (And.intro rfl (And.intro (fun h => nomatch h) (fun he => ?_)))))
                          subst he; exact (And.intro rfl (And.intro (rfl) (hO₁₈.pick [] rfl (by decide))))
                        · skip
                          refine WD_on rfl b₁₄ ?_
                          refine WD_v (a_mv (v := .i .i64 x8) rfl) ?_
                          refine WD_on rfl b₁₄ ?_
                          refine WD_v (a_neI (a := x8) (b := 0) rfl rfl) ?_
                          refine WD_on rfl b₁₃ ?_
                          refine WD_v (a_pickF (t := (!(decide (x9 = 2)))) (v := .b (!(decide (x8 = 0)))) rfl b₁₄ rfl) ?_
                          refine WD_on rfl rfl ?_
                          refine WD_v (a_pickT (t := (!x5)) (v := .b (!(decide (x8 = 0)))) rfl b₁₃ rfl) ?_
                          refine WD_v (a_pickF (t := false) (v := .b (!(decide (x8 = 0)))) rfl rfl rfl) ?_
                          refine WD_end ?_
                          refine And.intro ?_ ?_
                          · intro q hq
                            simp only [List.mem_cons, List.not_mem_nil, or_false] at hq
                            rcases hq with rfl
                            · exact ap_n1
                          refine then_n ?_
                          rcases if_some hp with ⟨b₁₅, hp⟩ | ⟨b₁₅, hp⟩
                          · refine W_cT (t := (!(decide (x8 = 0)))) rfl b₁₅ ?_
                            refine W_sq ?_
                            refine W_rg ?_
                            refine WO_v (a_mv (v := .b false) rfl) ?_
                            refine WO_end ?_
                            refine then_n ?_
                            refine W_rt ?_
                            refine blk_r ?_
                            refine then_r ?_
                            have hp := Option.some.inj hp; subst hp
                            refine (Or.inr (Exists.intro (.inr ()) (And.intro rfl (And.intro (fun h => nomatch h) (fun he => ?_)))))
                            subst he; exact (And.intro rfl (And.intro (rfl) (hO₁₈.pick [] rfl (by decide))))
                          · refine W_cF (t := (!(decide (x8 = 0)))) rfl b₁₅ ?_
                            refine W_sk ?_
                            refine blk_n ?_
                            refine then_n ?_
                            refine W_rg ?_
                            obtain ⟨c₈, hp⟩ := ck_some hp
                            refine WO_v (a_add (a := x7) (b := 1) q₆_77 rfl c₈) ?_
                            refine WO_v (a_mv (v := .i .i64 (x7 + 1)) rfl) ?_
                            refine WO_end ?_
                            have hp := Option.some.inj hp; subst hp
                            exact (Or.inl (Exists.intro (x7 + 1) (And.intro rfl (And.intro rfl (And.intro (q₆_4) (And.intro (q₆_5) (And.intro (q₆_8) (And.intro (q₆_9) (And.intro (q₆_10) (And.intro (q₆_11) (And.intro (q₆_12) (And.intro (q₆_29) (And.intro (q₆_30) (And.intro (q₆_31) (And.intro (q₆_47) (And.intro (q₆_48) (And.intro (q₆_76) (And.intro (rfl) (hO₁₈.pick [0, 1, 2, 3, 4, 5, 6] rfl (by decide))))))))))))))))))))
                      · skip
                        refine WD_off rfl b₁₃ ?_
                        refine WD_off rfl b₁₃ ?_
                        refine WD_off rfl b₁₃ ?_
                        refine WD_un rfl ?_
                        refine WD_un rfl ?_
                        refine WD_off rfl b₁₃ ?_
                        refine WD_on rfl rfl ?_
                        refine WD_v (a_pickF (t := (!x5)) (v := .b false) rfl b₁₃ rfl) ?_
                        refine WD_v (a_pickF (t := false) (v := .b false) rfl rfl rfl) ?_
                        refine WD_end ?_
                        refine And.intro ?_ ?_
                        · intro q hq
                          simp only [List.mem_cons, List.not_mem_nil, or_false] at hq
                          rcases hq with rfl
                          · exact ap_n1
                        refine then_n ?_
                        refine W_cF (t := false) rfl rfl ?_
                        refine W_sk ?_
                        refine blk_n ?_
                        refine then_n ?_
                        refine W_rg ?_
                        obtain ⟨c₉, hp⟩ := ck_some hp
                        refine WO_v (a_add (a := x7) (b := 1) q₆_77 rfl c₉) ?_
                        refine WO_v (a_mv (v := .i .i64 (x7 + 1)) rfl) ?_
                        refine WO_end ?_
                        have hp := Option.some.inj hp; subst hp
                        exact (Or.inl (Exists.intro (x7 + 1) (And.intro rfl (And.intro rfl (And.intro (q₆_4) (And.intro (q₆_5) (And.intro (q₆_8) (And.intro (q₆_9) (And.intro (q₆_10) (And.intro (q₆_11) (And.intro (q₆_12) (And.intro (q₆_29) (And.intro (q₆_30) (And.intro (q₆_31) (And.intro (q₆_47) (And.intro (q₆_48) (And.intro (q₆_76) (And.intro (rfl) (hO₁₈.pick [0, 1, 2, 3, 4, 5, 6] rfl (by decide))))))))))))))))))))
                · refine W_cF (t := (decide (x7 < (x3.length : Int)))) rfl b₆ ?_
                  refine W_ex ?_
                  refine then_e ?_
                  have hp := Option.some.inj hp; subst hp
                  refine (Or.inr (Exists.intro (.inl ()) (And.intro rfl (And.intro (fun h => nomatch h) (fun he => ?_)))))
                  subst he; exact (And.intro rfl (And.intro (q₆_4) (And.intro (q₆_5) (And.intro (q₆_8) (And.intro (q₆_9) (And.intro (q₆_10) (And.intro (q₆_11) (And.intro (q₆_29) (And.intro (q₆_30) (And.intro (q₆_31) (And.intro (q₆_47) (And.intro (q₆_48) (hO₁₅.pick [0, 1, 2, 3, 4, 5, 6] rfl (by decide))))))))))))))
              intro e₃ q₅ k₁₄ hJ₃
              rcases o₅ with _ | _
              · obtain ⟨rfl, q₅_4, q₅_5, q₅_8, q₅_9, q₅_10, q₅_11, q₅_29, q₅_30, q₅_31, q₅_47, q₅_48, hO₁₄⟩ := hJ₃
                refine blk_i ?_
                refine blk_n ?_
                refine then_n ?_
                refine W_rg ?_
                obtain ⟨c₁₀, hp⟩ := ck_some hp
                refine WO_v (a_add (a := x6) (b := 1) q₅_48 rfl c₁₀) ?_
                refine WO_v (a_mv (v := .i .i64 (x6 + 1)) rfl) ?_
                refine WO_end ?_
                have hp := Option.some.inj hp; subst hp
                exact (Or.inl (Exists.intro (x6 + 1) (And.intro rfl (And.intro rfl (And.intro (q₅_4) (And.intro (q₅_5) (And.intro (q₅_8) (And.intro (q₅_9) (And.intro (q₅_10) (And.intro (q₅_11) (And.intro (q₅_29) (And.intro (q₅_30) (And.intro (q₅_31) (And.intro (q₅_47) (And.intro (rfl) (hO₁₄.pick [0, 1, 2, 3, 4, 5, 6] rfl (by decide)))))))))))))))))
              · obtain ⟨rfl, q₅_6, hO₁₄⟩ := hJ₃
                refine blk_r ?_
                refine blk_r ?_
                refine then_r ?_
                have hp := Option.some.inj hp; subst hp
                refine (Or.inr (Exists.intro (.inr ()) (And.intro rfl (And.intro (fun h => nomatch h) (fun he => ?_)))))
                subst he; exact (And.intro rfl (And.intro (q₅_6) (hO₁₄.pick [] rfl (by decide))))
          · refine W_cF (t := (decide (x6 < (x3.length : Int)))) rfl b₃ ?_
            refine W_ex ?_
            refine then_e ?_
            have hp := Option.some.inj hp; subst hp
            refine (Or.inr (Exists.intro (.inl ()) (And.intro rfl (And.intro (fun h => nomatch h) (fun he => ?_)))))
            subst he; exact (And.intro rfl (And.intro (q₄_4) (And.intro (q₄_5) (And.intro (q₄_8) (And.intro (q₄_11) (And.intro (q₄_29) (And.intro (q₄_30) (And.intro (q₄_31) (hO₁₂.pick [0, 1, 2, 3, 6] rfl (by decide))))))))))
        intro e₂ q₃ k₁₁ hJ₂
        rcases o₃ with _ | _
        · obtain ⟨rfl, q₃_4, q₃_5, q₃_8, q₃_11, q₃_29, q₃_30, q₃_31, hO₁₁⟩ := hJ₂
          refine blk_i ?_
          refine then_n ?_
          refine W_sq ?_
          refine W_rg ?_
          refine WO_v (a_mv (v := (gi [v₁, v₂] (x2 : Int).toNat)) q₃_8) ?_
          obtain ⟨⟨x11, x12, x13⟩, hx₈, hp⟩ := bd_some hp
          obtain ⟨u₈, k₂₀, ca₈, rfl, hW₈⟩ := p_kitty_Pair.ok (h := k₁₁)  (Lit.at (Lit.cons (hO₁₁.sl 2 rfl : Sl eInt k₁₁ v₁ x) (Lit.cons (hO₁₁.sl 3 rfl : Sl eInt k₁₁ v₂ x1) Lit.nil)) (toNat_lt c₁) : Sl eInt k₁₁ (gi [v₁, v₂] (x2 : Int).toNat) (gi [x, x1] (x2 : Int).toNat)) hx₈
          refine WO_c (id := 24) (caps := []) rfl (mp_cons (v := (gi [v₁, v₂] (x2 : Int).toNat)) rfl mp_nil) ca₈ ?_
          have hO₂₀ : Own B h k₂₀ [eBox r₁ (e_T_kitty_Corner.c a), eBox r₂ (e_T_kitty_Corner.c b), eSl eInt v₁ x, eSl eInt v₂ x1, eSl eV v₃ [v₁, v₂]] := hO₁₁.call hW₈ rfl
          refine WO_v (a_mv (v := .tu [.ag (e_T_kitty_Corner.c x11), .ag (e_T_kitty_Corner.c x12), .b x13]) rfl) ?_
          refine WO_v (a_ext (vs := [.ag (e_T_kitty_Corner.c x11), .ag (e_T_kitty_Corner.c x12), .b x13]) (v := .ag (e_T_kitty_Corner.c x11)) rfl rfl) ?_
          refine WO_v (a_ext (vs := [.ag (e_T_kitty_Corner.c x11), .ag (e_T_kitty_Corner.c x12), .b x13]) (v := .ag (e_T_kitty_Corner.c x12)) rfl rfl) ?_
          refine WO_v (a_ext (vs := [.ag (e_T_kitty_Corner.c x11), .ag (e_T_kitty_Corner.c x12), .b x13]) (v := .b x13) rfl rfl) ?_
          refine WO_x (hO₂₀.alloc (cs := e_T_kitty_Corner.c (⟨0, 0⟩ : T_kitty_Corner)) hO₂₀.fr) ?_
          rintro _ k₂₁ ⟨r₄, rfl, n₃, f₄, hW⟩
          have hO₂₁ : Own B h k₂₁ [eBox r₁ (e_T_kitty_Corner.c a), eBox r₂ (e_T_kitty_Corner.c b), eSl eInt v₁ x, eSl eInt v₂ x1, eSl eV v₃ [v₁, v₂], eBox r₄ (e_T_kitty_Corner.c (⟨0, 0⟩ : T_kitty_Corner))] := hW
          refine WO_x (hO₂₁.alloc (cs := e_T_kitty_Corner.c (⟨0, 0⟩ : T_kitty_Corner)) hO₂₁.fr) ?_
          rintro _ k₂₂ ⟨r₅, rfl, n₄, f₅, hW⟩
          have hO₂₂ : Own B h k₂₂ [eBox r₁ (e_T_kitty_Corner.c a), eBox r₂ (e_T_kitty_Corner.c b), eSl eInt v₁ x, eSl eInt v₂ x1, eSl eV v₃ [v₁, v₂], eBox r₄ (e_T_kitty_Corner.c (⟨0, 0⟩ : T_kitty_Corner)), eBox r₅ (e_T_kitty_Corner.c (⟨0, 0⟩ : T_kitty_Corner))] := hW
          refine WO_x (hO₂₂.stb (ws := e_T_kitty_Corner.c x11) (cs' := e_T_kitty_Corner.c x11) (v := .ag (e_T_kitty_Corner.c x11)) 5 rfl rfl rfl rfl ⟨rfl, Nat.le_of_ble_eq_true rfl, rfl⟩ rfl) ?_
          rintro _ k₂₃ ⟨rfl, f₆, m₁, hW⟩
          have hO₂₃ : Own B h k₂₃ [eBox r₁ (e_T_kitty_Corner.c a), eBox r₂ (e_T_kitty_Corner.c b), eSl eInt v₁ x, eSl eInt v₂ x1, eSl eV v₃ [v₁, v₂], eBox r₄ (e_T_kitty_Corner.c x11), eBox r₅ (e_T_kitty_Corner.c (⟨0, 0⟩ : T_kitty_Corner))] := hW
          refine WO_x (hO₂₃.stb (ws := e_T_kitty_Corner.c x12) (cs' := e_T_kitty_Corner.c x12) (v := .ag (e_T_kitty_Corner.c x12)) 6 rfl rfl rfl rfl ⟨rfl, Nat.le_of_ble_eq_true rfl, rfl⟩ rfl) ?_
          rintro _ k₂₄ ⟨rfl, f₇, m₂, hW⟩
          have hO₂₄ : Own B h k₂₄ [eBox r₁ (e_T_kitty_Corner.c a), eBox r₂ (e_T_kitty_Corner.c b), eSl eInt v₁ x, eSl eInt v₂ x1, eSl eV v₃ [v₁, v₂], eBox r₄ (e_T_kitty_Corner.c x11), eBox r₅ (e_T_kitty_Corner.c x12)] := hW
          refine WO_v (a_mv (v := .b x13) rfl) ?_
          refine WO_end ?_
          refine then_n ?_
          refine W_sq ?_
          refine W_rg ?_
          refine WO_v (a_mv (v := (gi [v₁, v₂] (x2 : Int).toNat)) q₃_8) ?_
          obtain ⟨⟨x14, x15, x16⟩, hx₉, hp⟩ := bd_some hp
          obtain ⟨u₉, k₂₅, ca₉, rfl, hW₉⟩ := p_muntinref15_Pair.ok (h := k₂₄)  (Lit.at (Lit.cons (hO₂₄.sl 2 rfl : Sl eInt k₂₄ v₁ x) (Lit.cons (hO₂₄.sl 3 rfl : Sl eInt k₂₄ v₂ x1) Lit.nil)) (toNat_lt c₁) : Sl eInt k₂₄ (gi [v₁, v₂] (x2 : Int).toNat) (gi [x, x1] (x2 : Int).toNat)) hx₉
          refine WO_c (id := 25) (caps := []) rfl (mp_cons (v := (gi [v₁, v₂] (x2 : Int).toNat)) rfl mp_nil) ca₉ ?_
          have hO₂₅ : Own B h k₂₅ [eBox r₁ (e_T_kitty_Corner.c a), eBox r₂ (e_T_kitty_Corner.c b), eSl eInt v₁ x, eSl eInt v₂ x1, eSl eV v₃ [v₁, v₂], eBox r₄ (e_T_kitty_Corner.c x11), eBox r₅ (e_T_kitty_Corner.c x12)] := hO₂₄.call hW₉ rfl
          refine WO_v (a_mv (v := .tu [.ag (e_T_muntinref15_Corner.c x14), .ag (e_T_muntinref15_Corner.c x15), .b x16]) rfl) ?_
          refine WO_v (a_ext (vs := [.ag (e_T_muntinref15_Corner.c x14), .ag (e_T_muntinref15_Corner.c x15), .b x16]) (v := .ag (e_T_muntinref15_Corner.c x14)) rfl rfl) ?_
          refine WO_v (a_ext (vs := [.ag (e_T_muntinref15_Corner.c x14), .ag (e_T_muntinref15_Corner.c x15), .b x16]) (v := .ag (e_T_muntinref15_Corner.c x15)) rfl rfl) ?_
          refine WO_v (a_ext (vs := [.ag (e_T_muntinref15_Corner.c x14), .ag (e_T_muntinref15_Corner.c x15), .b x16]) (v := .b x16) rfl rfl) ?_
          refine WO_x (hO₂₅.alloc (cs := e_T_muntinref15_Corner.c (⟨0, 0⟩ : T_muntinref15_Corner)) hO₂₅.fr) ?_
          rintro _ k₂₆ ⟨r₆, rfl, n₅, f₈, hW⟩
          have hO₂₆ : Own B h k₂₆ [eBox r₁ (e_T_kitty_Corner.c a), eBox r₂ (e_T_kitty_Corner.c b), eSl eInt v₁ x, eSl eInt v₂ x1, eSl eV v₃ [v₁, v₂], eBox r₄ (e_T_kitty_Corner.c x11), eBox r₅ (e_T_kitty_Corner.c x12), eBox r₆ (e_T_muntinref15_Corner.c (⟨0, 0⟩ : T_muntinref15_Corner))] := hW
          refine WO_x (hO₂₆.alloc (cs := e_T_muntinref15_Corner.c (⟨0, 0⟩ : T_muntinref15_Corner)) hO₂₆.fr) ?_
          rintro _ k₂₇ ⟨r₇, rfl, n₆, f₉, hW⟩
          have hO₂₇ : Own B h k₂₇ [eBox r₁ (e_T_kitty_Corner.c a), eBox r₂ (e_T_kitty_Corner.c b), eSl eInt v₁ x, eSl eInt v₂ x1, eSl eV v₃ [v₁, v₂], eBox r₄ (e_T_kitty_Corner.c x11), eBox r₅ (e_T_kitty_Corner.c x12), eBox r₆ (e_T_muntinref15_Corner.c (⟨0, 0⟩ : T_muntinref15_Corner)), eBox r₇ (e_T_muntinref15_Corner.c (⟨0, 0⟩ : T_muntinref15_Corner))] := hW
          refine WO_x (hO₂₇.stb (ws := e_T_muntinref15_Corner.c x14) (cs' := e_T_muntinref15_Corner.c x14) (v := .ag (e_T_muntinref15_Corner.c x14)) 7 rfl rfl rfl rfl ⟨rfl, Nat.le_of_ble_eq_true rfl, rfl⟩ rfl) ?_
          rintro _ k₂₈ ⟨rfl, f₁₀, m₃, hW⟩
          have hO₂₈ : Own B h k₂₈ [eBox r₁ (e_T_kitty_Corner.c a), eBox r₂ (e_T_kitty_Corner.c b), eSl eInt v₁ x, eSl eInt v₂ x1, eSl eV v₃ [v₁, v₂], eBox r₄ (e_T_kitty_Corner.c x11), eBox r₅ (e_T_kitty_Corner.c x12), eBox r₆ (e_T_muntinref15_Corner.c x14), eBox r₇ (e_T_muntinref15_Corner.c (⟨0, 0⟩ : T_muntinref15_Corner))] := hW
          refine WO_x (hO₂₈.stb (ws := e_T_muntinref15_Corner.c x15) (cs' := e_T_muntinref15_Corner.c x15) (v := .ag (e_T_muntinref15_Corner.c x15)) 8 rfl rfl rfl rfl ⟨rfl, Nat.le_of_ble_eq_true rfl, rfl⟩ rfl) ?_
          rintro _ k₂₉ ⟨rfl, f₁₁, m₄, hW⟩
          have hO₂₉ : Own B h k₂₉ [eBox r₁ (e_T_kitty_Corner.c a), eBox r₂ (e_T_kitty_Corner.c b), eSl eInt v₁ x, eSl eInt v₂ x1, eSl eV v₃ [v₁, v₂], eBox r₄ (e_T_kitty_Corner.c x11), eBox r₅ (e_T_kitty_Corner.c x12), eBox r₆ (e_T_muntinref15_Corner.c x14), eBox r₇ (e_T_muntinref15_Corner.c x15)] := hW
          refine WO_v (a_mv (v := .b x16) rfl) ?_
          refine WO_end ?_
          refine then_n ?_
          refine W_sq ?_
          refine W_sq ?_
          refine W_rg ?_
          refine WO_v (a_mv (v := .b x5) q₃_11) ?_
          refine WO_v (a_not (t := x5) rfl) ?_
          refine WO_end ?_
          refine then_n ?_
          obtain ⟨o₇, ho₄, hp⟩ := bd_some hp
          refine W.mono (Q := fun e fr k => match (generalizing := false) o₇ with
              | (p, q, is) => e = .normal ∧ fr 4 = .p r₁ 0 ∧ fr 5 = .p r₂ 0 ∧ fr 8 = (gi [v₁, v₂] (x2 : Int).toNat) ∧ fr 11 = .b x5 ∧ fr 16 = .p r₄ 0 ∧ fr 17 = .p r₅ 0 ∧ fr 18 = .b x13 ∧ fr 19 = .p r₆ 0 ∧ fr 20 = .p r₇ 0 ∧ fr 21 = .b is ∧ fr 29 = v₃ ∧ fr 30 = .i .i64 ([x, x1].length : Int) ∧ fr 31 = .i .i64 x2 ∧ Own B h k [eBox r₁ (e_T_kitty_Corner.c a), eBox r₂ (e_T_kitty_Corner.c b), eSl eInt v₁ x, eSl eInt v₂ x1, eBox r₄ (e_T_kitty_Corner.c x11), eBox r₅ (e_T_kitty_Corner.c x12), eBox r₆ (e_T_muntinref15_Corner.c p), eBox r₇ (e_T_muntinref15_Corner.c q), eSl eV v₃ [v₁, v₂]]) ?_ ?_
          · clear hp; have hp := ho₄; clear ho₄
            rcases if_some hp with ⟨b₁₆, hp⟩ | ⟨b₁₆, hp⟩
            · refine W_cT (t := (!x5)) rfl b₁₆ ?_
              refine W_rg ?_
              refine WO_v (a_build (cs := e_T_muntinref15_Corner.c (⟨(0 : Int), (0 : Int)⟩ : T_muntinref15_Corner)) (by rw [ev_nil]; rfl)) ?_
              refine WO_v (a_build (cs := e_T_muntinref15_Corner.c (⟨(0 : Int), (0 : Int)⟩ : T_muntinref15_Corner)) (by rw [ev_nil]; rfl)) ?_
              refine WO_x (hO₂₉.stb (ws := e_T_muntinref15_Corner.c (⟨(0 : Int), (0 : Int)⟩ : T_muntinref15_Corner)) (cs' := e_T_muntinref15_Corner.c (⟨(0 : Int), (0 : Int)⟩ : T_muntinref15_Corner)) (v := .ag (e_T_muntinref15_Corner.c (⟨(0 : Int), (0 : Int)⟩ : T_muntinref15_Corner))) 7 rfl rfl rfl rfl ⟨rfl, Nat.le_of_ble_eq_true rfl, rfl⟩ rfl) ?_
              rintro _ k₃₁ ⟨rfl, f₁₂, m₅, hW⟩
              have hO₃₁ : Own B h k₃₁ [eBox r₁ (e_T_kitty_Corner.c a), eBox r₂ (e_T_kitty_Corner.c b), eSl eInt v₁ x, eSl eInt v₂ x1, eSl eV v₃ [v₁, v₂], eBox r₄ (e_T_kitty_Corner.c x11), eBox r₅ (e_T_kitty_Corner.c x12), eBox r₆ (e_T_muntinref15_Corner.c (⟨(0 : Int), (0 : Int)⟩ : T_muntinref15_Corner)), eBox r₇ (e_T_muntinref15_Corner.c x15)] := hW
              refine WO_x (hO₃₁.stb (ws := e_T_muntinref15_Corner.c (⟨(0 : Int), (0 : Int)⟩ : T_muntinref15_Corner)) (cs' := e_T_muntinref15_Corner.c (⟨(0 : Int), (0 : Int)⟩ : T_muntinref15_Corner)) (v := .ag (e_T_muntinref15_Corner.c (⟨(0 : Int), (0 : Int)⟩ : T_muntinref15_Corner))) 8 rfl rfl rfl rfl ⟨rfl, Nat.le_of_ble_eq_true rfl, rfl⟩ rfl) ?_
              rintro _ k₃₂ ⟨rfl, f₁₃, m₆, hW⟩
              have hO₃₂ : Own B h k₃₂ [eBox r₁ (e_T_kitty_Corner.c a), eBox r₂ (e_T_kitty_Corner.c b), eSl eInt v₁ x, eSl eInt v₂ x1, eSl eV v₃ [v₁, v₂], eBox r₄ (e_T_kitty_Corner.c x11), eBox r₅ (e_T_kitty_Corner.c x12), eBox r₆ (e_T_muntinref15_Corner.c (⟨(0 : Int), (0 : Int)⟩ : T_muntinref15_Corner)), eBox r₇ (e_T_muntinref15_Corner.c (⟨(0 : Int), (0 : Int)⟩ : T_muntinref15_Corner))] := hW
              refine WO_v (a_mv (v := .b false) rfl) ?_
              refine WO_end ?_
              have hp := Option.some.inj hp; subst hp
              exact (And.intro rfl (And.intro (q₃_4) (And.intro (q₃_5) (And.intro (q₃_8) (And.intro (q₃_11) (And.intro (rfl) (And.intro (rfl) (And.intro (rfl) (And.intro (rfl) (And.intro (rfl) (And.intro (rfl) (And.intro (q₃_29) (And.intro (q₃_30) (And.intro (q₃_31) (hO₃₂.pick [0, 1, 2, 3, 5, 6, 7, 8, 4] rfl (by decide))))))))))))))))
            · refine W_cF (t := (!x5)) rfl b₁₆ ?_
              refine W_sk ?_
              have hp := Option.some.inj hp; subst hp
              exact (And.intro rfl (And.intro (q₃_4) (And.intro (q₃_5) (And.intro (q₃_8) (And.intro (q₃_11) (And.intro (rfl) (And.intro (rfl) (And.intro (rfl) (And.intro (rfl) (And.intro (rfl) (And.intro (rfl) (And.intro (q₃_29) (And.intro (q₃_30) (And.intro (q₃_31) (hO₂₉.pick [0, 1, 2, 3, 5, 6, 7, 8, 4] rfl (by decide))))))))))))))))
          intro e₄ q₇ k₃₀ hJ₄
          obtain ⟨p, q, is⟩ := o₇
          obtain ⟨rfl, q₇_4, q₇_5, q₇_8, q₇_11, q₇_16, q₇_17, q₇_18, q₇_19, q₇_20, q₇_21, q₇_29, q₇_30, q₇_31, hO₃₀⟩ := hJ₄
          refine then_n ?_
          refine W_sq ?_
          refine W_sq ?_
          refine W_rg ?_
          refine WO_v (a_mv (v := .b x13) q₇_18) ?_
          refine WO_v (a_mv (v := .b is) q₇_21) ?_
          refine WO_v (a_neB (a := x13) (b := is) rfl rfl) ?_
          refine WO_v (a_mv (v := .b (!(decide (x13 = is)))) rfl) ?_
          refine WO_cut 6 (fun fr' k' => k₃₀ = k' ∧ fr' 153 = .b ((!(decide (x13 = is))) || (!(decide (x11.At = p.At)))) ∧ fr' 11 = .b x5 ∧ fr' 16 = .p r₄ 0 ∧ fr' 17 = .p r₅ 0 ∧ fr' 19 = .p r₆ 0 ∧ fr' 20 = .p r₇ 0 ∧ fr' 29 = v₃ ∧ fr' 30 = .i .i64 ([x, x1].length : Int) ∧ fr' 31 = .i .i64 x2 ∧ fr' 4 = .p r₁ 0 ∧ fr' 5 = .p r₂ 0 ∧ fr' 8 = (gi [v₁, v₂] (x2 : Int).toNat)) ?_ ?_
          · rcases bc (!(decide (x13 = is))) with b₁₇ | b₁₇
            · skip
              refine WO_off rfl b₁₇ ?_
              refine WO_off rfl b₁₇ ?_
              refine WO_off rfl b₁₇ ?_
              refine WO_off rfl b₁₇ ?_
              refine WO_off rfl b₁₇ ?_
              refine WO_v (a_pickT (t := (!(decide (x13 = is)))) (v := .b ((!(decide (x13 = is))) || (!(decide (x11.At = p.At))))) rfl b₁₇ (Eq.trans (b := V.b true) rfl (or_off b₁₇))) ?_
              refine WO_end ?_
              exact ⟨rfl, rfl, q₇_11, q₇_16, q₇_17, q₇_19, q₇_20, q₇_29, q₇_30, q₇_31, q₇_4, q₇_5, q₇_8⟩
            · skip
              refine WO_on rfl b₁₇ ?_
              refine WO_v (a_fa (r := r₄) (o := 0) (o' := 0) q₇_16 rfl) ?_
              refine WO_on rfl b₁₇ ?_
              refine WO_v (a_ldb (cs := (e_T_kitty_Corner.c x11)) (v := .i .i64 x11.At) (hO₃₀.box 4 rfl) rfl rfl) ?_
              refine WO_on rfl b₁₇ ?_
              refine WO_v (a_fa (r := r₆) (o := 0) (o' := 0) q₇_19 rfl) ?_
              refine WO_on rfl b₁₇ ?_
              refine WO_v (a_ldb (cs := (e_T_muntinref15_Corner.c p)) (v := .i .i64 p.At) (hO₃₀.box 6 rfl) rfl rfl) ?_
              refine WO_on rfl b₁₇ ?_
              refine WO_v (a_neI (a := x11.At) (b := p.At) rfl rfl) ?_
              refine WO_v (a_pickF (t := (!(decide (x13 = is)))) (v := .b ((!(decide (x13 = is))) || (!(decide (x11.At = p.At))))) rfl b₁₇ (Eq.trans (b := V.b (!(decide (x11.At = p.At)))) rfl (or_on b₁₇))) ?_
              refine WO_end ?_
              exact ⟨rfl, rfl, q₇_11, q₇_16, q₇_17, q₇_19, q₇_20, q₇_29, q₇_30, q₇_31, q₇_4, q₇_5, q₇_8⟩
          rintro frg₂ _ ⟨rfl, g₂_153, g₂_11, g₂_16, g₂_17, g₂_19, g₂_20, g₂_29, g₂_30, g₂_31, g₂_4, g₂_5, g₂_8⟩
          refine WO_v (a_mv (v := .b ((!(decide (x13 = is))) || (!(decide (x11.At = p.At))))) g₂_153) ?_
          refine WO_cut 6 (fun fr' k' => k₃₀ = k' ∧ fr' 160 = .b (((!(decide (x13 = is))) || (!(decide (x11.At = p.At)))) || (!(decide (x11.Part = p.Part)))) ∧ fr' 11 = .b x5 ∧ fr' 17 = .p r₅ 0 ∧ fr' 20 = .p r₇ 0 ∧ fr' 29 = v₃ ∧ fr' 30 = .i .i64 ([x, x1].length : Int) ∧ fr' 31 = .i .i64 x2 ∧ fr' 4 = .p r₁ 0 ∧ fr' 5 = .p r₂ 0 ∧ fr' 8 = (gi [v₁, v₂] (x2 : Int).toNat)) ?_ ?_
          · rcases bc ((!(decide (x13 = is))) || (!(decide (x11.At = p.At)))) with b₁₈ | b₁₈
            · skip
              refine WO_off rfl b₁₈ ?_
              refine WO_off rfl b₁₈ ?_
              refine WO_off rfl b₁₈ ?_
              refine WO_off rfl b₁₈ ?_
              refine WO_off rfl b₁₈ ?_
              refine WO_v (a_pickT (t := ((!(decide (x13 = is))) || (!(decide (x11.At = p.At))))) (v := .b (((!(decide (x13 = is))) || (!(decide (x11.At = p.At)))) || (!(decide (x11.Part = p.Part))))) rfl b₁₈ (Eq.trans (b := V.b true) rfl (or_off b₁₈))) ?_
              refine WO_end ?_
              exact ⟨rfl, rfl, g₂_11, g₂_17, g₂_20, g₂_29, g₂_30, g₂_31, g₂_4, g₂_5, g₂_8⟩
            · skip
              refine WO_on rfl b₁₈ ?_
              refine WO_v (a_fa (r := r₄) (o := 0) (o' := 1) g₂_16 rfl) ?_
              refine WO_on rfl b₁₈ ?_
              refine WO_v (a_ldb (cs := (e_T_kitty_Corner.c x11)) (v := .i .i64 x11.Part) (hO₃₀.box 4 rfl) rfl rfl) ?_
              refine WO_on rfl b₁₈ ?_
              refine WO_v (a_fa (r := r₆) (o := 0) (o' := 1) g₂_19 rfl) ?_
              refine WO_on rfl b₁₈ ?_
              refine WO_v (a_ldb (cs := (e_T_muntinref15_Corner.c p)) (v := .i .i64 p.Part) (hO₃₀.box 6 rfl) rfl rfl) ?_
              refine WO_on rfl b₁₈ ?_
              refine WO_v (a_neI (a := x11.Part) (b := p.Part) rfl rfl) ?_
              refine WO_v (a_pickF (t := ((!(decide (x13 = is))) || (!(decide (x11.At = p.At))))) (v := .b (((!(decide (x13 = is))) || (!(decide (x11.At = p.At)))) || (!(decide (x11.Part = p.Part))))) rfl b₁₈ (Eq.trans (b := V.b (!(decide (x11.Part = p.Part)))) rfl (or_on b₁₈))) ?_
              refine WO_end ?_
              exact ⟨rfl, rfl, g₂_11, g₂_17, g₂_20, g₂_29, g₂_30, g₂_31, g₂_4, g₂_5, g₂_8⟩
          rintro frg₃ _ ⟨rfl, g₃_160, g₃_11, g₃_17, g₃_20, g₃_29, g₃_30, g₃_31, g₃_4, g₃_5, g₃_8⟩
          refine WO_v (a_mv (v := .b (((!(decide (x13 = is))) || (!(decide (x11.At = p.At)))) || (!(decide (x11.Part = p.Part))))) g₃_160) ?_
          refine WO_cut 6 (fun fr' k' => k₃₀ = k' ∧ fr' 167 = .b ((((!(decide (x13 = is))) || (!(decide (x11.At = p.At)))) || (!(decide (x11.Part = p.Part)))) || (!(decide (x12.At = q.At)))) ∧ fr' 11 = .b x5 ∧ fr' 17 = .p r₅ 0 ∧ fr' 20 = .p r₇ 0 ∧ fr' 29 = v₃ ∧ fr' 30 = .i .i64 ([x, x1].length : Int) ∧ fr' 31 = .i .i64 x2 ∧ fr' 4 = .p r₁ 0 ∧ fr' 5 = .p r₂ 0 ∧ fr' 8 = (gi [v₁, v₂] (x2 : Int).toNat)) ?_ ?_
          · rcases bc (((!(decide (x13 = is))) || (!(decide (x11.At = p.At)))) || (!(decide (x11.Part = p.Part)))) with b₁₉ | b₁₉
            · skip
              refine WO_off rfl b₁₉ ?_
              refine WO_off rfl b₁₉ ?_
              refine WO_off rfl b₁₉ ?_
              refine WO_off rfl b₁₉ ?_
              refine WO_off rfl b₁₉ ?_
              refine WO_v (a_pickT (t := (((!(decide (x13 = is))) || (!(decide (x11.At = p.At)))) || (!(decide (x11.Part = p.Part))))) (v := .b ((((!(decide (x13 = is))) || (!(decide (x11.At = p.At)))) || (!(decide (x11.Part = p.Part)))) || (!(decide (x12.At = q.At))))) rfl b₁₉ (Eq.trans (b := V.b true) rfl (or_off b₁₉))) ?_
              refine WO_end ?_
              exact ⟨rfl, rfl, g₃_11, g₃_17, g₃_20, g₃_29, g₃_30, g₃_31, g₃_4, g₃_5, g₃_8⟩
            · skip
              refine WO_on rfl b₁₉ ?_
              refine WO_v (a_fa (r := r₅) (o := 0) (o' := 0) g₃_17 rfl) ?_
              refine WO_on rfl b₁₉ ?_
              refine WO_v (a_ldb (cs := (e_T_kitty_Corner.c x12)) (v := .i .i64 x12.At) (hO₃₀.box 5 rfl) rfl rfl) ?_
              refine WO_on rfl b₁₉ ?_
              refine WO_v (a_fa (r := r₇) (o := 0) (o' := 0) g₃_20 rfl) ?_
              refine WO_on rfl b₁₉ ?_
              refine WO_v (a_ldb (cs := (e_T_muntinref15_Corner.c q)) (v := .i .i64 q.At) (hO₃₀.box 7 rfl) rfl rfl) ?_
              refine WO_on rfl b₁₉ ?_
              refine WO_v (a_neI (a := x12.At) (b := q.At) rfl rfl) ?_
              refine WO_v (a_pickF (t := (((!(decide (x13 = is))) || (!(decide (x11.At = p.At)))) || (!(decide (x11.Part = p.Part))))) (v := .b ((((!(decide (x13 = is))) || (!(decide (x11.At = p.At)))) || (!(decide (x11.Part = p.Part)))) || (!(decide (x12.At = q.At))))) rfl b₁₉ (Eq.trans (b := V.b (!(decide (x12.At = q.At)))) rfl (or_on b₁₉))) ?_
              refine WO_end ?_
              exact ⟨rfl, rfl, g₃_11, g₃_17, g₃_20, g₃_29, g₃_30, g₃_31, g₃_4, g₃_5, g₃_8⟩
          rintro frg₄ _ ⟨rfl, g₄_167, g₄_11, g₄_17, g₄_20, g₄_29, g₄_30, g₄_31, g₄_4, g₄_5, g₄_8⟩
          refine WO_v (a_mv (v := .b ((((!(decide (x13 = is))) || (!(decide (x11.At = p.At)))) || (!(decide (x11.Part = p.Part)))) || (!(decide (x12.At = q.At))))) g₄_167) ?_
          refine WO_cut 6 (fun fr' k' => k₃₀ = k' ∧ fr' 174 = .b (((((!(decide (x13 = is))) || (!(decide (x11.At = p.At)))) || (!(decide (x11.Part = p.Part)))) || (!(decide (x12.At = q.At)))) || (!(decide (x12.Part = q.Part)))) ∧ fr' 11 = .b x5 ∧ fr' 29 = v₃ ∧ fr' 30 = .i .i64 ([x, x1].length : Int) ∧ fr' 31 = .i .i64 x2 ∧ fr' 4 = .p r₁ 0 ∧ fr' 5 = .p r₂ 0 ∧ fr' 8 = (gi [v₁, v₂] (x2 : Int).toNat)) ?_ ?_
          · rcases bc ((((!(decide (x13 = is))) || (!(decide (x11.At = p.At)))) || (!(decide (x11.Part = p.Part)))) || (!(decide (x12.At = q.At)))) with b₂₀ | b₂₀
            · skip
              refine WO_off rfl b₂₀ ?_
              refine WO_off rfl b₂₀ ?_
              refine WO_off rfl b₂₀ ?_
              refine WO_off rfl b₂₀ ?_
              refine WO_off rfl b₂₀ ?_
              refine WO_v (a_pickT (t := ((((!(decide (x13 = is))) || (!(decide (x11.At = p.At)))) || (!(decide (x11.Part = p.Part)))) || (!(decide (x12.At = q.At))))) (v := .b (((((!(decide (x13 = is))) || (!(decide (x11.At = p.At)))) || (!(decide (x11.Part = p.Part)))) || (!(decide (x12.At = q.At)))) || (!(decide (x12.Part = q.Part))))) rfl b₂₀ (Eq.trans (b := V.b true) rfl (or_off b₂₀))) ?_
              refine WO_end ?_
              exact ⟨rfl, rfl, g₄_11, g₄_29, g₄_30, g₄_31, g₄_4, g₄_5, g₄_8⟩
            · skip
              refine WO_on rfl b₂₀ ?_
              refine WO_v (a_fa (r := r₅) (o := 0) (o' := 1) g₄_17 rfl) ?_
              refine WO_on rfl b₂₀ ?_
              refine WO_v (a_ldb (cs := (e_T_kitty_Corner.c x12)) (v := .i .i64 x12.Part) (hO₃₀.box 5 rfl) rfl rfl) ?_
              refine WO_on rfl b₂₀ ?_
              refine WO_v (a_fa (r := r₇) (o := 0) (o' := 1) g₄_20 rfl) ?_
              refine WO_on rfl b₂₀ ?_
              refine WO_v (a_ldb (cs := (e_T_muntinref15_Corner.c q)) (v := .i .i64 q.Part) (hO₃₀.box 7 rfl) rfl rfl) ?_
              refine WO_on rfl b₂₀ ?_
              refine WO_v (a_neI (a := x12.Part) (b := q.Part) rfl rfl) ?_
              refine WO_v (a_pickF (t := ((((!(decide (x13 = is))) || (!(decide (x11.At = p.At)))) || (!(decide (x11.Part = p.Part)))) || (!(decide (x12.At = q.At))))) (v := .b (((((!(decide (x13 = is))) || (!(decide (x11.At = p.At)))) || (!(decide (x11.Part = p.Part)))) || (!(decide (x12.At = q.At)))) || (!(decide (x12.Part = q.Part))))) rfl b₂₀ (Eq.trans (b := V.b (!(decide (x12.Part = q.Part)))) rfl (or_on b₂₀))) ?_
              refine WO_end ?_
              exact ⟨rfl, rfl, g₄_11, g₄_29, g₄_30, g₄_31, g₄_4, g₄_5, g₄_8⟩
          rintro frg₅ _ ⟨rfl, g₅_174, g₅_11, g₅_29, g₅_30, g₅_31, g₅_4, g₅_5, g₅_8⟩
          refine WO_end ?_
          refine then_n ?_
          rcases if_some hp with ⟨b₂₁, hp⟩ | ⟨b₂₁, hp⟩
          · refine W_cT (t := (((((!(decide (x13 = is))) || (!(decide (x11.At = p.At)))) || (!(decide (x11.Part = p.Part)))) || (!(decide (x12.At = q.At)))) || (!(decide (x12.Part = q.Part))))) g₅_174 b₂₁ ?_
            refine W_sq ?_
            refine W_rg ?_
            refine WO_v (a_mv (v := .b false) rfl) ?_
            refine WO_end ?_
            refine then_n ?_
            refine W_rt ?_
            refine then_r ?_
            refine blk_r ?_
            refine then_r ?_
            have hp := Option.some.inj hp; subst hp
            refine (Or.inr (Exists.intro (.inr ()) (And.intro rfl (And.intro (fun h => nomatch h) (fun he => ?_)))))
            subst he; exact (And.intro rfl (And.intro (rfl) (hO₃₀.pick [] rfl (by decide))))
          · refine W_cF (t := (((((!(decide (x13 = is))) || (!(decide (x11.At = p.At)))) || (!(decide (x11.Part = p.Part)))) || (!(decide (x12.At = q.At)))) || (!(decide (x12.Part = q.Part))))) g₅_174 b₂₁ ?_
            refine W_sk ?_
            refine then_n ?_
            refine W_sq ?_
            refine W_rg ?_
            refine WO_v (a_mv (v := (gi [v₁, v₂] (x2 : Int).toNat)) g₅_8) ?_
            refine WO_v (a_ldbA (cs := (e_T_kitty_Corner.c a)) (ws := e_T_kitty_Corner.c a) (hO₃₀.box 0 rfl) g₅_4 rfl) ?_
            refine WO_v (a_ldbA (cs := (e_T_kitty_Corner.c b)) (ws := e_T_kitty_Corner.c b) (hO₃₀.box 1 rfl) g₅_5 rfl) ?_
            obtain ⟨⟨x17, x18⟩, hx₁₀, hp⟩ := bd_some hp
            obtain ⟨u₁₀, k₃₃, ca₁₀, rfl, hW₁₀⟩ := p_kitty_Rot.ok (h := k₃₀)  (Lit.at (Lit.cons (hO₃₀.sl 2 rfl : Sl eInt k₃₀ v₁ x) (Lit.cons (hO₃₀.sl 3 rfl : Sl eInt k₃₀ v₂ x1) Lit.nil)) (toNat_lt c₁) : Sl eInt k₃₀ (gi [v₁, v₂] (x2 : Int).toNat) (gi [x, x1] (x2 : Int).toNat)) hx₁₀
            refine WO_c (id := 22) (caps := []) rfl (mp_cons (v := (gi [v₁, v₂] (x2 : Int).toNat)) rfl (mp_cons (v := .ag (e_T_kitty_Corner.c a)) rfl (mp_cons (v := .ag (e_T_kitty_Corner.c b)) rfl mp_nil))) ca₁₀ ?_
            have hO₃₃ : Own B h k₃₃ [eBox r₁ (e_T_kitty_Corner.c a), eBox r₂ (e_T_kitty_Corner.c b), eSl eInt v₁ x, eSl eInt v₂ x1, eBox r₄ (e_T_kitty_Corner.c x11), eBox r₅ (e_T_kitty_Corner.c x12), eBox r₆ (e_T_muntinref15_Corner.c p), eBox r₇ (e_T_muntinref15_Corner.c q), eSl eV v₃ [v₁, v₂]] := hO₃₀.call hW₁₀ rfl
            refine WO_v (a_mv (v := .tu [.i .i64 x17, .i .i64 x18]) rfl) ?_
            refine WO_v (a_ext (vs := [.i .i64 x17, .i .i64 x18]) (v := .i .i64 x17) rfl rfl) ?_
            refine WO_v (a_ext (vs := [.i .i64 x17, .i .i64 x18]) (v := .i .i64 x18) rfl rfl) ?_
            refine WO_v (a_mv (v := .i .i64 x17) rfl) ?_
            refine WO_v (a_mv (v := .i .i64 x18) rfl) ?_
            refine WO_end ?_
            refine then_n ?_
            refine W_sq ?_
            refine W_rg ?_
            refine WO_v (a_mv (v := .b x5) g₅_11) ?_
            refine WO_v (a_mv (v := .b x5) rfl) ?_
            obtain ⟨t, hv₁, hp⟩ := bd_some hp
            refine WO_cut 8 (fun fr' k' => Own B h k' [eBox r₁ (e_T_kitty_Corner.c a), eBox r₂ (e_T_kitty_Corner.c b), eSl eInt v₁ x, eSl eInt v₂ x1, eBox r₄ (e_T_kitty_Corner.c x11), eBox r₅ (e_T_kitty_Corner.c x12), eBox r₆ (e_T_muntinref15_Corner.c p), eBox r₇ (e_T_muntinref15_Corner.c q), eSl eV v₃ [v₁, v₂]] ∧ fr' 191 = .b t ∧ fr' 23 = .i .i64 x18 ∧ fr' 29 = v₃ ∧ fr' 30 = .i .i64 ([x, x1].length : Int) ∧ fr' 31 = .i .i64 x2 ∧ fr' 4 = .p r₁ 0 ∧ fr' 5 = .p r₂ 0 ∧ fr' 8 = (gi [v₁, v₂] (x2 : Int).toNat)) ?_ ?_
            · clear hp; rcases if_some hv₁ with ⟨b₂₂, hp⟩ | ⟨b₂₂, hp⟩
              · skip
                refine WO_on rfl b₂₂ ?_
                refine WO_v (a_mv (v := (gi [v₁, v₂] (x2 : Int).toNat)) g₅_8) ?_
                refine WO_on rfl b₂₂ ?_
                refine WO_v (a_fa (r := r₁) (o := 0) (o' := 0) g₅_4 rfl) ?_
                refine WO_on rfl b₂₂ ?_
                refine WO_v (a_ldb (cs := (e_T_kitty_Corner.c a)) (v := .i .i64 a.At) (hO₃₃.box 0 rfl) rfl rfl) ?_
                refine WO_on rfl b₂₂ ?_
                refine WO_v (a_fa (r := r₁) (o := 0) (o' := 1) g₅_4 rfl) ?_
                refine WO_on rfl b₂₂ ?_
                refine WO_v (a_ldb (cs := (e_T_kitty_Corner.c a)) (v := .i .i64 a.Part) (hO₃₃.box 0 rfl) rfl rfl) ?_
                refine WO_on rfl b₂₂ ?_
                refine WO_v (a_build (cs := e_T_muntinref15_Corner.c (⟨a.At, a.Part⟩ : T_muntinref15_Corner)) (by rw [(ev_cons (v := .i .i64 a.At) rfl (ev_cons (v := .i .i64 a.Part) rfl ev_nil))]; rfl)) ?_
                refine WO_on rfl b₂₂ ?_
                obtain ⟨x19, hx₁₁, hp⟩ := bd_some hp
                obtain ⟨u₁₁, k₃₄, ca₁₁, rfl, hW₁₁⟩ := p_muntinref15_In.ok (h := k₃₃)  (Lit.at (Lit.cons (hO₃₃.sl 2 rfl : Sl eInt k₃₃ v₁ x) (Lit.cons (hO₃₃.sl 3 rfl : Sl eInt k₃₃ v₂ x1) Lit.nil)) (toNat_lt c₁) : Sl eInt k₃₃ (gi [v₁, v₂] (x2 : Int).toNat) (gi [x, x1] (x2 : Int).toNat)) hx₁₁
                refine WO_c (id := 26) (caps := []) rfl (mp_cons (v := (gi [v₁, v₂] (x2 : Int).toNat)) rfl (mp_cons (v := .ag (e_T_muntinref15_Corner.c (⟨a.At, a.Part⟩ : T_muntinref15_Corner))) rfl mp_nil)) ca₁₁ ?_
                have hO₃₄ : Own B h k₃₄ [eBox r₁ (e_T_kitty_Corner.c a), eBox r₂ (e_T_kitty_Corner.c b), eSl eInt v₁ x, eSl eInt v₂ x1, eBox r₄ (e_T_kitty_Corner.c x11), eBox r₅ (e_T_kitty_Corner.c x12), eBox r₆ (e_T_muntinref15_Corner.c p), eBox r₇ (e_T_muntinref15_Corner.c q), eSl eV v₃ [v₁, v₂]] := hO₃₃.call hW₁₁ rfl
                refine WO_v (a_pickT (t := x5) (v := .b t) rfl b₂₂ (Eq.trans (b := V.b x19) rfl (congrArg V.b (Option.some.inj hp)))) ?_
                refine WO_end ?_
                exact ⟨hO₃₄.pick [0, 1, 2, 3, 4, 5, 6, 7, 8] rfl (by decide), rfl, rfl, g₅_29, g₅_30, g₅_31, g₅_4, g₅_5, g₅_8⟩
              · skip
                refine WO_off rfl b₂₂ ?_
                refine WO_off rfl b₂₂ ?_
                refine WO_off rfl b₂₂ ?_
                refine WO_off rfl b₂₂ ?_
                refine WO_off rfl b₂₂ ?_
                refine WO_off rfl b₂₂ ?_
                refine WO_off rfl b₂₂ ?_
                refine WO_v (a_pickF (t := x5) (v := .b t) rfl b₂₂ (Eq.trans (b := V.b false) rfl (congrArg V.b (Option.some.inj hp)))) ?_
                refine WO_end ?_
                exact ⟨hO₃₃.pick [0, 1, 2, 3, 4, 5, 6, 7, 8] rfl (by decide), rfl, rfl, g₅_29, g₅_30, g₅_31, g₅_4, g₅_5, g₅_8⟩
            rintro frg₆ k₃₅ ⟨hO₃₅, g₆_191, g₆_23, g₆_29, g₆_30, g₆_31, g₆_4, g₆_5, g₆_8⟩
            refine WO_v (a_mv (v := .b t) g₆_191) ?_
            obtain ⟨t1, hv₂, hp⟩ := bd_some hp
            refine WO_cut 8 (fun fr' k' => Own B h k' [eBox r₁ (e_T_kitty_Corner.c a), eBox r₂ (e_T_kitty_Corner.c b), eSl eInt v₁ x, eSl eInt v₂ x1, eBox r₄ (e_T_kitty_Corner.c x11), eBox r₅ (e_T_kitty_Corner.c x12), eBox r₆ (e_T_muntinref15_Corner.c p), eBox r₇ (e_T_muntinref15_Corner.c q), eSl eV v₃ [v₁, v₂]] ∧ fr' 200 = .b t1 ∧ fr' 23 = .i .i64 x18 ∧ fr' 29 = v₃ ∧ fr' 30 = .i .i64 ([x, x1].length : Int) ∧ fr' 31 = .i .i64 x2 ∧ fr' 4 = .p r₁ 0 ∧ fr' 5 = .p r₂ 0) ?_ ?_
            · clear hp; rcases if_some hv₂ with ⟨b₂₃, hp⟩ | ⟨b₂₃, hp⟩
              · skip
                refine WO_on rfl b₂₃ ?_
                refine WO_v (a_mv (v := (gi [v₁, v₂] (x2 : Int).toNat)) g₆_8) ?_
                refine WO_on rfl b₂₃ ?_
                refine WO_v (a_fa (r := r₂) (o := 0) (o' := 0) g₆_5 rfl) ?_
                refine WO_on rfl b₂₃ ?_
                refine WO_v (a_ldb (cs := (e_T_kitty_Corner.c b)) (v := .i .i64 b.At) (hO₃₅.box 1 rfl) rfl rfl) ?_
                refine WO_on rfl b₂₃ ?_
                refine WO_v (a_fa (r := r₂) (o := 0) (o' := 1) g₆_5 rfl) ?_
                refine WO_on rfl b₂₃ ?_
                refine WO_v (a_ldb (cs := (e_T_kitty_Corner.c b)) (v := .i .i64 b.Part) (hO₃₅.box 1 rfl) rfl rfl) ?_
                refine WO_on rfl b₂₃ ?_
                refine WO_v (a_build (cs := e_T_muntinref15_Corner.c (⟨b.At, b.Part⟩ : T_muntinref15_Corner)) (by rw [(ev_cons (v := .i .i64 b.At) rfl (ev_cons (v := .i .i64 b.Part) rfl ev_nil))]; rfl)) ?_
                refine WO_on rfl b₂₃ ?_
                obtain ⟨x20, hx₁₂, hp⟩ := bd_some hp
                obtain ⟨u₁₂, k₃₆, ca₁₂, rfl, hW₁₂⟩ := p_muntinref15_In.ok (h := k₃₅)  (Lit.at (Lit.cons (hO₃₅.sl 2 rfl : Sl eInt k₃₅ v₁ x) (Lit.cons (hO₃₅.sl 3 rfl : Sl eInt k₃₅ v₂ x1) Lit.nil)) (toNat_lt c₁) : Sl eInt k₃₅ (gi [v₁, v₂] (x2 : Int).toNat) (gi [x, x1] (x2 : Int).toNat)) hx₁₂
                refine WO_c (id := 26) (caps := []) rfl (mp_cons (v := (gi [v₁, v₂] (x2 : Int).toNat)) rfl (mp_cons (v := .ag (e_T_muntinref15_Corner.c (⟨b.At, b.Part⟩ : T_muntinref15_Corner))) rfl mp_nil)) ca₁₂ ?_
                have hO₃₆ : Own B h k₃₆ [eBox r₁ (e_T_kitty_Corner.c a), eBox r₂ (e_T_kitty_Corner.c b), eSl eInt v₁ x, eSl eInt v₂ x1, eBox r₄ (e_T_kitty_Corner.c x11), eBox r₅ (e_T_kitty_Corner.c x12), eBox r₆ (e_T_muntinref15_Corner.c p), eBox r₇ (e_T_muntinref15_Corner.c q), eSl eV v₃ [v₁, v₂]] := hO₃₅.call hW₁₂ rfl
                refine WO_v (a_pickT (t := t) (v := .b t1) rfl b₂₃ (Eq.trans (b := V.b x20) rfl (congrArg V.b (Option.some.inj hp)))) ?_
                refine WO_end ?_
                exact ⟨hO₃₆.pick [0, 1, 2, 3, 4, 5, 6, 7, 8] rfl (by decide), rfl, g₆_23, g₆_29, g₆_30, g₆_31, g₆_4, g₆_5⟩
              · skip
                refine WO_off rfl b₂₃ ?_
                refine WO_off rfl b₂₃ ?_
                refine WO_off rfl b₂₃ ?_
                refine WO_off rfl b₂₃ ?_
                refine WO_off rfl b₂₃ ?_
                refine WO_off rfl b₂₃ ?_
                refine WO_off rfl b₂₃ ?_
                refine WO_v (a_pickF (t := t) (v := .b t1) rfl b₂₃ (Eq.trans (b := V.b false) rfl (congrArg V.b (Option.some.inj hp)))) ?_
                refine WO_end ?_
                exact ⟨hO₃₅.pick [0, 1, 2, 3, 4, 5, 6, 7, 8] rfl (by decide), rfl, g₆_23, g₆_29, g₆_30, g₆_31, g₆_4, g₆_5⟩
            rintro frg₇ k₃₇ ⟨hO₃₇, g₇_200, g₇_23, g₇_29, g₇_30, g₇_31, g₇_4, g₇_5⟩
            refine WO_v (a_mv (v := .b t1) g₇_200) ?_
            refine WO_end ?_
            refine then_n ?_
            refine W_sq ?_
            refine W_rg ?_
            refine WO_v (a_mv (v := .i .i64 x18) g₇_23) ?_
            refine WO_v (a_eqI (a := x18) (b := 0) rfl rfl) ?_
            refine WO_v (a_mv (v := .b t1) rfl) ?_
            refine WO_v (a_neB (a := (decide (x18 = 0))) (b := t1) rfl rfl) ?_
            refine WO_v (a_mv (v := .b (!(decide ((decide (x18 = 0)) = t1)))) rfl) ?_
            refine WO_cut 7 (fun fr' k' => k₃₇ = k' ∧ fr' 212 = .b ((!(decide ((decide (x18 = 0)) = t1))) || ((!t1) && (!(decide (x18 = 2))))) ∧ fr' 29 = v₃ ∧ fr' 30 = .i .i64 ([x, x1].length : Int) ∧ fr' 31 = .i .i64 x2 ∧ fr' 4 = .p r₁ 0 ∧ fr' 5 = .p r₂ 0) ?_ ?_
            · rcases bc (!(decide ((decide (x18 = 0)) = t1))) with b₂₄ | b₂₄
              · skip
                refine WO_off rfl b₂₄ ?_
                refine WO_off rfl b₂₄ ?_
                refine WO_off rfl b₂₄ ?_
                refine WO_un rfl ?_
                refine WO_un rfl ?_
                refine WO_off rfl b₂₄ ?_
                refine WO_v (a_pickT (t := (!(decide ((decide (x18 = 0)) = t1)))) (v := .b ((!(decide ((decide (x18 = 0)) = t1))) || ((!t1) && (!(decide (x18 = 2)))))) rfl b₂₄ (Eq.trans (b := V.b true) rfl (or_off b₂₄))) ?_
                refine WO_end ?_
                exact ⟨rfl, rfl, g₇_29, g₇_30, g₇_31, g₇_4, g₇_5⟩
              · skip
                refine WO_on rfl b₂₄ ?_
                refine WO_v (a_mv (v := .b t1) rfl) ?_
                refine WO_on rfl b₂₄ ?_
                refine WO_v (a_not (t := t1) rfl) ?_
                refine WO_on rfl b₂₄ ?_
                refine WO_v (a_mv (v := .b (!t1)) rfl) ?_
                refine WO_cut 3 (fun fr' k' => k₃₇ = k' ∧ fr' 211 = .b ((!t1) && (!(decide (x18 = 2)))) ∧ fr' 205 = .b (!(decide ((decide (x18 = 0)) = t1))) ∧ fr' 29 = v₃ ∧ fr' 30 = .i .i64 ([x, x1].length : Int) ∧ fr' 31 = .i .i64 x2 ∧ fr' 4 = .p r₁ 0 ∧ fr' 5 = .p r₂ 0) ?_ ?_
                · rcases bc (!t1) with b₂₅ | b₂₅
                  · skip
                    refine WO_on rfl b₂₅ ?_
                    refine WO_v (a_mv (v := .i .i64 x18) g₇_23) ?_
                    refine WO_on rfl b₂₅ ?_
                    refine WO_v (a_neI (a := x18) (b := 2) rfl rfl) ?_
                    refine WO_on rfl b₂₄ ?_
                    refine WO_v (a_pickT (t := (!t1)) (v := .b ((!t1) && (!(decide (x18 = 2))))) rfl b₂₅ (Eq.trans (b := V.b (!(decide (x18 = 2)))) rfl (and_on b₂₅))) ?_
                    refine WO_end ?_
                    exact ⟨rfl, rfl, rfl, g₇_29, g₇_30, g₇_31, g₇_4, g₇_5⟩
                  · skip
                    refine WO_off rfl b₂₅ ?_
                    refine WO_off rfl b₂₅ ?_
                    refine WO_on rfl b₂₄ ?_
                    refine WO_v (a_pickF (t := (!t1)) (v := .b ((!t1) && (!(decide (x18 = 2))))) rfl b₂₅ (Eq.trans (b := V.b false) rfl (and_off b₂₅))) ?_
                    refine WO_end ?_
                    exact ⟨rfl, rfl, rfl, g₇_29, g₇_30, g₇_31, g₇_4, g₇_5⟩
                rintro frg₈ _ ⟨rfl, g₈_211, g₈_205, g₈_29, g₈_30, g₈_31, g₈_4, g₈_5⟩
                refine WO_v (a_pickF (t := (!(decide ((decide (x18 = 0)) = t1)))) (v := .b ((!(decide ((decide (x18 = 0)) = t1))) || ((!t1) && (!(decide (x18 = 2)))))) g₈_205 b₂₄ (Eq.trans (b := V.b ((!t1) && (!(decide (x18 = 2))))) g₈_211 (or_on b₂₄))) ?_
                refine WO_end ?_
                exact ⟨rfl, rfl, g₈_29, g₈_30, g₈_31, g₈_4, g₈_5⟩
            rintro frg₉ _ ⟨rfl, g₉_212, g₉_29, g₉_30, g₉_31, g₉_4, g₉_5⟩
            refine WO_end ?_
            refine then_n ?_
            rcases if_some hp with ⟨b₂₆, hp⟩ | ⟨b₂₆, hp⟩
            · refine W_cT (t := ((!(decide ((decide (x18 = 0)) = t1))) || ((!t1) && (!(decide (x18 = 2)))))) g₉_212 b₂₆ ?_
              refine W_sq ?_
              refine W_rg ?_
              refine WO_v (a_mv (v := .b false) rfl) ?_
              refine WO_end ?_
              refine then_n ?_
              refine W_rt ?_
              refine blk_r ?_
              refine then_r ?_
              have hp := Option.some.inj hp; subst hp
              refine (Or.inr (Exists.intro (.inr ()) (And.intro rfl (And.intro (fun h => nomatch h) (fun he => ?_)))))
              subst he; exact (And.intro rfl (And.intro (rfl) (hO₃₇.pick [] rfl (by decide))))
            · refine W_cF (t := ((!(decide ((decide (x18 = 0)) = t1))) || ((!t1) && (!(decide (x18 = 2)))))) g₉_212 b₂₆ ?_
              refine W_sk ?_
              refine blk_n ?_
              refine then_n ?_
              refine W_rg ?_
              obtain ⟨c₁₁, hp⟩ := ck_some hp
              refine WO_v (a_add (a := x2) (b := 1) g₉_31 rfl c₁₁) ?_
              refine WO_v (a_mv (v := .i .i64 (x2 + 1)) rfl) ?_
              refine WO_end ?_
              have hp := Option.some.inj hp; subst hp
              exact (Or.inl (Exists.intro (x2 + 1) (And.intro rfl (And.intro rfl (And.intro (g₉_4) (And.intro (g₉_5) (And.intro (g₉_29) (And.intro (g₉_30) (And.intro (rfl) (hO₃₇.pick [0, 1, 8, 2, 3] rfl (by decide)))))))))))
        · obtain ⟨rfl, q₃_6, hO₁₁⟩ := hJ₂
          refine blk_r ?_
          refine then_r ?_
          refine blk_r ?_
          refine then_r ?_
          have hp := Option.some.inj hp; subst hp
          refine (Or.inr (Exists.intro (.inr ()) (And.intro rfl (And.intro (fun h => nomatch h) (fun he => ?_)))))
          subst he; exact (And.intro rfl (And.intro (q₃_6) (hO₁₁.pick [] rfl (by decide))))
    · refine W_cF (t := (decide (x2 < ([x, x1].length : Int)))) rfl b₁ ?_
      refine W_ex ?_
      refine then_e ?_
      have hp := Option.some.inj hp; subst hp
      refine (Or.inr (Exists.intro (.inl ()) (And.intro rfl (And.intro (fun h => nomatch h) (fun he => ?_)))))
      subst he; exact (And.intro rfl (hO₇.pick [] rfl (by decide)))
  intro e₁ q₁ k₆ hJ₁
  rcases o₁ with _ | _
  · obtain ⟨rfl, hO₆⟩ := hJ₁
    refine blk_i ?_
    refine then_n ?_
    refine W_sq ?_
    refine W_rg ?_
    obtain ⟨x21, hx₁₃, hp⟩ := bd_some hp
    obtain ⟨u₁₃, k₃₈, ca₁₃, rfl, hW₁₃⟩ := p_muntinlaw15_wakes.ok (h := k₆)   hx₁₃
    refine WO_c (id := 27) (caps := []) rfl mp_nil ca₁₃ ?_
    have hO₃₈ : Own B h k₃₈ [] := hO₆.call hW₁₃ rfl
    refine WO_v (a_mv (v := .b x21) rfl) ?_
    refine WO_end ?_
    refine then_n ?_
    refine W_rt ?_
    refine Ret_r (rs_t (n := 6) (v := .b x21) rfl rs_nil) ?_
    have hp := Option.some.inj hp; subst hp
    exact (And.intro rfl (hO₃₈.pick [] rfl (by decide)))
  · obtain ⟨rfl, q₁_6, hO₆⟩ := hJ₁
    refine blk_r ?_
    refine then_r ?_
    refine Ret_r (rs_t (n := 6) (v := .b false) q₁_6 rs_nil) ?_
    have hp := Option.some.inj hp; subst hp
    exact (And.intro rfl (hO₆.pick [] rfl (by decide)))

end Mu
