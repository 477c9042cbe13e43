/- The code comes to what was worked out. -/
import Derived.Test.YtdefkboekpjiiaaMuDf
import Derived.Test.YtdefkboekpjiiaaMuPa
import Derived.Test.YtdefkboekpjiiaaMuC1
set_option linter.unusedVariables false
set_option linter.unnecessarySimpa false
set_option linter.unusedSimpArgs false
set_option maxHeartbeats 2000000
set_option maxRecDepth 10000
namespace Mu
open Go (IntKind BinOp UnOp)
theorem z8.ok {h : Hp} {turns : List Int} {v_turns : V} (s_turns : Sl eInt h v_turns turns) {r : Zd × Zd × Bool} (hp : z8 turns = some r) :
  ∃ u k', Is G 24 [v_turns] h u k' ∧ V.tu [.ag (Za.c r.1), .ag (Za.c r.2.1), .b r.2.2] = u ∧ Own (fun r => r < h.n) h k' [] := by
 refine WC.is (WC_of G_F_kitty_Pair ?_)
 unfold z8 at hp
 let B : Nat → Prop := (fun r => r < h.n)
 have hO : Own B h h [] := Own.start0 h
 refine W_sq (W_rg (zq (hO.alloc (cs := Za.c (⟨0, 0⟩ : Zd)) hO.fr) ?_))
 rintro _ k₁ ⟨r₁, rfl, n₁, f₁, hW⟩
 have hO₁ : Own B h k₁ [eBox r₁ (Za.c (⟨0, 0⟩ : Zd))] := hW
 refine zq (hO₁.alloc (cs := Za.c (⟨0, 0⟩ : Zd)) hO₁.fr) ?_
 rintro _ k₂ ⟨r₂, rfl, n₂, f₂, hW⟩
 have hO₂ : Own B h k₂ [eBox r₁ (Za.c (⟨0, 0⟩ : Zd)), eBox r₂ (Za.c (⟨0, 0⟩ : Zd))] := hW
 refine Zb (a_mv (v := .b false) rfl) (Zh (Ze (W_sq (W_sq (W_rg (Zb (a_mv (v := v_turns) rfl) ?_))))))
 obtain ⟨x, hx₁, hp⟩ := Zt hp
 obtain ⟨u₁, k₃, ca₁, rfl, hW₁⟩ := Zay.ok (h := k₂)  (hO₂.rd0 s_turns.rd : Sl eInt k₂ v_turns turns) hx₁
 refine Zaj (id := 59) (caps := []) rfl (Z7 (v := v_turns) rfl zl) ca₁ ?_
 have hO₃ : Own B h k₃ [eBox r₁ (Za.c (⟨0, 0⟩ : Zd)), eBox r₂ (Za.c (⟨0, 0⟩ : Zd))] := hO₂.call hW₁ rfl
 refine Zb (a_not (t := x) rfl) (Zh (Ze ?_))
 rcases Zv hp with ⟨b₁, hp⟩ | ⟨b₁, hp⟩
 ·refine W_cT (t := (!x)) rfl b₁ ?_
  refine W_sq (W_rg (Zb (Zaw (cs := Za.c (⟨(0 : Int), (0 : Int)⟩ : Zd)) (by rw [ev_nil]; rfl)) (Zb (Zaw (cs := Za.c (⟨(0 : Int), (0 : Int)⟩ : Zd)) (by rw [ev_nil]; rfl)) (zq (hO₃.stb (ws := Za.c (⟨(0 : Int), (0 : Int)⟩ : Zd)) (cs' := Za.c (⟨(0 : Int), (0 : Int)⟩ : Zd)) (v := .ag (Za.c (⟨(0 : Int), (0 : Int)⟩ : Zd))) 0 rfl rfl rfl rfl ⟨rfl, Nat.le_of_ble_eq_true rfl, rfl⟩ rfl) ?_))))
  rintro _ k₄ ⟨rfl, f₃, m₁, hW⟩
  have hO₄ : Own B h k₄ [eBox r₁ (Za.c (⟨(0 : Int), (0 : Int)⟩ : Zd)), eBox r₂ (Za.c (⟨0, 0⟩ : Zd))] := hW
  refine zq (hO₄.stb (ws := Za.c (⟨(0 : Int), (0 : Int)⟩ : Zd)) (cs' := Za.c (⟨(0 : Int), (0 : Int)⟩ : Zd)) (v := .ag (Za.c (⟨(0 : Int), (0 : Int)⟩ : Zd))) 1 rfl rfl rfl rfl ⟨rfl, Nat.le_of_ble_eq_true rfl, rfl⟩ rfl) ?_
  rintro _ k₅ ⟨rfl, f₄, m₂, hW⟩
  have hO₅ : Own B h k₅ [eBox r₁ (Za.c (⟨(0 : Int), (0 : Int)⟩ : Zd)), eBox r₂ (Za.c (⟨(0 : Int), (0 : Int)⟩ : Zd))] := hW
  refine Zb (a_mv (v := .b false) rfl) (Zh (Ze (W_rt (zy (Ret_r (rs_c (n := 2) (v := .ag (Za.c (⟨(0 : Int), (0 : Int)⟩ : Zd))) (r := r₁) rfl (hO₅.box 0 rfl) rfl (rs_c (n := 3) (v := .ag (Za.c (⟨(0 : Int), (0 : Int)⟩ : Zd))) (r := r₂) rfl (hO₅.box 1 rfl) rfl (rs_t (n := 4) (v := .b false) rfl rs_nil))) ?_)))))
  have hp := Option.some.inj hp; subst hp
  exact (And.intro rfl (hO₅.pick [] rfl (by decide)))
 ·refine W_cF (t := (!x)) rfl b₁ ?_
  refine W_sk (Ze (W_sq (W_rg (Zb (a_mv (v := v_turns) rfl) ?_))))
  obtain ⟨x1, hx₂, hp⟩ := Zt hp
  obtain ⟨u₂, k₆, ca₂, v₁, rfl, hW₂⟩ := zt.ok (h := k₃)  (hO₃.rd0 s_turns.rd : Sl eInt k₃ v_turns turns) hx₂
  refine Zaj (id := 19) (caps := []) rfl (Z7 (v := v_turns) rfl zl) ca₂ ?_
  have hO₆ : Own B h k₆ [eBox r₁ (Za.c (⟨0, 0⟩ : Zd)), eBox r₂ (Za.c (⟨0, 0⟩ : Zd)), eSl Za v₁ x1] := hO₃.call hW₂ rfl
  refine Zb (a_mv (v := v_turns) rfl) ?_
  obtain ⟨x2, hx₃, hp⟩ := Zt hp
  obtain ⟨u₃, k₇, ca₃, v₂, rfl, hW₃⟩ := Zag.ok (h := k₆)  (hO₆.rd0 s_turns.rd : Sl eInt k₆ v_turns turns) hx₃
  refine Zaj (id := 62) (caps := []) rfl (Z7 (v := v_turns) rfl zl) ca₃ ?_
  have hO₇ : Own B h k₇ [eBox r₁ (Za.c (⟨0, 0⟩ : Zd)), eBox r₂ (Za.c (⟨0, 0⟩ : Zd)), eSl Za v₁ x1, eSl eInt v₂ x2] := hO₆.call hW₃ rfl
  refine Zb (a_mv (v := v₁) rfl) (Zb (a_mv (v := v₂) rfl) (Zh (Ze (W_sq (W_sq (W_rg (Zb (a_mv (v := v₁) rfl) ?_)))))))
  refine Zb (a_len (hO₇.sl 2 rfl : Sl Za k₇ v₁ x1) rfl) (Zb (a_mv (v := .i .i64 0) rfl) (Zh (Ze (W_bl ?_))))
  obtain ⟨o₁, ho₁, hp⟩ := Zt hp
  refine W.mono (Q := fun e fr k => match (generalizing := false) o₁ with
    | .inl _ => e = (.exit 0) ∧ fr 2 = .p r₁ 0 ∧ fr 3 = .p r₂ 0 ∧ Own B h k [eBox r₁ (Za.c (⟨0, 0⟩ : Zd)), eBox r₂ (Za.c (⟨0, 0⟩ : Zd))]
    | .inr (x4, x5) => e = .ret ∧ fr 2 = .p r₁ 0 ∧ fr 3 = .p r₂ 0 ∧ fr 4 = .b true ∧ Own B h k [eBox r₁ (Za.c x4), eBox r₂ (Za.c x5)]) ?_ ?_
  ·clear hp
   refine z3 (fun st fr k => match st with | x3 => fr 2 = .p r₁ 0 ∧ fr 3 = .p r₂ 0 ∧ fr 5 = v₁ ∧ fr 6 = v₂ ∧ fr 20 = v₁ ∧ fr 21 = .i .i64 (x1.length : Int) ∧ fr 22 = .i .i64 x3 ∧ Own B h k [eBox r₁ (Za.c (⟨0, 0⟩ : Zd)), eBox r₂ (Za.c (⟨0, 0⟩ : Zd)), eSl Za v₁ x1, eSl eInt v₂ x2]) ho₁ (s := 0) (And.intro (rfl) (And.intro (rfl) (And.intro (rfl) (And.intro (rfl) (And.intro (rfl) (And.intro (rfl) (And.intro (rfl) (hO₇.pick [0, 1, 2, 3] rfl (by decide))))))))) ?_
   rintro x3 q₂ k₉ ⟨q₂_2, q₂_3, q₂_5, q₂_6, q₂_20, q₂_21, q₂_22, hO₉⟩ o₂ hp
   dsimp only [z8.s0] at hp
   refine W_sq (W_rg (Zb (a_lss (a := x3) (b := (x1.length : Int)) q₂_22 q₂_21) (Zh (Ze (W_sq ?_)))))
   rcases Zv hp with ⟨b₂, hp⟩ | ⟨b₂, hp⟩
   ·refine W_cT (t := (decide (x3 < (x1.length : Int)))) rfl b₂ ?_
    refine W_sk (Ze (W_sq (W_bl (W_sq (W_rg ?_)))))
    obtain ⟨c₁, hp⟩ := Zo hp
    refine Zb (a_ixa (E := Za) (z := x3) (hO₉.sl 2 rfl : Sl Za k₉ v₁ x1) q₂_20 q₂_22 c₁) (Zb (ZaL (E := Za) (hO₉.sl 2 rfl : Sl Za k₉ v₁ x1) rfl (Zq c₁)) (zq (hO₉.alloc (cs := Za.c (⟨0, 0⟩ : Zd)) hO₉.fr) ?_))
    rintro _ k₁₀ ⟨r₃, rfl, n₃, f₅, hW⟩
    have hO₁₀ : Own B h k₁₀ [eBox r₁ (Za.c (⟨0, 0⟩ : Zd)), eBox r₂ (Za.c (⟨0, 0⟩ : Zd)), eSl Za v₁ x1, eSl eInt v₂ x2, eBox r₃ (Za.c (⟨0, 0⟩ : Zd))] := hW
    refine zq (hO₁₀.stb (ws := Za.c (gi x1 (x3 : Int).toNat)) (cs' := Za.c (gi x1 (x3 : Int).toNat)) (v := .ag (Za.c (gi x1 (x3 : Int).toNat))) 4 rfl rfl rfl rfl ⟨rfl, Nat.le_of_ble_eq_true rfl, rfl⟩ rfl) ?_
    rintro _ k₁₁ ⟨rfl, f₆, m₃, hW⟩
    have hO₁₁ : Own B h k₁₁ [eBox r₁ (Za.c (⟨0, 0⟩ : Zd)), eBox r₂ (Za.c (⟨0, 0⟩ : Zd)), eSl Za v₁ x1, eSl eInt v₂ x2, eBox r₃ (Za.c (gi x1 (x3 : Int).toNat))] := hW
    refine Zh (Ze (W_sq (W_rg (Zb (a_mv (v := v₁) q₂_5) (Zb (a_len (hO₁₁.sl 2 rfl : Sl Za k₁₁ v₁ x1) rfl) (Zb (a_mv (v := .i .i64 0) rfl) (Zh ?_)))))))
    refine Ze (W_bl ?_)
    obtain ⟨o₃, ho₂, hp⟩ := Zt hp
    refine W.mono (Q := fun e fr k => match (generalizing := false) o₃ with
      | .inl _ => e = (.exit 2) ∧ fr 2 = .p r₁ 0 ∧ fr 3 = .p r₂ 0 ∧ fr 5 = v₁ ∧ fr 6 = v₂ ∧ fr 20 = v₁ ∧ fr 21 = .i .i64 (x1.length : Int) ∧ fr 22 = .i .i64 x3 ∧ Own B h k [eBox r₁ (Za.c (⟨0, 0⟩ : Zd)), eBox r₂ (Za.c (⟨0, 0⟩ : Zd)), eSl Za v₁ x1, eSl eInt v₂ x2]
      | .inr x7 => e = .ret ∧ fr 2 = .p r₁ 0 ∧ fr 3 = .p r₂ 0 ∧ fr 4 = .b true ∧ Own B h k [eBox r₁ (Za.c (gi x1 (x3 : Int).toNat)), eBox r₂ (Za.c x7)]) ?_ ?_
    ·clear hp
     refine z3 (fun st fr k => match st with | x6 => fr 2 = .p r₁ 0 ∧ fr 3 = .p r₂ 0 ∧ fr 5 = v₁ ∧ fr 6 = v₂ ∧ fr 8 = .p r₃ 0 ∧ fr 20 = v₁ ∧ fr 21 = .i .i64 (x1.length : Int) ∧ fr 22 = .i .i64 x3 ∧ fr 26 = v₁ ∧ fr 27 = .i .i64 (x1.length : Int) ∧ fr 28 = .i .i64 x6 ∧ Own B h k [eBox r₁ (Za.c (⟨0, 0⟩ : Zd)), eBox r₂ (Za.c (⟨0, 0⟩ : Zd)), eSl Za v₁ x1, eSl eInt v₂ x2, eBox r₃ (Za.c (gi x1 (x3 : Int).toNat))]) ho₂ (s := 0) (And.intro (q₂_2) (And.intro (q₂_3) (And.intro (q₂_5) (And.intro (q₂_6) (And.intro (rfl) (And.intro (q₂_20) (And.intro (q₂_21) (And.intro (q₂_22) (And.intro (rfl) (And.intro (rfl) (And.intro (rfl) (hO₁₁.pick [0, 1, 2, 3, 4] rfl (by decide))))))))))))) ?_
     rintro x6 q₄ k₁₃ ⟨q₄_2, q₄_3, q₄_5, q₄_6, q₄_8, q₄_20, q₄_21, q₄_22, q₄_26, q₄_27, q₄_28, hO₁₃⟩ o₄ hp
     dsimp only [z8.s1] at hp
     refine W_sq (W_rg (Zb (a_lss (a := x6) (b := (x1.length : Int)) q₄_28 q₄_27) (Zh (Ze (W_sq ?_)))))
     rcases Zv hp with ⟨b₃, hp⟩ | ⟨b₃, hp⟩
     ·refine W_cT (t := (decide (x6 < (x1.length : Int)))) rfl b₃ ?_
      refine W_sk (Ze (W_sq (W_bl (W_sq (W_rg ?_)))))
      obtain ⟨c₂, hp⟩ := Zo hp
      refine Zb (a_ixa (E := Za) (z := x6) (hO₁₃.sl 2 rfl : Sl Za k₁₃ v₁ x1) q₄_26 q₄_28 c₂) (Zb (ZaL (E := Za) (hO₁₃.sl 2 rfl : Sl Za k₁₃ v₁ x1) rfl (Zq c₂)) (zq (hO₁₃.alloc (cs := Za.c (⟨0, 0⟩ : Zd)) hO₁₃.fr) ?_))
      rintro _ k₁₄ ⟨r₄, rfl, n₄, f₇, hW⟩
      have hO₁₄ : Own B h k₁₄ [eBox r₁ (Za.c (⟨0, 0⟩ : Zd)), eBox r₂ (Za.c (⟨0, 0⟩ : Zd)), eSl Za v₁ x1, eSl eInt v₂ x2, eBox r₃ (Za.c (gi x1 (x3 : Int).toNat)), eBox r₄ (Za.c (⟨0, 0⟩ : Zd))] := hW
      refine zq (hO₁₄.stb (ws := Za.c (gi x1 (x6 : Int).toNat)) (cs' := Za.c (gi x1 (x6 : Int).toNat)) (v := .ag (Za.c (gi x1 (x6 : Int).toNat))) 5 rfl rfl rfl rfl ⟨rfl, Nat.le_of_ble_eq_true rfl, rfl⟩ rfl) ?_
      rintro _ k₁₅ ⟨rfl, f₈, m₄, hW⟩
      have hO₁₅ : Own B h k₁₅ [eBox r₁ (Za.c (⟨0, 0⟩ : Zd)), eBox r₂ (Za.c (⟨0, 0⟩ : Zd)), eSl Za v₁ x1, eSl eInt v₂ x2, eBox r₃ (Za.c (gi x1 (x3 : Int).toNat)), eBox r₄ (Za.c (gi x1 (x6 : Int).toNat))] := hW
      refine Zh (Ze (W_sq (W_rg (Zb (a_mv (v := v₂) q₄_6) (Zb (a_ldbA (cs := (Za.c (gi x1 (x3 : Int).toNat))) (ws := Za.c (gi x1 (x3 : Int).toNat)) (hO₁₅.box 4 rfl) q₄_8 rfl) (Zb (a_ldbA (cs := (Za.c (gi x1 (x6 : Int).toNat))) (ws := Za.c (gi x1 (x6 : Int).toNat)) (hO₁₅.box 5 rfl) rfl rfl) ?_))))))
      obtain ⟨x8, hx₄, hp⟩ := Zt hp
      obtain ⟨u₄, k₁₆, ca₄, rfl, hW₄⟩ := Za3.ok (h := k₁₅)  (hO₁₅.sl 3 rfl : Sl eInt k₁₅ v₂ x2) hx₄
      refine Zaj (id := 61) (caps := []) rfl (Z7 (v := v₂) rfl (Z7 (v := .ag (Za.c (gi x1 (x3 : Int).toNat))) rfl (Z7 (v := .ag (Za.c (gi x1 (x6 : Int).toNat))) rfl zl))) ca₄ ?_
      have hO₁₆ : Own B h k₁₆ [eBox r₁ (Za.c (⟨0, 0⟩ : Zd)), eBox r₂ (Za.c (⟨0, 0⟩ : Zd)), eSl Za v₁ x1, eSl eInt v₂ x2, eBox r₃ (Za.c (gi x1 (x3 : Int).toNat)), eBox r₄ (Za.c (gi x1 (x6 : Int).toNat))] := hO₁₅.call hW₄ rfl
      refine Zb (a_eqI (a := x8) (b := 2) rfl rfl) (Zh (Ze ?_))
      rcases Zv hp with ⟨b₄, hp⟩ | ⟨b₄, hp⟩
      ·refine W_cT (t := (decide (x8 = 2))) rfl b₄ ?_
       refine W_sq (W_dr ?_)
       have hW := hO₁₆.bump 5
       have fr₁ := Fresh.start k₁₆ 5
       have nb₁ : ∀ {i : Nat}, h.n ≤ k₁₆.n + i := Nat.le_trans hO₁₆.n (Nat.le_add_right _ _)
       have hO₁₇ : Own B h (k₁₆.bump 5) [eBox r₁ (Za.c (⟨0, 0⟩ : Zd)), eBox r₂ (Za.c (⟨0, 0⟩ : Zd)), eSl Za v₁ x1, eSl eInt v₂ x2, eBox r₃ (Za.c (gi x1 (x3 : Int).toNat)), eBox r₄ (Za.c (gi x1 (x6 : Int).toNat))] := hW
       refine zM (a_ldbA (cs := (Za.c (gi x1 (x3 : Int).toNat))) (ws := Za.c (gi x1 (x3 : Int).toNat)) (hO₁₇.box 4 rfl) q₄_8 rfl) (zM (a_ldbA (cs := (Za.c (gi x1 (x6 : Int).toNat))) (ws := Za.c (gi x1 (x6 : Int).toNat)) (hO₁₇.box 5 rfl) rfl rfl) (ZaR (hO₁₇.stb (ws := Za.c (gi x1 (x3 : Int).toNat)) (cs' := Za.c (gi x1 (x3 : Int).toNat)) (v := .ag (Za.c (gi x1 (x3 : Int).toNat))) 0 rfl q₄_2 rfl rfl ⟨rfl, Nat.le_of_ble_eq_true rfl, rfl⟩ rfl) ?_))
       rintro _ k₁₈ z₁ ⟨rfl, f₉, m₅, hW⟩
       have fr₂ := fr₁.kept f₉ (by decide)
       have hO₁₈ : Own B h k₁₈ [eBox r₁ (Za.c (gi x1 (x3 : Int).toNat)), eBox r₂ (Za.c (⟨0, 0⟩ : Zd)), eSl Za v₁ x1, eSl eInt v₂ x2, eBox r₃ (Za.c (gi x1 (x3 : Int).toNat)), eBox r₄ (Za.c (gi x1 (x6 : Int).toNat))] := hW
       refine ZaR (hO₁₈.stb (ws := Za.c (gi x1 (x6 : Int).toNat)) (cs' := Za.c (gi x1 (x6 : Int).toNat)) (v := .ag (Za.c (gi x1 (x6 : Int).toNat))) 1 rfl q₄_3 rfl rfl ⟨rfl, Nat.le_of_ble_eq_true rfl, rfl⟩ rfl) ?_
       rintro _ k₁₉ z₂ ⟨rfl, f₁₀, m₆, hW⟩
       have fr₃ := fr₂.kept f₁₀ (by decide)
       have hO₁₉ : Own B h k₁₉ [eBox r₁ (Za.c (gi x1 (x3 : Int).toNat)), eBox r₂ (Za.c (gi x1 (x6 : Int).toNat)), eSl Za v₁ x1, eSl eInt v₂ x2, eBox r₃ (Za.c (gi x1 (x3 : Int).toNat)), eBox r₄ (Za.c (gi x1 (x6 : Int).toNat))] := hW
       refine zM (a_mv (v := .b true) rfl) (WD_end ?_)
       refine And.intro ?_ ?_
       ·intro q hq
        simp only [List.mem_cons, List.not_mem_nil, or_false] at hq
        rcases hq with rfl | rfl
        ·refine ap_ll ?_ ?_
         ·exact (fun h => nomatch h)
         ·exact (fun h => nomatch h)
        ·refine ap_oo ?_ ?_ ?_
         ·exact (fun r h1 h2 => hO₁₆.apartAt (i := 5) (j := 0) rfl rfl (by decide) r (tch (v := V.p r₄ 0) (ZaM h1) rfl) (tch (v := V.p r₁ 0) (ZaT h2) q₄_2))
         ·exact (fun h => nomatch h)
         ·exact (fun _ hm => Nat.lt_irrefl _ (Nat.lt_of_lt_of_le (hO₁₆.ltAt 5 rfl _ (tch (v := V.p r₄ 0) (ZaM hm) rfl)) (Nat.le_add_right _ _)))
       refine Ze (W_rt (Zak (zy ?_)))
       have hp := Option.some.inj hp; subst hp
       refine (Or.inr (Exists.intro (.inr (gi x1 (x6 : Int).toNat)) (And.intro rfl (And.intro (fun h => nomatch h) (fun he => ?_)))))
       subst he; exact (And.intro rfl (And.intro (q₄_2) (And.intro (q₄_3) (And.intro (rfl) (hO₁₉.pick [0, 1] rfl (by decide))))))
      ·refine W_cF (t := (decide (x8 = 2))) rfl b₄ ?_
       refine W_sk (zL (Ze (W_rg ?_)))
       obtain ⟨c₃, hp⟩ := Zo hp
       refine Zb (a_add (a := x6) (b := 1) q₄_28 rfl c₃) (Zb (a_mv (v := .i .i64 (x6 + 1)) rfl) (Zh ?_))
       have hp := Option.some.inj hp; subst hp
       exact (Or.inl (Exists.intro (x6 + 1) (And.intro rfl (And.intro rfl (And.intro (q₄_2) (And.intro (q₄_3) (And.intro (q₄_5) (And.intro (q₄_6) (And.intro (q₄_8) (And.intro (q₄_20) (And.intro (q₄_21) (And.intro (q₄_22) (And.intro (q₄_26) (And.intro (q₄_27) (And.intro (rfl) (hO₁₆.pick [0, 1, 2, 3, 4] rfl (by decide)))))))))))))))))
     ·refine W_cF (t := (decide (x6 < (x1.length : Int)))) rfl b₃ ?_
      refine W_ex (zC ?_)
      have hp := Option.some.inj hp; subst hp
      refine (Or.inr (Exists.intro (.inl ()) (And.intro rfl (And.intro (fun h => nomatch h) (fun he => ?_)))))
      subst he; exact (And.intro rfl (And.intro (q₄_2) (And.intro (q₄_3) (And.intro (q₄_5) (And.intro (q₄_6) (And.intro (q₄_20) (And.intro (q₄_21) (And.intro (q₄_22) (hO₁₃.pick [0, 1, 2, 3] rfl (by decide))))))))))
    intro e₂ q₃ k₁₂ hJ₂
    rcases o₃ with _ | x7
    ·obtain ⟨rfl, q₃_2, q₃_3, q₃_5, q₃_6, q₃_20, q₃_21, q₃_22, hO₁₂⟩ := hJ₂
     refine zS (zL (Ze (W_rg ?_)))
     obtain ⟨c₄, hp⟩ := Zo hp
     refine Zb (a_add (a := x3) (b := 1) q₃_22 rfl c₄) (Zb (a_mv (v := .i .i64 (x3 + 1)) rfl) (Zh ?_))
     have hp := Option.some.inj hp; subst hp
     exact (Or.inl (Exists.intro (x3 + 1) (And.intro rfl (And.intro rfl (And.intro (q₃_2) (And.intro (q₃_3) (And.intro (q₃_5) (And.intro (q₃_6) (And.intro (q₃_20) (And.intro (q₃_21) (And.intro (rfl) (hO₁₂.pick [0, 1, 2, 3] rfl (by decide)))))))))))))
    ·obtain ⟨rfl, q₃_2, q₃_3, q₃_4, hO₁₂⟩ := hJ₂
     refine Zak (Zak (zy ?_))
     have hp := Option.some.inj hp; subst hp
     refine (Or.inr (Exists.intro (.inr (gi x1 (x3 : Int).toNat, x7)) (And.intro rfl (And.intro (fun h => nomatch h) (fun he => ?_)))))
     subst he; exact (And.intro rfl (And.intro (q₃_2) (And.intro (q₃_3) (And.intro (q₃_4) (hO₁₂.pick [0, 1] rfl (by decide))))))
   ·refine W_cF (t := (decide (x3 < (x1.length : Int)))) rfl b₂ ?_
    refine W_ex (zC ?_)
    have hp := Option.some.inj hp; subst hp
    refine (Or.inr (Exists.intro (.inl ()) (And.intro rfl (And.intro (fun h => nomatch h) (fun he => ?_)))))
    subst he; exact (And.intro rfl (And.intro (q₂_2) (And.intro (q₂_3) (hO₉.pick [0, 1] rfl (by decide)))))
  intro e₁ q₁ k₈ hJ₁
  rcases o₁ with _ | ⟨x4, x5⟩
  ·obtain ⟨rfl, q₁_2, q₁_3, hO₈⟩ := hJ₁
   refine zS (Ze (W_sq (W_rg (Zb (Zaw (cs := Za.c (⟨(0 : Int), (0 : Int)⟩ : Zd)) (by rw [ev_nil]; rfl)) (Zb (Zaw (cs := Za.c (⟨(0 : Int), (0 : Int)⟩ : Zd)) (by rw [ev_nil]; rfl)) (zq (hO₈.stb (ws := Za.c (⟨(0 : Int), (0 : Int)⟩ : Zd)) (cs' := Za.c (⟨(0 : Int), (0 : Int)⟩ : Zd)) (v := .ag (Za.c (⟨(0 : Int), (0 : Int)⟩ : Zd))) 0 rfl q₁_2 rfl rfl ⟨rfl, Nat.le_of_ble_eq_true rfl, rfl⟩ rfl) ?_))))))
   rintro _ k₂₀ ⟨rfl, f₁₁, m₇, hW⟩
   have hO₂₀ : Own B h k₂₀ [eBox r₁ (Za.c (⟨(0 : Int), (0 : Int)⟩ : Zd)), eBox r₂ (Za.c (⟨0, 0⟩ : Zd))] := hW
   refine zq (hO₂₀.stb (ws := Za.c (⟨(0 : Int), (0 : Int)⟩ : Zd)) (cs' := Za.c (⟨(0 : Int), (0 : Int)⟩ : Zd)) (v := .ag (Za.c (⟨(0 : Int), (0 : Int)⟩ : Zd))) 1 rfl q₁_3 rfl rfl ⟨rfl, Nat.le_of_ble_eq_true rfl, rfl⟩ rfl) ?_
   rintro _ k₂₁ ⟨rfl, f₁₂, m₈, hW⟩
   have hO₂₁ : Own B h k₂₁ [eBox r₁ (Za.c (⟨(0 : Int), (0 : Int)⟩ : Zd)), eBox r₂ (Za.c (⟨(0 : Int), (0 : Int)⟩ : Zd))] := hW
   refine Zb (a_mv (v := .b false) rfl) (Zh (Ze (W_rt (Ret_r (rs_c (n := 2) (v := .ag (Za.c (⟨(0 : Int), (0 : Int)⟩ : Zd))) (r := r₁) q₁_2 (hO₂₁.box 0 rfl) rfl (rs_c (n := 3) (v := .ag (Za.c (⟨(0 : Int), (0 : Int)⟩ : Zd))) (r := r₂) q₁_3 (hO₂₁.box 1 rfl) rfl (rs_t (n := 4) (v := .b false) rfl rs_nil))) ?_))))
   have hp := Option.some.inj hp; subst hp
   exact (And.intro rfl (hO₂₁.pick [] rfl (by decide)))
  ·obtain ⟨rfl, q₁_2, q₁_3, q₁_4, hO₈⟩ := hJ₁
   refine Zak (zy (Ret_r (rs_c (n := 2) (v := .ag (Za.c x4)) (r := r₁) q₁_2 (hO₈.box 0 rfl) rfl (rs_c (n := 3) (v := .ag (Za.c x5)) (r := r₂) q₁_3 (hO₈.box 1 rfl) rfl (rs_t (n := 4) (v := .b true) q₁_4 rs_nil))) ?_))
   have hp := Option.some.inj hp; subst hp
   exact (And.intro rfl (hO₈.pick [] rfl (by decide)))

theorem zT.ok {h : Hp} {cells : List Zk} {v_cells : V} (s_cells : Sl Zf h v_cells cells) {r : Bool × Int} (hp : zT cells = some r) :
  ∃ u k', Is G 180 [v_cells] h u k' ∧ V.tu [.b r.1, .i .i64 r.2] = u ∧ Own (fun r => r < h.n) h k' [] := by
 refine WC.is (WC_of G_F_kitty_Regular ?_)
 unfold zT at hp
 let B : Nat → Prop := (fun r => r < h.n)
 have hO : Own B h h [] := Own.start0 h
 refine W_sq (W_rg (Zb (a_mv (v := .b false) rfl) (Zb (a_mv (v := .i .i64 0) rfl) (Zh (Ze (W_sq (W_sq ?_)))))))
 refine W_rg (Zb (a_mv (v := v_cells) rfl) ?_)
 obtain ⟨x, hx₁, hp⟩ := Zt hp
 obtain ⟨u₁, k₁, ca₁, rfl, hW₁⟩ := Za5.ok (h := h)  (hO.rd0 s_cells.rd : Sl Zf h v_cells cells) hx₁
 refine Zaj (id := 176) (caps := []) rfl (Z7 (v := v_cells) rfl zl) ca₁ ?_
 have hO₁ : Own B h k₁ [] := hO.call hW₁ rfl
 refine Zb (a_mv (v := .i .i64 x) rfl) (Zh (Ze (W_sq (W_rg (Zb (a_mv (v := .i .i64 x) rfl) (Zb (a_neI (a := x) (b := 0) rfl rfl) (Zh ?_)))))))
 refine Ze ?_
 rcases Zv hp with ⟨b₁, hp⟩ | ⟨b₁, hp⟩
 ·refine W_cT (t := (!(decide (x = 0)))) rfl b₁ ?_
  refine W_sq (W_rg (Zb (a_mv (v := .i .i64 x) rfl) (Zb (a_mv (v := .b false) rfl) (Zb (a_mv (v := .i .i64 x) rfl) (Zh (Ze (W_rt ?_)))))))
  refine zy (Ret_r (rs_t (n := 2) (v := .b false) rfl (rs_t (n := 3) (v := .i .i64 x) rfl rs_nil)) ?_)
  have hp := Option.some.inj hp; subst hp
  exact (And.intro rfl (hO₁.pick [] rfl (by decide)))
 ·refine W_cF (t := (!(decide (x = 0)))) rfl b₁ ?_
  refine W_sk (Ze (W_sq (W_rg (Zb (a_mv (v := v_cells) rfl) ?_))))
  obtain ⟨⟨x1, x2⟩, hx₂, hp⟩ := Zt hp
  obtain ⟨u₂, k₂, ca₂, v₁, vs₁, rfl, hW₂⟩ := z5.ok (h := k₁)  (hO₁.rd0 s_cells.rd : Sl Zf k₁ v_cells cells) hx₂
  refine Zaj (id := 203) (caps := []) rfl (Z7 (v := v_cells) rfl zl) ca₂ ?_
  have hO₂ : Own B h k₂ [eSl eV v₁ vs₁, eAll Zg vs₁ x1] := hO₁.call hW₂ rfl
  refine Zb (a_mv (v := .tu [v₁, .i .i64 x2]) rfl) (Zb (Zax (vs := [v₁, .i .i64 x2]) (v := v₁) rfl rfl) (Zb (Zax (vs := [v₁, .i .i64 x2]) (v := .i .i64 x2) rfl rfl) (Zb (a_mv (v := v₁) rfl) (Zb (a_mv (v := .i .i64 x2) rfl) (Zh (Ze (W_sq ?_)))))))
  refine W_sq (W_rg (Zb (a_mv (v := v₁) rfl) (Zb (a_lenN (n := (x1).length) (hO₂.sl 0 rfl : Sl eV k₂ v₁ vs₁) (hO₂.allLen 1 rfl : (vs₁).length = (x1).length) rfl) (Zb (a_mv (v := .i .i64 0) rfl) (Zh (Ze (W_bl ?_)))))))
  obtain ⟨o₁, ho₁, hp⟩ := Zt hp
  refine W.mono (Q := fun e fr k => match (generalizing := false) o₁ with
    | .inl _ => e = (.exit 0) ∧ Own B h k []
    | .inr _ => e = .ret ∧ fr 2 = .b false ∧ fr 3 = .i .i64 0 ∧ Own B h k []) ?_ ?_
  ·clear hp
   refine z3 (fun st fr k => match st with | x3 => fr 0 = v_cells ∧ fr 22 = v₁ ∧ fr 23 = .i .i64 (x1.length : Int) ∧ fr 24 = .i .i64 x3 ∧ Own B h k [eSl eV v₁ vs₁, eAll Zg vs₁ x1]) ho₁ (s := 0) (And.intro (rfl) (And.intro (rfl) (And.intro (rfl) (And.intro (rfl) (hO₂.pick [0, 1] rfl (by decide)))))) ?_
   rintro x3 q₂ k₄ ⟨q₂_0, q₂_22, q₂_23, q₂_24, hO₄⟩ o₂ hp
   dsimp only [zT.s0] at hp
   refine W_sq (W_rg (Zb (a_lss (a := x3) (b := (x1.length : Int)) q₂_24 q₂_23) (Zh (Ze (W_sq ?_)))))
   rcases Zv hp with ⟨b₂, hp⟩ | ⟨b₂, hp⟩
   ·refine W_cT (t := (decide (x3 < (x1.length : Int)))) rfl b₂ ?_
    refine W_sk (Ze (W_sq (W_bl (W_sq (W_rg ?_)))))
    obtain ⟨c₁, hp⟩ := Zo hp
    refine Zb (a_ixa (E := eV) (z := x3) (hO₄.sl 0 rfl : Sl eV k₄ v₁ vs₁) q₂_22 q₂_24 (by rw [(hO₄.allLen 1 rfl : (vs₁).length = (x1).length)]; exact c₁)) (Zb (zH (w := (gi vs₁ (x3 : Int).toNat)) (hO₄.sl 0 rfl : Sl eV k₄ v₁ vs₁) rfl (by rw [(hO₄.allLen 1 rfl : (vs₁).length = (x1).length)]; exact Zq c₁) rfl) (Zb (a_mv (v := (gi vs₁ (x3 : Int).toNat)) rfl) (Zh (Ze (W_sq (W_rg (Zb (a_mv (v := v_cells) q₂_0) ?_)))))))
    refine Zb (a_mv (v := (gi vs₁ (x3 : Int).toNat)) rfl) ?_
    obtain ⟨x4, hx₃, hp⟩ := Zt hp
    obtain ⟨u₃, k₅, ca₃, v₂, rfl, hW₃⟩ := Zab.ok (h := k₄)  (hO₄.rd0 s_cells.rd : Sl Zf k₄ v_cells cells) (hO₄.inn 1 rfl (Zq c₁) : Sl Zg k₄ (gi vs₁ (x3 : Int).toNat) (gi x1 (x3 : Int).toNat)) hx₃
    refine Zaj (id := 204) (caps := []) rfl (Z7 (v := v_cells) rfl (Z7 (v := (gi vs₁ (x3 : Int).toNat)) rfl zl)) ca₃ ?_
    have hO₅ : Own B h k₅ [eSl eV v₁ vs₁, eAll Zg vs₁ x1, eSl eInt v₂ x4] := hO₄.call hW₃ rfl
    obtain ⟨⟨x5, x6, x7⟩, hx₄, hp⟩ := Zt hp
    obtain ⟨u₄, k₆, ca₄, rfl, hW₄⟩ := z8.ok (h := k₅)  (hO₅.sl 2 rfl : Sl eInt k₅ v₂ x4) hx₄
    refine Zaj (id := 24) (caps := []) rfl (Z7 (v := v₂) rfl zl) ca₄ ?_
    have hO₆ : Own B h k₆ [eSl eV v₁ vs₁, eAll Zg vs₁ x1, eSl eInt v₂ x4] := hO₅.call hW₄ rfl
    refine Zb (a_mv (v := .tu [.ag (Za.c x5), .ag (Za.c x6), .b x7]) rfl) (Zb (Zax (vs := [.ag (Za.c x5), .ag (Za.c x6), .b x7]) (v := .ag (Za.c x5)) rfl rfl) (Zb (Zax (vs := [.ag (Za.c x5), .ag (Za.c x6), .b x7]) (v := .ag (Za.c x6)) rfl rfl) (Zb (Zax (vs := [.ag (Za.c x5), .ag (Za.c x6), .b x7]) (v := .b x7) rfl rfl) (zq (hO₆.alloc (cs := Za.c (⟨0, 0⟩ : Zd)) hO₆.fr) ?_))))
    rintro _ k₇ ⟨r₁, rfl, n₁, f₁, hW⟩
    have hO₇ : Own B h k₇ [eSl eV v₁ vs₁, eAll Zg vs₁ x1, eSl eInt v₂ x4, eBox r₁ (Za.c (⟨0, 0⟩ : Zd))] := hW
    refine zq (hO₇.alloc (cs := Za.c (⟨0, 0⟩ : Zd)) hO₇.fr) ?_
    rintro _ k₈ ⟨r₂, rfl, n₂, f₂, hW⟩
    have hO₈ : Own B h k₈ [eSl eV v₁ vs₁, eAll Zg vs₁ x1, eSl eInt v₂ x4, eBox r₁ (Za.c (⟨0, 0⟩ : Zd)), eBox r₂ (Za.c (⟨0, 0⟩ : Zd))] := hW
    refine zq (hO₈.stb (ws := Za.c x5) (cs' := Za.c x5) (v := .ag (Za.c x5)) 3 rfl rfl rfl rfl ⟨rfl, Nat.le_of_ble_eq_true rfl, rfl⟩ rfl) ?_
    rintro _ k₉ ⟨rfl, f₃, m₁, hW⟩
    have hO₉ : Own B h k₉ [eSl eV v₁ vs₁, eAll Zg vs₁ x1, eSl eInt v₂ x4, eBox r₁ (Za.c x5), eBox r₂ (Za.c (⟨0, 0⟩ : Zd))] := hW
    refine zq (hO₉.stb (ws := Za.c x6) (cs' := Za.c x6) (v := .ag (Za.c x6)) 4 rfl rfl rfl rfl ⟨rfl, Nat.le_of_ble_eq_true rfl, rfl⟩ rfl) ?_
    rintro _ k₁₀ ⟨rfl, f₄, m₂, hW⟩
    have hO₁₀ : Own B h k₁₀ [eSl eV v₁ vs₁, eAll Zg vs₁ x1, eSl eInt v₂ x4, eBox r₁ (Za.c x5), eBox r₂ (Za.c x6)] := hW
    refine Zb (a_mv (v := .b x7) rfl) (Zh (Ze (W_sq (W_rg (Zb (a_mv (v := .b x7) rfl) (Zh (Ze ?_)))))))
    rcases Zv hp with ⟨b₃, hp⟩ | ⟨b₃, hp⟩
    ·refine W_cT (t := x7) rfl b₃ ?_
     refine W_sq (W_rg (Zb (a_mv (v := .b false) rfl) (Zb (a_mv (v := .i .i64 0) rfl) (Zh (Ze (W_rt (Zak ?_)))))))
     refine zy ?_
     have hp := Option.some.inj hp; subst hp
     refine (Or.inr (Exists.intro (.inr ()) (And.intro rfl (And.intro (fun h => nomatch h) (fun he => ?_)))))
     subst he; exact (And.intro rfl (And.intro (rfl) (And.intro (rfl) (hO₁₀.pick [] rfl (by decide)))))
    ·refine W_cF (t := x7) rfl b₃ ?_
     refine W_sk (zL (Ze (W_rg ?_)))
     obtain ⟨c₂, hp⟩ := Zo hp
     refine Zb (a_add (a := x3) (b := 1) q₂_24 rfl c₂) (Zb (a_mv (v := .i .i64 (x3 + 1)) rfl) (Zh ?_))
     have hp := Option.some.inj hp; subst hp
     exact (Or.inl (Exists.intro (x3 + 1) (And.intro rfl (And.intro rfl (And.intro (q₂_0) (And.intro (q₂_22) (And.intro (q₂_23) (And.intro (rfl) (hO₁₀.pick [0, 1] rfl (by decide))))))))))
   ·refine W_cF (t := (decide (x3 < (x1.length : Int)))) rfl b₂ ?_
    refine W_ex (zC ?_)
    have hp := Option.some.inj hp; subst hp
    refine (Or.inr (Exists.intro (.inl ()) (And.intro rfl (And.intro (fun h => nomatch h) (fun he => ?_)))))
    subst he; exact (And.intro rfl (hO₄.pick [] rfl (by decide)))
  intro e₁ q₁ k₃ hJ₁
  rcases o₁ with _ | _
  ·obtain ⟨rfl, hO₃⟩ := hJ₁
   refine zS (Ze (W_sq (W_rg (Zb (a_mv (v := .b true) rfl) (Zb (a_mv (v := .i .i64 0) rfl) (Zh (Ze ?_)))))))
   refine W_rt (Ret_r (rs_t (n := 2) (v := .b true) rfl (rs_t (n := 3) (v := .i .i64 0) rfl rs_nil)) ?_)
   have hp := Option.some.inj hp; subst hp
   exact (And.intro rfl (hO₃.pick [] rfl (by decide)))
  ·obtain ⟨rfl, q₁_2, q₁_3, hO₃⟩ := hJ₁
   refine Zak (zy (Ret_r (rs_t (n := 2) (v := .b false) q₁_2 (rs_t (n := 3) (v := .i .i64 0) q₁_3 rs_nil)) ?_))
   have hp := Option.some.inj hp; subst hp
   exact (And.intro rfl (hO₃.pick [] rfl (by decide)))

theorem zd.ok {h : Hp} {l : List Zk} {v_l : V} (s_l : Sl Zf h v_l l) {r : Int} (hp : zd l = some r) :
  ∃ u k', Is G 34 [v_l] h u k' ∧ V.i .i64 r = u ∧ Own (fun r => r < h.n) h k' [] := by
 refine WC.is (WC_of G_F_muntinref10_Check ?_)
 unfold zd at hp
 let B : Nat → Prop := (fun r => r < h.n)
 have hO : Own B h h [] := Own.start0 h
 refine W_sq (W_rg (Zb (a_mv (v := .i .i64 0) rfl) (Zh (Ze (W_sq (W_sq (W_rg ?_)))))))
 refine Zb (a_mv (v := v_l) rfl) (Zb (a_len (hO.rd0 s_l.rd : Sl Zf h v_l l) rfl) (Zb (a_gtr (a := (l.length : Int)) (b := 4096) rfl rfl) (Zh (Ze ?_))))
 rcases Zv hp with ⟨b₁, hp⟩ | ⟨b₁, hp⟩
 ·refine W_cT (t := (decide (4096 < (l.length : Int)))) rfl b₁ ?_
  refine W_sq (W_rg (Zb (a_mv (v := .i .i64 6) rfl) (Zh (Ze (W_rt (zy (Ret_r (rs_t (n := 2) (v := .i .i64 6) rfl rs_nil) ?_)))))))
  have hp := Option.some.inj hp; subst hp
  exact (And.intro rfl (hO.pick [] rfl (by decide)))
 ·refine W_cF (t := (decide (4096 < (l.length : Int)))) rfl b₁ ?_
  refine W_sk (Ze (W_sq (W_sq (W_rg (Zb (a_mv (v := .i .i64 0) rfl) (Zh (Ze ?_)))))))
  refine W_bl ?_
  obtain ⟨o₁, ho₁, hp⟩ := Zt hp
  refine W.mono (Q := fun e fr k => match (generalizing := false) o₁ with
    | .inl _ => e = (.exit 0) ∧ Own B h k []
    | .inr x => e = .ret ∧ fr 2 = .i .i64 x ∧ Own B h k []) ?_ ?_
  ·clear hp
   refine z3 (fun st fr k => match st with | v => fr 0 = v_l ∧ fr 3 = .i .i64 v ∧ Own B h k []) ho₁ (s := 0) (And.intro (rfl) (And.intro (rfl) (hO.pick [] rfl (by decide)))) ?_
   rintro v q₂ k₂ ⟨q₂_0, q₂_3, hO₂⟩ o₂ hp
   dsimp only [zd.s0] at hp
   refine W_sq (W_sq (W_rg (Zb (a_mv (v := .i .i64 v) q₂_3) (Zb (a_mv (v := v_l) q₂_0) (Zb (a_len (hO₂.rd0 s_l.rd : Sl Zf k₂ v_l l) rfl) (Zb (a_lss (a := v) (b := (l.length : Int)) rfl rfl) (Zh ?_)))))))
   refine Ze ?_
   rcases Zv hp with ⟨b₂, hp⟩ | ⟨b₂, hp⟩
   ·refine W_cT (t := (decide (v < (l.length : Int)))) rfl b₂ ?_
    refine W_sk (Ze (W_sq (W_bl (W_sq (W_rg (Zb (a_mv (v := .i .i64 0) rfl) (Zh ?_)))))))
    refine Ze (W_bl ?_)
    obtain ⟨o₃, ho₂, hp⟩ := Zt hp
    refine W.mono (Q := fun e fr k => match (generalizing := false) o₃ with
      | .inl _ => e = (.exit 2) ∧ fr 0 = v_l ∧ fr 3 = .i .i64 v ∧ Own B h k []
      | .inr x1 => e = .ret ∧ fr 2 = .i .i64 x1 ∧ Own B h k []) ?_ ?_
    ·clear hp
     refine z3 (fun st fr k => match st with | d => fr 0 = v_l ∧ fr 3 = .i .i64 v ∧ fr 4 = .i .i64 d ∧ Own B h k []) ho₂ (s := 0) (And.intro (q₂_0) (And.intro (q₂_3) (And.intro (rfl) (hO₂.pick [] rfl (by decide))))) ?_
     rintro d q₄ k₄ ⟨q₄_0, q₄_3, q₄_4, hO₄⟩ o₄ hp
     dsimp only [zd.s1] at hp
     refine W_sq (W_sq (W_rg (Zb (a_mv (v := .i .i64 d) q₄_4) (Zb (a_lss (a := d) (b := 4) rfl rfl) (Zh (Ze ?_))))))
     rcases Zv hp with ⟨b₃, hp⟩ | ⟨b₃, hp⟩
     ·refine W_cT (t := (decide (d < 4))) rfl b₃ ?_
      refine W_sk (Ze (W_sq (W_bl (W_sq (W_rg (Zb (a_mv (v := v_l) q₄_0) (Zb (a_mv (v := .i .i64 v) q₄_3) ?_)))))))
      refine Zb (a_mv (v := .i .i64 d) q₄_4) ?_
      obtain ⟨c₁, hp⟩ := Zo hp
      refine Zb (a_ixa (E := Zf) (z := v) (hO₄.rd0 s_l.rd : Sl Zf k₄ v_l l) rfl rfl c₁) (Zb (Zan (off' := 0) (off2 := 0) (hO₄.rd0 s_l.rd : Sl Zf k₄ v_l l) (Zq c₁) rfl rfl) ?_)
      obtain ⟨c₂, hp⟩ := Zo hp
      refine Zb (Za4 (off := 0) (off2 := (0 + (d : Int).toNat * 1)) (z := d) (hO₄.rd0 s_l.rd : Sl Zf k₄ v_l l) (Zq c₁) rfl rfl c₂ rfl) (Zb (zH (w := .i .i64 (((gi l (v : Int).toNat).Next).get d)) (hO₄.rd0 s_l.rd : Sl Zf k₄ v_l l) rfl (Zq c₁) (zP c₂)) (Zb (a_mv (v := .i .i64 (((gi l (v : Int).toNat).Next).get d)) rfl) (Zh (Ze (W_sq (W_rg (Zb (a_mv (v := v_l) q₄_0) ?_)))))))
      refine Zb (a_mv (v := .i .i64 v) q₄_3) (Zb (a_mv (v := .i .i64 d) q₄_4) (Zb (a_ixa (E := Zf) (z := v) (hO₄.rd0 s_l.rd : Sl Zf k₄ v_l l) rfl rfl c₁) (Zb (Zan (off' := 0) (off2 := 4) (hO₄.rd0 s_l.rd : Sl Zf k₄ v_l l) (Zq c₁) rfl rfl) (Zb (Za4 (off := 4) (off2 := (4 + (d : Int).toNat * 1)) (z := d) (hO₄.rd0 s_l.rd : Sl Zf k₄ v_l l) (Zq c₁) rfl rfl c₂ rfl) (Zb (zH (w := .i .i64 (((gi l (v : Int).toNat).Owner).get d)) (hO₄.rd0 s_l.rd : Sl Zf k₄ v_l l) rfl (Zq c₁) (Za6 c₂)) (Zb (a_mv (v := .i .i64 (((gi l (v : Int).toNat).Owner).get d)) rfl) (Zh ?_)))))))
      refine Ze (W_sq (W_sq (W_rg (Zb (a_mv (v := .i .i64 (((gi l (v : Int).toNat).Next).get d)) rfl) (Zb (a_eqI (a := (((gi l (v : Int).toNat).Next).get d)) (b := (-1)) rfl rfl) (Zh (Ze ?_)))))))
      rcases Zv hp with ⟨b₄, hp⟩ | ⟨b₄, hp⟩
      ·refine W_cT (t := (decide (((gi l (v : Int).toNat).Next).get d = (-1)))) rfl b₄ ?_
       refine W_sq (W_sq (W_rg (Zb (a_mv (v := .i .i64 (((gi l (v : Int).toNat).Owner).get d)) rfl) (Zb (a_neI (a := (((gi l (v : Int).toNat).Owner).get d)) (b := 0) rfl rfl) (Zh (Ze ?_))))))
       rcases Zv hp with ⟨b₅, hp⟩ | ⟨b₅, hp⟩
       ·refine W_cT (t := (!(decide (((gi l (v : Int).toNat).Owner).get d = 0)))) rfl b₅ ?_
        refine W_sq (W_rg (Zb (a_mv (v := .i .i64 9) rfl) (Zh (Ze (W_rt (zy (zy ?_)))))))
        refine Zak (zy ?_)
        have hp := Option.some.inj hp; subst hp
        refine (Or.inr (Exists.intro (.inr 9) (And.intro rfl (And.intro (fun h => nomatch h) (fun he => ?_)))))
        subst he; exact (And.intro rfl (And.intro (rfl) (hO₄.pick [] rfl (by decide))))
       ·refine W_cF (t := (!(decide (((gi l (v : Int).toNat).Owner).get d = 0)))) rfl b₅ ?_
        refine W_sk (Ze (W_ex (zC (zS (Ze (W_rg (Zb (a_mv (v := .i .i64 d) q₄_4) ?_)))))))
        obtain ⟨c₃, hp⟩ := Zo hp
        refine Zb (a_add (a := d) (b := 1) rfl rfl c₃) (Zb (a_mv (v := .i .i64 (d + 1)) rfl) (Zh ?_))
        have hp := Option.some.inj hp; subst hp
        exact (Or.inl (Exists.intro (d + 1) (And.intro rfl (And.intro rfl (And.intro (q₄_0) (And.intro (q₄_3) (And.intro (rfl) (hO₄.pick [] rfl (by decide)))))))))
      ·refine W_cF (t := (decide (((gi l (v : Int).toNat).Next).get d = (-1)))) rfl b₄ ?_
       refine W_sk (Ze (W_sq (W_sq (W_rg (Zb (a_mv (v := .i .i64 (((gi l (v : Int).toNat).Next).get d)) rfl) (Zb (a_lss (a := (((gi l (v : Int).toNat).Next).get d)) (b := 0) rfl rfl) (Zb (a_mv (v := .b (decide ((((gi l (v : Int).toNat).Next).get d) < 0))) rfl) ?_)))))))
       refine zX 5 (fun fr' k' => k₄ = k' ∧ fr' 45 = .b ((decide ((((gi l (v : Int).toNat).Next).get d) < 0)) || (decide ((l.length : Int) ≤ (((gi l (v : Int).toNat).Next).get d)))) ∧ fr' 0 = v_l ∧ fr' 3 = .i .i64 v ∧ fr' 4 = .i .i64 d ∧ fr' 5 = .i .i64 (((gi l (v : Int).toNat).Next).get d) ∧ fr' 6 = .i .i64 (((gi l (v : Int).toNat).Owner).get d)) ?_ ?_
       ·rcases bc (decide ((((gi l (v : Int).toNat).Next).get d) < 0)) with b₆ | b₆
        ·skip
         refine WO_off rfl b₆ (WO_off rfl b₆ (WO_off rfl b₆ (WO_off rfl b₆ (Zb (zk (t := (decide ((((gi l (v : Int).toNat).Next).get d) < 0))) (v := .b ((decide ((((gi l (v : Int).toNat).Next).get d) < 0)) || (decide ((l.length : Int) ≤ (((gi l (v : Int).toNat).Next).get d))))) rfl b₆ (Eq.trans (b := V.b true) rfl (ZaA b₆))) (Zh ?_)))))
         exact ⟨rfl, rfl, q₄_0, q₄_3, q₄_4, rfl, rfl⟩
        ·skip
         refine WO_on rfl b₆ (Zb (a_mv (v := .i .i64 (((gi l (v : Int).toNat).Next).get d)) rfl) (WO_on rfl b₆ (Zb (a_mv (v := v_l) q₄_0) (WO_on rfl b₆ (Zb (a_len (hO₄.rd0 s_l.rd : Sl Zf k₄ v_l l) rfl) (WO_on rfl b₆ (Zb (a_geq (a := (((gi l (v : Int).toNat).Next).get d)) (b := (l.length : Int)) rfl rfl) ?_)))))))
         refine Zb (zi (t := (decide ((((gi l (v : Int).toNat).Next).get d) < 0))) (v := .b ((decide ((((gi l (v : Int).toNat).Next).get d) < 0)) || (decide ((l.length : Int) ≤ (((gi l (v : Int).toNat).Next).get d))))) rfl b₆ (Eq.trans (b := V.b (decide ((l.length : Int) ≤ (((gi l (v : Int).toNat).Next).get d)))) rfl (ZaH b₆))) (Zh ?_)
         exact ⟨rfl, rfl, q₄_0, q₄_3, q₄_4, rfl, rfl⟩
       rintro frg₁ _ ⟨rfl, g₁_45, g₁_0, g₁_3, g₁_4, g₁_5, g₁_6⟩
       refine Zb (a_mv (v := .b ((decide ((((gi l (v : Int).toNat).Next).get d) < 0)) || (decide ((l.length : Int) ≤ (((gi l (v : Int).toNat).Next).get d))))) g₁_45) ?_
       refine zX 4 (fun fr' k' => k₄ = k' ∧ fr' 50 = .b (((decide ((((gi l (v : Int).toNat).Next).get d) < 0)) || (decide ((l.length : Int) ≤ (((gi l (v : Int).toNat).Next).get d)))) || (decide (((gi l (v : Int).toNat).Next).get d = v))) ∧ fr' 0 = v_l ∧ fr' 3 = .i .i64 v ∧ fr' 4 = .i .i64 d ∧ fr' 5 = .i .i64 (((gi l (v : Int).toNat).Next).get d) ∧ fr' 6 = .i .i64 (((gi l (v : Int).toNat).Owner).get d)) ?_ ?_
       ·rcases bc ((decide ((((gi l (v : Int).toNat).Next).get d) < 0)) || (decide ((l.length : Int) ≤ (((gi l (v : Int).toNat).Next).get d)))) with b₇ | b₇
        ·skip
         refine WO_off rfl b₇ (WO_off rfl b₇ (WO_off rfl b₇ (Zb (zk (t := ((decide ((((gi l (v : Int).toNat).Next).get d) < 0)) || (decide ((l.length : Int) ≤ (((gi l (v : Int).toNat).Next).get d))))) (v := .b (((decide ((((gi l (v : Int).toNat).Next).get d) < 0)) || (decide ((l.length : Int) ≤ (((gi l (v : Int).toNat).Next).get d)))) || (decide (((gi l (v : Int).toNat).Next).get d = v)))) rfl b₇ (Eq.trans (b := V.b true) rfl (ZaA b₇))) (Zh ?_))))
         exact ⟨rfl, rfl, g₁_0, g₁_3, g₁_4, g₁_5, g₁_6⟩
        ·skip
         refine WO_on rfl b₇ (Zb (a_mv (v := .i .i64 (((gi l (v : Int).toNat).Next).get d)) g₁_5) (WO_on rfl b₇ (Zb (a_mv (v := .i .i64 v) g₁_3) (WO_on rfl b₇ (Zb (a_eqI (a := (((gi l (v : Int).toNat).Next).get d)) (b := v) rfl rfl) (Zb (zi (t := ((decide ((((gi l (v : Int).toNat).Next).get d) < 0)) || (decide ((l.length : Int) ≤ (((gi l (v : Int).toNat).Next).get d))))) (v := .b (((decide ((((gi l (v : Int).toNat).Next).get d) < 0)) || (decide ((l.length : Int) ≤ (((gi l (v : Int).toNat).Next).get d)))) || (decide (((gi l (v : Int).toNat).Next).get d = v)))) rfl b₇ (Eq.trans (b := V.b (decide (((gi l (v : Int).toNat).Next).get d = v))) rfl (ZaH b₇))) (Zh ?_)))))))
         exact ⟨rfl, rfl, g₁_0, g₁_3, g₁_4, g₁_5, g₁_6⟩
       rintro frg₂ _ ⟨rfl, g₂_50, g₂_0, g₂_3, g₂_4, g₂_5, g₂_6⟩
       refine Zh (Ze ?_)
       rcases Zv hp with ⟨b₈, hp⟩ | ⟨b₈, hp⟩
       ·refine W_cT (t := (((decide ((((gi l (v : Int).toNat).Next).get d) < 0)) || (decide ((l.length : Int) ≤ (((gi l (v : Int).toNat).Next).get d)))) || (decide (((gi l (v : Int).toNat).Next).get d = v)))) g₂_50 b₈ ?_
        refine W_sq (W_rg (Zb (a_mv (v := .i .i64 3) rfl) (Zh (Ze (W_rt (zy (Zak ?_)))))))
        refine zy ?_
        have hp := Option.some.inj hp; subst hp
        refine (Or.inr (Exists.intro (.inr 3) (And.intro rfl (And.intro (fun h => nomatch h) (fun he => ?_)))))
        subst he; exact (And.intro rfl (And.intro (rfl) (hO₄.pick [] rfl (by decide))))
       ·refine W_cF (t := (((decide ((((gi l (v : Int).toNat).Next).get d) < 0)) || (decide ((l.length : Int) ≤ (((gi l (v : Int).toNat).Next).get d)))) || (decide (((gi l (v : Int).toNat).Next).get d = v)))) g₂_50 b₈ ?_
        refine W_sk (Ze (W_sq (W_rg (Zb (a_mv (v := v_l) g₂_0) (Zb (a_mv (v := .i .i64 (((gi l (v : Int).toNat).Next).get d)) g₂_5) (Zb (a_mv (v := .i .i64 d) g₂_4) ?_))))))
        obtain ⟨c₄, hp⟩ := Zo hp
        refine Zb (a_add (a := d) (b := 2) rfl rfl c₄) (Zb (a_rem (a := (d + 2)) (b := 4) rfl rfl (by decide)) ?_)
        obtain ⟨c₅, hp⟩ := Zo hp
        refine Zb (a_ixa (E := Zf) (z := (((gi l (v : Int).toNat).Next).get d)) (hO₄.rd0 s_l.rd : Sl Zf k₄ v_l l) rfl rfl c₅) (Zb (Zan (off' := 0) (off2 := 0) (hO₄.rd0 s_l.rd : Sl Zf k₄ v_l l) (Zq c₅) rfl rfl) ?_)
        obtain ⟨c₆, hp⟩ := Zo hp
        refine Zb (Za4 (off := 0) (off2 := (0 + ((d + 2).tmod 4 : Int).toNat * 1)) (z := ((d + 2).tmod 4)) (hO₄.rd0 s_l.rd : Sl Zf k₄ v_l l) (Zq c₅) rfl rfl c₆ rfl) (Zb (zH (w := .i .i64 (((gi l (((gi l (v : Int).toNat).Next).get d : Int).toNat).Next).get ((d + 2).tmod 4))) (hO₄.rd0 s_l.rd : Sl Zf k₄ v_l l) rfl (Zq c₅) (zP c₆)) (Zb (a_mv (v := .i .i64 v) g₂_3) (Zb (a_neI (a := (((gi l (((gi l (v : Int).toNat).Next).get d : Int).toNat).Next).get ((d + 2).tmod 4))) (b := v) rfl rfl) (Zb (a_mv (v := .b (!(decide (((gi l (((gi l (v : Int).toNat).Next).get d : Int).toNat).Next).get ((d + 2).tmod 4) = v)))) rfl) ?_))))
        refine zX 12 (fun fr' k' => k₄ = k' ∧ fr' 74 = .b ((!(decide (((gi l (((gi l (v : Int).toNat).Next).get d : Int).toNat).Next).get ((d + 2).tmod 4) = v))) || (!(decide (((gi l (((gi l (v : Int).toNat).Next).get d : Int).toNat).Owner).get ((d + 2).tmod 4) = ((gi l (v : Int).toNat).Owner).get d)))) ∧ fr' 0 = v_l ∧ fr' 3 = .i .i64 v ∧ fr' 4 = .i .i64 d ∧ fr' 6 = .i .i64 (((gi l (v : Int).toNat).Owner).get d)) ?_ ?_
        ·rcases bc (!(decide (((gi l (((gi l (v : Int).toNat).Next).get d : Int).toNat).Next).get ((d + 2).tmod 4) = v))) with b₉ | b₉
         ·skip
          refine WO_off rfl b₉ (WO_off rfl b₉ (WO_off rfl b₉ (WO_off rfl b₉ (WO_off rfl b₉ (WO_off rfl b₉ (WO_off rfl b₉ (WO_off rfl b₉ ?_)))))))
          refine WO_off rfl b₉ (WO_off rfl b₉ (WO_off rfl b₉ (Zb (zk (t := (!(decide (((gi l (((gi l (v : Int).toNat).Next).get d : Int).toNat).Next).get ((d + 2).tmod 4) = v)))) (v := .b ((!(decide (((gi l (((gi l (v : Int).toNat).Next).get d : Int).toNat).Next).get ((d + 2).tmod 4) = v))) || (!(decide (((gi l (((gi l (v : Int).toNat).Next).get d : Int).toNat).Owner).get ((d + 2).tmod 4) = ((gi l (v : Int).toNat).Owner).get d))))) rfl b₉ (Eq.trans (b := V.b true) rfl (ZaA b₉))) (Zh ?_))))
          exact ⟨rfl, rfl, g₂_0, g₂_3, g₂_4, g₂_6⟩
         ·skip
          refine WO_on rfl b₉ (Zb (a_mv (v := v_l) g₂_0) (WO_on rfl b₉ (Zb (a_mv (v := .i .i64 (((gi l (v : Int).toNat).Next).get d)) g₂_5) (WO_on rfl b₉ (Zb (a_mv (v := .i .i64 d) g₂_4) (WO_on rfl b₉ (Zb (a_add (a := d) (b := 2) rfl rfl c₄) ?_)))))))
          refine WO_on rfl b₉ (Zb (a_rem (a := (d + 2)) (b := 4) rfl rfl (by decide)) (WO_on rfl b₉ (Zb (a_ixa (E := Zf) (z := (((gi l (v : Int).toNat).Next).get d)) (hO₄.rd0 s_l.rd : Sl Zf k₄ v_l l) rfl rfl c₅) (WO_on rfl b₉ (Zb (Zan (off' := 0) (off2 := 4) (hO₄.rd0 s_l.rd : Sl Zf k₄ v_l l) (Zq c₅) rfl rfl) (WO_on rfl b₉ (Zb (Za4 (off := 4) (off2 := (4 + ((d + 2).tmod 4 : Int).toNat * 1)) (z := ((d + 2).tmod 4)) (hO₄.rd0 s_l.rd : Sl Zf k₄ v_l l) (Zq c₅) rfl rfl c₆ rfl) ?_)))))))
          refine WO_on rfl b₉ (Zb (zH (w := .i .i64 (((gi l (((gi l (v : Int).toNat).Next).get d : Int).toNat).Owner).get ((d + 2).tmod 4))) (hO₄.rd0 s_l.rd : Sl Zf k₄ v_l l) rfl (Zq c₅) (Za6 c₆)) (WO_on rfl b₉ (Zb (a_mv (v := .i .i64 (((gi l (v : Int).toNat).Owner).get d)) g₂_6) (WO_on rfl b₉ (Zb (a_neI (a := (((gi l (((gi l (v : Int).toNat).Next).get d : Int).toNat).Owner).get ((d + 2).tmod 4))) (b := (((gi l (v : Int).toNat).Owner).get d)) rfl rfl) (Zb (zi (t := (!(decide (((gi l (((gi l (v : Int).toNat).Next).get d : Int).toNat).Next).get ((d + 2).tmod 4) = v)))) (v := .b ((!(decide (((gi l (((gi l (v : Int).toNat).Next).get d : Int).toNat).Next).get ((d + 2).tmod 4) = v))) || (!(decide (((gi l (((gi l (v : Int).toNat).Next).get d : Int).toNat).Owner).get ((d + 2).tmod 4) = ((gi l (v : Int).toNat).Owner).get d))))) rfl b₉ (Eq.trans (b := V.b (!(decide (((gi l (((gi l (v : Int).toNat).Next).get d : Int).toNat).Owner).get ((d + 2).tmod 4) = ((gi l (v : Int).toNat).Owner).get d)))) rfl (ZaH b₉))) (Zh ?_)))))))
          exact ⟨rfl, rfl, g₂_0, g₂_3, g₂_4, g₂_6⟩
        rintro frg₃ _ ⟨rfl, g₃_74, g₃_0, g₃_3, g₃_4, g₃_6⟩
        refine Zb (a_mv (v := .b ((!(decide (((gi l (((gi l (v : Int).toNat).Next).get d : Int).toNat).Next).get ((d + 2).tmod 4) = v))) || (!(decide (((gi l (((gi l (v : Int).toNat).Next).get d : Int).toNat).Owner).get ((d + 2).tmod 4) = ((gi l (v : Int).toNat).Owner).get d))))) g₃_74) ?_
        refine zX 3 (fun fr' k' => k₄ = k' ∧ fr' 78 = .b (((!(decide (((gi l (((gi l (v : Int).toNat).Next).get d : Int).toNat).Next).get ((d + 2).tmod 4) = v))) || (!(decide (((gi l (((gi l (v : Int).toNat).Next).get d : Int).toNat).Owner).get ((d + 2).tmod 4) = ((gi l (v : Int).toNat).Owner).get d)))) || (decide ((((gi l (v : Int).toNat).Owner).get d) < (-2)))) ∧ fr' 0 = v_l ∧ fr' 3 = .i .i64 v ∧ fr' 4 = .i .i64 d) ?_ ?_
        ·rcases bc ((!(decide (((gi l (((gi l (v : Int).toNat).Next).get d : Int).toNat).Next).get ((d + 2).tmod 4) = v))) || (!(decide (((gi l (((gi l (v : Int).toNat).Next).get d : Int).toNat).Owner).get ((d + 2).tmod 4) = ((gi l (v : Int).toNat).Owner).get d)))) with b₁₀ | b₁₀
         ·skip
          refine WO_off rfl b₁₀ (WO_off rfl b₁₀ (Zb (zk (t := ((!(decide (((gi l (((gi l (v : Int).toNat).Next).get d : Int).toNat).Next).get ((d + 2).tmod 4) = v))) || (!(decide (((gi l (((gi l (v : Int).toNat).Next).get d : Int).toNat).Owner).get ((d + 2).tmod 4) = ((gi l (v : Int).toNat).Owner).get d))))) (v := .b (((!(decide (((gi l (((gi l (v : Int).toNat).Next).get d : Int).toNat).Next).get ((d + 2).tmod 4) = v))) || (!(decide (((gi l (((gi l (v : Int).toNat).Next).get d : Int).toNat).Owner).get ((d + 2).tmod 4) = ((gi l (v : Int).toNat).Owner).get d)))) || (decide ((((gi l (v : Int).toNat).Owner).get d) < (-2))))) rfl b₁₀ (Eq.trans (b := V.b true) rfl (ZaA b₁₀))) (Zh ?_)))
          exact ⟨rfl, rfl, g₃_0, g₃_3, g₃_4⟩
         ·skip
          refine WO_on rfl b₁₀ (Zb (a_mv (v := .i .i64 (((gi l (v : Int).toNat).Owner).get d)) g₃_6) (WO_on rfl b₁₀ (Zb (a_lss (a := (((gi l (v : Int).toNat).Owner).get d)) (b := (-2)) rfl rfl) (Zb (zi (t := ((!(decide (((gi l (((gi l (v : Int).toNat).Next).get d : Int).toNat).Next).get ((d + 2).tmod 4) = v))) || (!(decide (((gi l (((gi l (v : Int).toNat).Next).get d : Int).toNat).Owner).get ((d + 2).tmod 4) = ((gi l (v : Int).toNat).Owner).get d))))) (v := .b (((!(decide (((gi l (((gi l (v : Int).toNat).Next).get d : Int).toNat).Next).get ((d + 2).tmod 4) = v))) || (!(decide (((gi l (((gi l (v : Int).toNat).Next).get d : Int).toNat).Owner).get ((d + 2).tmod 4) = ((gi l (v : Int).toNat).Owner).get d)))) || (decide ((((gi l (v : Int).toNat).Owner).get d) < (-2))))) rfl b₁₀ (Eq.trans (b := V.b (decide ((((gi l (v : Int).toNat).Owner).get d) < (-2)))) rfl (ZaH b₁₀))) (Zh ?_)))))
          exact ⟨rfl, rfl, g₃_0, g₃_3, g₃_4⟩
        rintro frg₄ _ ⟨rfl, g₄_78, g₄_0, g₄_3, g₄_4⟩
        refine Zh (Ze ?_)
        rcases Zv hp with ⟨b₁₁, hp⟩ | ⟨b₁₁, hp⟩
        ·refine W_cT (t := (((!(decide (((gi l (((gi l (v : Int).toNat).Next).get d : Int).toNat).Next).get ((d + 2).tmod 4) = v))) || (!(decide (((gi l (((gi l (v : Int).toNat).Next).get d : Int).toNat).Owner).get ((d + 2).tmod 4) = ((gi l (v : Int).toNat).Owner).get d)))) || (decide ((((gi l (v : Int).toNat).Owner).get d) < (-2))))) g₄_78 b₁₁ ?_
         refine W_sq (W_rg (Zb (a_mv (v := .i .i64 9) rfl) (Zh (Ze (W_rt (Zak (zy ?_)))))))
         have hp := Option.some.inj hp; subst hp
         refine (Or.inr (Exists.intro (.inr 9) (And.intro rfl (And.intro (fun h => nomatch h) (fun he => ?_)))))
         subst he; exact (And.intro rfl (And.intro (rfl) (hO₄.pick [] rfl (by decide))))
        ·refine W_cF (t := (((!(decide (((gi l (((gi l (v : Int).toNat).Next).get d : Int).toNat).Next).get ((d + 2).tmod 4) = v))) || (!(decide (((gi l (((gi l (v : Int).toNat).Next).get d : Int).toNat).Owner).get ((d + 2).tmod 4) = ((gi l (v : Int).toNat).Owner).get d)))) || (decide ((((gi l (v : Int).toNat).Owner).get d) < (-2))))) g₄_78 b₁₁ ?_
         refine W_sk (zL (Ze (W_rg (Zb (a_mv (v := .i .i64 d) g₄_4) ?_))))
         obtain ⟨c₇, hp⟩ := Zo hp
         refine Zb (a_add (a := d) (b := 1) rfl rfl c₇) (Zb (a_mv (v := .i .i64 (d + 1)) rfl) (Zh ?_))
         have hp := Option.some.inj hp; subst hp
         exact (Or.inl (Exists.intro (d + 1) (And.intro rfl (And.intro rfl (And.intro (g₄_0) (And.intro (g₄_3) (And.intro (rfl) (hO₄.pick [] rfl (by decide)))))))))
     ·refine W_cF (t := (decide (d < 4))) rfl b₃ ?_
      refine W_ex (zC ?_)
      have hp := Option.some.inj hp; subst hp
      refine (Or.inr (Exists.intro (.inl ()) (And.intro rfl (And.intro (fun h => nomatch h) (fun he => ?_)))))
      subst he; exact (And.intro rfl (And.intro (q₄_0) (And.intro (q₄_3) (hO₄.pick [] rfl (by decide)))))
    intro e₂ q₃ k₃ hJ₂
    rcases o₃ with _ | x1
    ·obtain ⟨rfl, q₃_0, q₃_3, hO₃⟩ := hJ₂
     refine zS (zL (Ze (W_rg (Zb (a_mv (v := .i .i64 v) q₃_3) ?_))))
     obtain ⟨c₈, hp⟩ := Zo hp
     refine Zb (a_add (a := v) (b := 1) rfl rfl c₈) (Zb (a_mv (v := .i .i64 (v + 1)) rfl) (Zh ?_))
     have hp := Option.some.inj hp; subst hp
     exact (Or.inl (Exists.intro (v + 1) (And.intro rfl (And.intro rfl (And.intro (q₃_0) (And.intro (rfl) (hO₃.pick [] rfl (by decide))))))))
    ·obtain ⟨rfl, q₃_2, hO₃⟩ := hJ₂
     refine Zak (Zak (zy ?_))
     have hp := Option.some.inj hp; subst hp
     refine (Or.inr (Exists.intro (.inr x1) (And.intro rfl (And.intro (fun h => nomatch h) (fun he => ?_)))))
     subst he; exact (And.intro rfl (And.intro (q₃_2) (hO₃.pick [] rfl (by decide))))
   ·refine W_cF (t := (decide (v < (l.length : Int)))) rfl b₂ ?_
    refine W_ex (zC ?_)
    have hp := Option.some.inj hp; subst hp
    refine (Or.inr (Exists.intro (.inl ()) (And.intro rfl (And.intro (fun h => nomatch h) (fun he => ?_)))))
    subst he; exact (And.intro rfl (hO₂.pick [] rfl (by decide)))
  intro e₁ q₁ k₁ hJ₁
  rcases o₁ with _ | x
  ·obtain ⟨rfl, hO₁⟩ := hJ₁
   refine zS (Ze (W_sq (W_rg (Zb (a_mv (v := .i .i64 0) rfl) (Zh (Ze (W_rt ?_)))))))
   refine Ret_r (rs_t (n := 2) (v := .i .i64 0) rfl rs_nil) ?_
   have hp := Option.some.inj hp; subst hp
   exact (And.intro rfl (hO₁.pick [] rfl (by decide)))
  ·obtain ⟨rfl, q₁_2, hO₁⟩ := hJ₁
   refine Zak (zy (Ret_r (rs_t (n := 2) (v := .i .i64 x) q₁_2 rs_nil) ?_))
   have hp := Option.some.inj hp; subst hp
   exact (And.intro rfl (hO₁.pick [] rfl (by decide)))

theorem ZP.ok {h : Hp} {l : List Zk} {v : Int} {v_l : V} (s_l : Sl Zf h v_l l) {r : (List Int)} (hp : ZP l v = some r) :
  ∃ u k', Is G 36 [v_l, .i .i64 v] h u k' ∧ ∃ (v₁ : V), v₁ = u ∧ Own (fun r => r < h.n) h k' [eSl eInt v₁ r] := by
 refine WC.is (WC_of G_F_muntinref13_Far ?_)
 unfold ZP at hp
 let B : Nat → Prop := (fun r => r < h.n)
 have hO : Own B h h [] := Own.start0 h
 refine W_sq (W_rg (Zb (a_mv (v := .sn) rfl) (Zh (Ze (W_sq (W_rg (Zb (a_mv (v := v_l) rfl) ?_)))))))
 refine Zb (a_len (hO.rd0 s_l.rd : Sl Zf h v_l l) rfl) ?_
 obtain ⟨c₁, hp⟩ := Zo hp
 refine zq (hO.mks (E := eInt) (y := (0 : Int)) (bytes := 8) (z := (l.length : Int)) hO.fr rfl rfl rfl c₁ (by decide)) ?_
 rintro v₂ k₁ ⟨r₁, f₁, hW⟩
 have hO₁ : Own B h k₁ [eSl eInt v₂ (List.replicate ((l.length : Int) : Int).toNat (0 : Int))] := hW
 refine Zb (a_mv (v := v₂) rfl) (Zh (Ze (W_sq (W_sq (W_rg (Zb (a_mv (v := .i .i64 0) rfl) (Zh ?_)))))))
 refine Ze (W_bl ?_)
 obtain ⟨o₁, ho₁, hp⟩ := Zt hp
 refine W.mono (Q := fun e fr k => match (generalizing := false) o₁ with
   | far1 => e = (.exit 0) ∧ fr 0 = v_l ∧ fr 1 = .i .i64 v ∧ fr 5 = v₂ ∧ Own B h k [eSl eInt v₂ far1]) ?_ ?_
 ·clear hp
  refine z3 (fun st fr k => match st with | (far, i) => fr 0 = v_l ∧ fr 1 = .i .i64 v ∧ fr 5 = v₂ ∧ fr 6 = .i .i64 i ∧ Own B h k [eSl eInt v₂ far]) ho₁ (s := (List.replicate ((l.length : Int) : Int).toNat (0 : Int), 0)) (And.intro (rfl) (And.intro (rfl) (And.intro (rfl) (And.intro (rfl) (hO₁.pick [0] rfl (by decide)))))) ?_
  rintro ⟨far, i⟩ q₂ k₃ ⟨q₂_0, q₂_1, q₂_5, q₂_6, hO₃⟩ o₂ hp
  dsimp only [ZP.s0] at hp
  refine W_sq (W_sq (W_rg (Zb (a_mv (v := .i .i64 i) q₂_6) (Zb (a_mv (v := v_l) q₂_0) (Zb (a_len (hO₃.rd0 s_l.rd : Sl Zf k₃ v_l l) rfl) (Zb (a_lss (a := i) (b := (l.length : Int)) rfl rfl) (Zh ?_)))))))
  refine Ze ?_
  rcases Zv hp with ⟨b₁, hp⟩ | ⟨b₁, hp⟩
  ·refine W_cT (t := (decide (i < (l.length : Int)))) rfl b₁ ?_
   refine W_sk (Ze (W_sq (W_bl (W_rg (Zb (a_mv (v := v₂) q₂_5) (Zb (a_mv (v := .i .i64 i) q₂_6) ?_))))))
   obtain ⟨c₂, hp⟩ := Zo hp
   refine Zb (a_ixa (E := eInt) (z := i) (hO₃.sl 0 rfl : Sl eInt k₃ v₂ far) rfl rfl c₂) (zq (hO₃.ste (E := eInt) (y := (-1)) (ws := [.i .i64 (-1)]) 0 rfl rfl (Zq c₂) rfl rfl ⟨rfl, Nat.le_of_ble_eq_true rfl, rfl⟩ rfl) ?_)
   rintro _ k₄ ⟨rfl, f₂, m₁, hW⟩
   have hO₄ : Own B h k₄ [eSl eInt v₂ (far.set (i : Int).toNat (-1))] := hW
   refine Zh (zL (Ze (W_rg (Zb (a_mv (v := .i .i64 i) q₂_6) ?_))))
   obtain ⟨c₃, hp⟩ := Zo hp
   refine Zb (a_add (a := i) (b := 1) rfl rfl c₃) (Zb (a_mv (v := .i .i64 (i + 1)) rfl) (Zh ?_))
   have hp := Option.some.inj hp; subst hp
   exact (Or.inl (Exists.intro (far.set (i : Int).toNat (-1), i + 1) (And.intro rfl (And.intro rfl (And.intro (q₂_0) (And.intro (q₂_1) (And.intro (q₂_5) (And.intro (rfl) (hO₄.pick [0] rfl (by decide))))))))))
  ·refine W_cF (t := (decide (i < (l.length : Int)))) rfl b₁ ?_
   refine W_ex (zC ?_)
   have hp := Option.some.inj hp; subst hp
   refine (Or.inr (Exists.intro far (And.intro rfl (And.intro (fun h => nomatch h) (fun he => ?_)))))
   subst he; exact (And.intro rfl (And.intro (q₂_0) (And.intro (q₂_1) (And.intro (q₂_5) (hO₃.pick [0] rfl (by decide))))))
 intro e₁ q₁ k₂ hJ₁
 obtain ⟨far1, rfl⟩ : ∃ x, x = o₁ := ⟨_, rfl⟩
 obtain ⟨rfl, q₁_0, q₁_1, q₁_5, hO₂⟩ := hJ₁
 refine zS (Ze (W_sq (W_rg (Zb (a_mv (v := v₂) q₁_5) (Zb (a_mv (v := .i .i64 v) q₁_1) ?_)))))
 obtain ⟨c₄, hp⟩ := Zo hp
 refine Zb (a_ixa (E := eInt) (z := v) (hO₂.sl 0 rfl : Sl eInt k₂ v₂ far1) rfl rfl c₄) (zq (hO₂.ste (E := eInt) (y := 0) (ws := [.i .i64 0]) 0 rfl rfl (Zq c₄) rfl rfl ⟨rfl, Nat.le_of_ble_eq_true rfl, rfl⟩ rfl) ?_)
 rintro _ k₅ ⟨rfl, f₃, m₂, hW⟩
 have hO₅ : Own B h k₅ [eSl eInt v₂ (far1.set (v : Int).toNat 0)] := hW
 refine Zh (Ze (W_sq (W_sq (W_rg (Zb (a_mv (v := .i .i64 0) rfl) (Zh (Ze ?_)))))))
 refine W_bl ?_
 obtain ⟨o₃, ho₂, hp⟩ := Zt hp
 refine W.mono (Q := fun e fr k => match (generalizing := false) o₃ with
   | far3 => e = (.exit 2) ∧ fr 5 = v₂ ∧ Own B h k [eSl eInt v₂ far3]) ?_ ?_
 ·clear hp
  refine z3 (fun st fr k => match st with | (far2, round) => fr 0 = v_l ∧ fr 5 = v₂ ∧ fr 7 = .i .i64 round ∧ Own B h k [eSl eInt v₂ far2]) ho₂ (s := (far1.set (v : Int).toNat 0, 0)) (And.intro (q₁_0) (And.intro (q₁_5) (And.intro (rfl) (hO₅.pick [0] rfl (by decide))))) ?_
  rintro ⟨far2, round⟩ q₄ k₇ ⟨q₄_0, q₄_5, q₄_7, hO₇⟩ o₄ hp
  dsimp only [ZP.s1] at hp
  refine W_sq (W_sq (W_rg (Zb (a_mv (v := .i .i64 round) q₄_7) (Zb (a_mv (v := v_l) q₄_0) (Zb (a_len (hO₇.rd0 s_l.rd : Sl Zf k₇ v_l l) rfl) (Zb (a_lss (a := round) (b := (l.length : Int)) rfl rfl) (Zh ?_)))))))
  refine Ze ?_
  rcases Zv hp with ⟨b₂, hp⟩ | ⟨b₂, hp⟩
  ·refine W_cT (t := (decide (round < (l.length : Int)))) rfl b₂ ?_
   refine W_sk (Ze (W_sq (W_bl (W_sq (W_rg (Zb (a_mv (v := .i .i64 0) rfl) (Zh ?_)))))))
   refine Ze (W_bl ?_)
   obtain ⟨o₅, ho₃, hp⟩ := Zt hp
   refine W.mono (Q := fun e fr k => match (generalizing := false) o₅ with
     | far5 => e = (.exit 4) ∧ fr 0 = v_l ∧ fr 5 = v₂ ∧ fr 7 = .i .i64 round ∧ Own B h k [eSl eInt v₂ far5]) ?_ ?_
   ·clear hp
    refine z3 (fun st fr k => match st with | (far4, i1) => fr 0 = v_l ∧ fr 5 = v₂ ∧ fr 7 = .i .i64 round ∧ fr 8 = .i .i64 i1 ∧ Own B h k [eSl eInt v₂ far4]) ho₃ (s := (far2, 0)) (And.intro (q₄_0) (And.intro (q₄_5) (And.intro (q₄_7) (And.intro (rfl) (hO₇.pick [0] rfl (by decide)))))) ?_
    rintro ⟨far4, i1⟩ q₆ k₉ ⟨q₆_0, q₆_5, q₆_7, q₆_8, hO₉⟩ o₆ hp
    dsimp only [ZP.s2] at hp
    refine W_sq (W_sq (W_rg (Zb (a_mv (v := .i .i64 i1) q₆_8) (Zb (a_mv (v := v_l) q₆_0) (Zb (a_len (hO₉.rd0 s_l.rd : Sl Zf k₉ v_l l) rfl) (Zb (a_lss (a := i1) (b := (l.length : Int)) rfl rfl) (Zh ?_)))))))
    refine Ze ?_
    rcases Zv hp with ⟨b₃, hp⟩ | ⟨b₃, hp⟩
    ·refine W_cT (t := (decide (i1 < (l.length : Int)))) rfl b₃ ?_
     refine W_sk (Ze (W_sq (W_bl (W_sq (W_rg (Zb (a_mv (v := .i .i64 0) rfl) (Zh ?_)))))))
     refine Ze (W_bl ?_)
     obtain ⟨o₇, ho₄, hp⟩ := Zt hp
     refine W.mono (Q := fun e fr k => match (generalizing := false) o₇ with
       | far7 => e = (.exit 6) ∧ fr 0 = v_l ∧ fr 5 = v₂ ∧ fr 7 = .i .i64 round ∧ fr 8 = .i .i64 i1 ∧ Own B h k [eSl eInt v₂ far7]) ?_ ?_
     ·clear hp
      refine z3 (fun st fr k => match st with | (far6, d) => fr 0 = v_l ∧ fr 5 = v₂ ∧ fr 7 = .i .i64 round ∧ fr 8 = .i .i64 i1 ∧ fr 9 = .i .i64 d ∧ Own B h k [eSl eInt v₂ far6]) ho₄ (s := (far4, 0)) (And.intro (q₆_0) (And.intro (q₆_5) (And.intro (q₆_7) (And.intro (q₆_8) (And.intro (rfl) (hO₉.pick [0] rfl (by decide))))))) ?_
      rintro ⟨far6, d⟩ q₈ k₁₁ ⟨q₈_0, q₈_5, q₈_7, q₈_8, q₈_9, hO₁₁⟩ o₈ hp
      dsimp only [ZP.s3] at hp
      refine W_sq (W_sq (W_rg (Zb (a_mv (v := .i .i64 d) q₈_9) (Zb (a_lss (a := d) (b := 4) rfl rfl) (Zh (Ze ?_))))))
      rcases Zv hp with ⟨b₄, hp⟩ | ⟨b₄, hp⟩
      ·refine W_cT (t := (decide (d < 4))) rfl b₄ ?_
       refine W_sk (Ze (W_sq (W_bl (W_sq (W_rg (Zb (a_mv (v := v_l) q₈_0) (Zb (a_mv (v := .i .i64 i1) q₈_8) ?_)))))))
       refine Zb (a_mv (v := .i .i64 d) q₈_9) ?_
       obtain ⟨c₅, hp⟩ := Zo hp
       refine Zb (a_ixa (E := Zf) (z := i1) (hO₁₁.rd0 s_l.rd : Sl Zf k₁₁ v_l l) rfl rfl c₅) (Zb (Zan (off' := 0) (off2 := 0) (hO₁₁.rd0 s_l.rd : Sl Zf k₁₁ v_l l) (Zq c₅) rfl rfl) ?_)
       obtain ⟨c₆, hp⟩ := Zo hp
       refine Zb (Za4 (off := 0) (off2 := (0 + (d : Int).toNat * 1)) (z := d) (hO₁₁.rd0 s_l.rd : Sl Zf k₁₁ v_l l) (Zq c₅) rfl rfl c₆ rfl) (Zb (zH (w := .i .i64 (((gi l (i1 : Int).toNat).Next).get d)) (hO₁₁.rd0 s_l.rd : Sl Zf k₁₁ v_l l) rfl (Zq c₅) (zP c₆)) (Zb (a_mv (v := .i .i64 (((gi l (i1 : Int).toNat).Next).get d)) rfl) (Zh (Ze (W_sq (W_rg (Zb (a_mv (v := v₂) q₈_5) ?_)))))))
       refine Zb (a_mv (v := .i .i64 i1) q₈_8) ?_
       obtain ⟨c₇, hp⟩ := Zo hp
       refine Zb (a_ixa (E := eInt) (z := i1) (hO₁₁.sl 0 rfl : Sl eInt k₁₁ v₂ far6) rfl rfl c₇) (Zb (zH (w := .i .i64 (gi far6 (i1 : Int).toNat)) (hO₁₁.sl 0 rfl : Sl eInt k₁₁ v₂ far6) rfl (Zq c₇) rfl) (Zb (a_mv (v := .i .i64 round) q₈_7) (Zb (a_eqI (a := (gi far6 (i1 : Int).toNat)) (b := round) rfl rfl) (Zb (a_mv (v := .b (decide (gi far6 (i1 : Int).toNat = round))) rfl) ?_))))
       refine zX 3 (fun fr' k' => k₁₁ = k' ∧ fr' 58 = .b ((decide (gi far6 (i1 : Int).toNat = round)) && (decide (0 ≤ (((gi l (i1 : Int).toNat).Next).get d)))) ∧ fr' 0 = v_l ∧ fr' 10 = .i .i64 (((gi l (i1 : Int).toNat).Next).get d) ∧ fr' 5 = v₂ ∧ fr' 7 = .i .i64 round ∧ fr' 8 = .i .i64 i1 ∧ fr' 9 = .i .i64 d) ?_ ?_
       ·rcases bc (decide (gi far6 (i1 : Int).toNat = round)) with b₅ | b₅
        ·skip
         refine WO_on rfl b₅ (Zb (a_mv (v := .i .i64 (((gi l (i1 : Int).toNat).Next).get d)) rfl) (WO_on rfl b₅ (Zb (a_geq (a := (((gi l (i1 : Int).toNat).Next).get d)) (b := 0) rfl rfl) (Zb (zk (t := (decide (gi far6 (i1 : Int).toNat = round))) (v := .b ((decide (gi far6 (i1 : Int).toNat = round)) && (decide (0 ≤ (((gi l (i1 : Int).toNat).Next).get d))))) rfl b₅ (Eq.trans (b := V.b (decide (0 ≤ (((gi l (i1 : Int).toNat).Next).get d)))) rfl (ZaD b₅))) (Zh ?_)))))
         exact ⟨rfl, rfl, q₈_0, rfl, q₈_5, q₈_7, q₈_8, q₈_9⟩
        ·skip
         refine WO_off rfl b₅ (WO_off rfl b₅ (Zb (zi (t := (decide (gi far6 (i1 : Int).toNat = round))) (v := .b ((decide (gi far6 (i1 : Int).toNat = round)) && (decide (0 ≤ (((gi l (i1 : Int).toNat).Next).get d))))) rfl b₅ (Eq.trans (b := V.b false) rfl (Za2 b₅))) (Zh ?_)))
         exact ⟨rfl, rfl, q₈_0, rfl, q₈_5, q₈_7, q₈_8, q₈_9⟩
       rintro frg₁ _ ⟨rfl, g₁_58, g₁_0, g₁_10, g₁_5, g₁_7, g₁_8, g₁_9⟩
       refine Zb (a_mv (v := .b ((decide (gi far6 (i1 : Int).toNat = round)) && (decide (0 ≤ (((gi l (i1 : Int).toNat).Next).get d))))) g₁_58) ?_
       obtain ⟨t, hv₁, hp⟩ := Zt hp
       refine zX 7 (fun fr' k' => k₁₁ = k' ∧ fr' 66 = .b t ∧ fr' 0 = v_l ∧ fr' 10 = .i .i64 (((gi l (i1 : Int).toNat).Next).get d) ∧ fr' 5 = v₂ ∧ fr' 7 = .i .i64 round ∧ fr' 8 = .i .i64 i1 ∧ fr' 9 = .i .i64 d) ?_ ?_
       ·clear hp; rcases Zv hv₁ with ⟨b₆, hp⟩ | ⟨b₆, hp⟩
        ·skip
         refine WO_on rfl b₆ (Zb (a_mv (v := v₂) g₁_5) (WO_on rfl b₆ (Zb (a_mv (v := .i .i64 (((gi l (i1 : Int).toNat).Next).get d)) g₁_10) (WO_on rfl b₆ (Zb (a_mx (a := (((gi l (i1 : Int).toNat).Next).get d)) (b := 0) rfl rfl) (WO_on rfl b₆ ?_))))))
         obtain ⟨c₈, hp⟩ := Zo hp
         refine Zb (a_ixa (E := eInt) (z := (max (((gi l (i1 : Int).toNat).Next).get d) 0)) (hO₁₁.sl 0 rfl : Sl eInt k₁₁ v₂ far6) rfl rfl c₈) (WO_on rfl b₆ (Zb (zH (w := .i .i64 (gi far6 (max (((gi l (i1 : Int).toNat).Next).get d) 0 : Int).toNat)) (hO₁₁.sl 0 rfl : Sl eInt k₁₁ v₂ far6) rfl (Zq c₈) rfl) (WO_on rfl b₆ (Zb (a_lss (a := (gi far6 (max (((gi l (i1 : Int).toNat).Next).get d) 0 : Int).toNat)) (b := 0) rfl rfl) (Zb (zk (t := ((decide (gi far6 (i1 : Int).toNat = round)) && (decide (0 ≤ (((gi l (i1 : Int).toNat).Next).get d))))) (v := .b t) rfl b₆ (Eq.trans (b := V.b (decide ((gi far6 (max (((gi l (i1 : Int).toNat).Next).get d) 0 : Int).toNat) < 0))) rfl (congrArg V.b (Option.some.inj hp)))) (Zh ?_))))))
         exact ⟨rfl, rfl, g₁_0, g₁_10, g₁_5, g₁_7, g₁_8, g₁_9⟩
        ·skip
         refine WO_off rfl b₆ (WO_off rfl b₆ (WO_off rfl b₆ (WO_off rfl b₆ (WO_off rfl b₆ (WO_off rfl b₆ (Zb (zi (t := ((decide (gi far6 (i1 : Int).toNat = round)) && (decide (0 ≤ (((gi l (i1 : Int).toNat).Next).get d))))) (v := .b t) rfl b₆ (Eq.trans (b := V.b false) rfl (congrArg V.b (Option.some.inj hp)))) (Zh ?_)))))))
         exact ⟨rfl, rfl, g₁_0, g₁_10, g₁_5, g₁_7, g₁_8, g₁_9⟩
       rintro frg₂ _ ⟨rfl, g₂_66, g₂_0, g₂_10, g₂_5, g₂_7, g₂_8, g₂_9⟩
       refine Zh (Ze ?_)
       rcases Zv hp with ⟨b₇, hp⟩ | ⟨b₇, hp⟩
       ·refine W_cT (t := t) g₂_66 b₇ ?_
        refine W_rg (Zb (a_mv (v := v₂) g₂_5) (Zb (a_mv (v := .i .i64 (((gi l (i1 : Int).toNat).Next).get d)) g₂_10) (Zb (a_mv (v := .i .i64 round) g₂_7) ?_)))
        obtain ⟨c₉, hp⟩ := Zo hp
        refine Zb (a_add (a := round) (b := 1) rfl rfl c₉) ?_
        obtain ⟨c₁₀, hp⟩ := Zo hp
        refine Zb (a_ixa (E := eInt) (z := (((gi l (i1 : Int).toNat).Next).get d)) (hO₁₁.sl 0 rfl : Sl eInt k₁₁ v₂ far6) rfl rfl c₁₀) (zq (hO₁₁.ste (E := eInt) (y := (round + 1)) (ws := [.i .i64 (round + 1)]) 0 rfl rfl (Zq c₁₀) rfl rfl ⟨rfl, Nat.le_of_ble_eq_true rfl, rfl⟩ rfl) ?_)
        rintro _ k₁₂ ⟨rfl, f₄, m₃, hW⟩
        have hO₁₂ : Own B h k₁₂ [eSl eInt v₂ (far6.set (((gi l (i1 : Int).toNat).Next).get d : Int).toNat (round + 1))] := hW
        refine Zh (zL (Ze (W_rg (Zb (a_mv (v := .i .i64 d) g₂_9) ?_))))
        obtain ⟨c₁₁, hp⟩ := Zo hp
        refine Zb (a_add (a := d) (b := 1) rfl rfl c₁₁) (Zb (a_mv (v := .i .i64 (d + 1)) rfl) (Zh ?_))
        have hp := Option.some.inj hp; subst hp
        exact (Or.inl (Exists.intro (far6.set (((gi l (i1 : Int).toNat).Next).get d : Int).toNat (round + 1), d + 1) (And.intro rfl (And.intro rfl (And.intro (g₂_0) (And.intro (g₂_5) (And.intro (g₂_7) (And.intro (g₂_8) (And.intro (rfl) (hO₁₂.pick [0] rfl (by decide)))))))))))
       ·refine W_cF (t := t) g₂_66 b₇ ?_
        refine W_sk (zL (Ze (W_rg (Zb (a_mv (v := .i .i64 d) g₂_9) ?_))))
        obtain ⟨c₁₂, hp⟩ := Zo hp
        refine Zb (a_add (a := d) (b := 1) rfl rfl c₁₂) (Zb (a_mv (v := .i .i64 (d + 1)) rfl) (Zh ?_))
        have hp := Option.some.inj hp; subst hp
        exact (Or.inl (Exists.intro (far6, d + 1) (And.intro rfl (And.intro rfl (And.intro (g₂_0) (And.intro (g₂_5) (And.intro (g₂_7) (And.intro (g₂_8) (And.intro (rfl) (hO₁₁.pick [0] rfl (by decide)))))))))))
      ·refine W_cF (t := (decide (d < 4))) rfl b₄ ?_
       refine W_ex (zC ?_)
       have hp := Option.some.inj hp; subst hp
       refine (Or.inr (Exists.intro far6 (And.intro rfl (And.intro (fun h => nomatch h) (fun he => ?_)))))
       subst he; exact (And.intro rfl (And.intro (q₈_0) (And.intro (q₈_5) (And.intro (q₈_7) (And.intro (q₈_8) (hO₁₁.pick [0] rfl (by decide)))))))
     intro e₄ q₇ k₁₀ hJ₄
     obtain ⟨far7, rfl⟩ : ∃ x, x = o₇ := ⟨_, rfl⟩
     obtain ⟨rfl, q₇_0, q₇_5, q₇_7, q₇_8, hO₁₀⟩ := hJ₄
     refine zS (zL (Ze (W_rg (Zb (a_mv (v := .i .i64 i1) q₇_8) ?_))))
     obtain ⟨c₁₃, hp⟩ := Zo hp
     refine Zb (a_add (a := i1) (b := 1) rfl rfl c₁₃) (Zb (a_mv (v := .i .i64 (i1 + 1)) rfl) (Zh ?_))
     have hp := Option.some.inj hp; subst hp
     exact (Or.inl (Exists.intro (far7, i1 + 1) (And.intro rfl (And.intro rfl (And.intro (q₇_0) (And.intro (q₇_5) (And.intro (q₇_7) (And.intro (rfl) (hO₁₀.pick [0] rfl (by decide))))))))))
    ·refine W_cF (t := (decide (i1 < (l.length : Int)))) rfl b₃ ?_
     refine W_ex (zC ?_)
     have hp := Option.some.inj hp; subst hp
     refine (Or.inr (Exists.intro far4 (And.intro rfl (And.intro (fun h => nomatch h) (fun he => ?_)))))
     subst he; exact (And.intro rfl (And.intro (q₆_0) (And.intro (q₆_5) (And.intro (q₆_7) (hO₉.pick [0] rfl (by decide))))))
   intro e₃ q₅ k₈ hJ₃
   obtain ⟨far5, rfl⟩ : ∃ x, x = o₅ := ⟨_, rfl⟩
   obtain ⟨rfl, q₅_0, q₅_5, q₅_7, hO₈⟩ := hJ₃
   refine zS (zL (Ze (W_rg (Zb (a_mv (v := .i .i64 round) q₅_7) ?_))))
   obtain ⟨c₁₄, hp⟩ := Zo hp
   refine Zb (a_add (a := round) (b := 1) rfl rfl c₁₄) (Zb (a_mv (v := .i .i64 (round + 1)) rfl) (Zh ?_))
   have hp := Option.some.inj hp; subst hp
   exact (Or.inl (Exists.intro (far5, round + 1) (And.intro rfl (And.intro rfl (And.intro (q₅_0) (And.intro (q₅_5) (And.intro (rfl) (hO₈.pick [0] rfl (by decide)))))))))
  ·refine W_cF (t := (decide (round < (l.length : Int)))) rfl b₂ ?_
   refine W_ex (zC ?_)
   have hp := Option.some.inj hp; subst hp
   refine (Or.inr (Exists.intro far2 (And.intro rfl (And.intro (fun h => nomatch h) (fun he => ?_)))))
   subst he; exact (And.intro rfl (And.intro (q₄_5) (hO₇.pick [0] rfl (by decide))))
 intro e₂ q₃ k₆ hJ₂
 obtain ⟨far3, rfl⟩ : ∃ x, x = o₃ := ⟨_, rfl⟩
 obtain ⟨rfl, q₃_5, hO₆⟩ := hJ₂
 refine zS (Ze (W_sq (W_rg (Zb (a_mv (v := v₂) q₃_5) (Zb (a_mv (v := v₂) rfl) (Zh (Ze ?_)))))))
 refine W_rt (Ret_r (rs_t (n := 4) (v := v₂) rfl rs_nil) ?_)
 have hp := Option.some.inj hp; subst hp
 exact (Exists.intro v₂ (And.intro rfl (hO₆.pick [0] rfl (by decide))))

theorem zg.ok {h : Hp} {l : List Zk} {v_l : V} (s_l : Sl Zf h v_l l) {r : (List (List Int))} (hp : zg l = some r) :
  ∃ u k', Is G 30 [v_l] h u k' ∧ ∃ (v₁ : V), ∃ (vs₁ : List V), v₁ = u ∧ Own (fun r => r < h.n) h k' [eSl eV v₁ vs₁, eAll eInt vs₁ r] := by
 refine WC.is (WC_of G_F_muntinref13_Parts ?_)
 unfold zg at hp
 let B : Nat → Prop := (fun r => r < h.n)
 have hO : Own B h h [] := Own.start0 h
 refine W_sq (W_rg (Zb (a_mv (v := .sn) rfl) (Zh (Ze (W_sq (W_rg (Zb (a_mv (v := v_l) rfl) ?_)))))))
 refine Zb (a_len (hO.rd0 s_l.rd : Sl Zf h v_l l) rfl) ?_
 obtain ⟨c₁, hp⟩ := Zo hp
 refine zq (hO.mks (E := e_bool) (y := false) (bytes := 1) (z := (l.length : Int)) hO.fr rfl rfl rfl c₁ (by decide)) ?_
 rintro v₂ k₁ ⟨r₁, f₁, hW⟩
 have hO₁ : Own B h k₁ [eSl e_bool v₂ (List.replicate ((l.length : Int) : Int).toNat false)] := hW
 refine Zb (a_mv (v := v₂) rfl) (Zh (Ze (W_sq (W_rg (Zb (a_mv (v := .sn) rfl) (Zh (Ze ?_)))))))
 refine W_sq (W_sq (W_rg (Zb (a_mv (v := .i .i64 0) rfl) (Zh (Ze (W_bl ?_))))))
 obtain ⟨o₁, ho₁, hp⟩ := Zt hp
 refine W.mono (Q := fun e fr k => match (generalizing := false) o₁ with
   | out1 => e = (.exit 0) ∧ ∃ (v₄ : V), ∃ (vs₃ : List V), fr 4 = v₄ ∧ Own B h k [eSl eV v₄ vs₃, eAll eInt vs₃ out1]) ?_ ?_
 ·clear hp
  have hO₃ : Own B h k₁ [eSl e_bool v₂ (List.replicate ((l.length : Int) : Int).toNat false), eSl eV .sn []] := hO₁.nil eV
  have hO₄ : Own B h k₁ [eSl e_bool v₂ (List.replicate ((l.length : Int) : Int).toNat false), eSl eV .sn [], eAll eInt [] []] := hO₃.allNil eInt 0
  refine z3 (fun st fr k => match st with | (in_, out, v) => ∃ (v₃ : V), ∃ (vs₂ : List V), fr 0 = v_l ∧ fr 3 = v₂ ∧ fr 4 = v₃ ∧ fr 5 = .i .i64 v ∧ Own B h k [eSl e_bool v₂ in_, eSl eV v₃ vs₂, eAll eInt vs₂ out]) ho₁ (s := (List.replicate ((l.length : Int) : Int).toNat false, ([] : List (List Int)), 0)) (Exists.intro V.sn (Exists.intro [] (And.intro (rfl) (And.intro (rfl) (And.intro (rfl) (And.intro (rfl) (hO₄.pick [0, 1, 2] rfl (by decide)))))))) ?_
  rintro ⟨in_, out, v⟩ q₂ k₃ ⟨v₃, vs₂, q₂_0, q₂_3, q₂_4, q₂_5, hO₅⟩ o₂ hp
  dsimp only [zg.s0] at hp
  refine W_sq (W_sq (W_rg (Zb (a_mv (v := .i .i64 v) q₂_5) (Zb (a_mv (v := v_l) q₂_0) (Zb (a_len (hO₅.rd0 s_l.rd : Sl Zf k₃ v_l l) rfl) (Zb (a_lss (a := v) (b := (l.length : Int)) rfl rfl) (Zh ?_)))))))
  refine Ze ?_
  rcases Zv hp with ⟨b₁, hp⟩ | ⟨b₁, hp⟩
  ·refine W_cT (t := (decide (v < (l.length : Int)))) rfl b₁ ?_
   refine W_sk (Ze (W_sq (W_bl (W_sq (W_sq (W_rg (Zb (a_mv (v := v₂) q₂_3) ?_)))))))
   refine Zb (a_mv (v := .i .i64 v) q₂_5) ?_
   obtain ⟨c₂, hp⟩ := Zo hp
   refine Zb (a_ixa (E := e_bool) (z := v) (hO₅.sl 0 rfl : Sl e_bool k₃ v₂ in_) rfl rfl c₂) (Zb (zH (w := .b (gi in_ (v : Int).toNat)) (hO₅.sl 0 rfl : Sl e_bool k₃ v₂ in_) rfl (Zq c₂) rfl) (Zh (Ze ?_)))
   rcases Zv hp with ⟨b₂, hp⟩ | ⟨b₂, hp⟩
   ·refine W_cT (t := (gi in_ (v : Int).toNat)) rfl b₂ ?_
    refine W_ex (zC (zS (Ze (W_rg (Zb (a_mv (v := .i .i64 v) q₂_5) ?_)))))
    obtain ⟨c₃, hp⟩ := Zo hp
    refine Zb (a_add (a := v) (b := 1) rfl rfl c₃) (Zb (a_mv (v := .i .i64 (v + 1)) rfl) (Zh ?_))
    have hp := Option.some.inj hp; subst hp
    exact (Or.inl (Exists.intro (in_, out, v + 1) (And.intro rfl (And.intro rfl (Exists.intro v₃ (Exists.intro vs₂ (And.intro (q₂_0) (And.intro (q₂_3) (And.intro (q₂_4) (And.intro (rfl) (hO₅.pick [0, 1, 2] rfl (by decide))))))))))))
   ·refine W_cF (t := (gi in_ (v : Int).toNat)) rfl b₂ ?_
    refine W_sk (Ze (W_sq (W_rg (Zb (a_mv (v := v_l) q₂_0) (Zb (a_mv (v := .i .i64 v) q₂_5) ?_)))))
    obtain ⟨x, hx₁, hp⟩ := Zt hp
    obtain ⟨u₁, k₄, ca₁, v₅, rfl, hW₁⟩ := ZP.ok (h := k₃)  (hO₅.rd0 s_l.rd : Sl Zf k₃ v_l l) hx₁
    refine Zaj (id := 36) (caps := []) rfl (Z7 (v := v_l) rfl (Z7 (v := .i .i64 v) rfl zl)) ca₁ ?_
    have hO₆ : Own B h k₄ [eSl e_bool v₂ in_, eSl eV v₃ vs₂, eAll eInt vs₂ out, eSl eInt v₅ x] := hO₅.call hW₁ rfl
    refine Zb (a_mv (v := v₅) rfl) (Zh (Ze (W_sq (W_rg (Zb (a_mv (v := .sn) rfl) (Zh (Ze ?_)))))))
    refine W_sq (W_sq (W_rg (Zb (a_mv (v := .i .i64 0) rfl) (Zh (Ze (W_bl ?_))))))
    obtain ⟨o₃, ho₂, hp⟩ := Zt hp
    refine W.mono (Q := fun e fr k => match (generalizing := false) o₃ with
      | (in_2, p1) => e = (.exit 2) ∧ ∃ (v₇ : V), fr 0 = v_l ∧ fr 3 = v₂ ∧ fr 4 = v₃ ∧ fr 5 = .i .i64 v ∧ fr 7 = v₇ ∧ Own B h k [eSl e_bool v₂ in_2, eSl eV v₃ vs₂, eAll eInt vs₂ out, eSl eInt v₇ p1]) ?_ ?_
    ·clear hp
     have hO₈ : Own B h k₄ [eSl e_bool v₂ in_, eSl eV v₃ vs₂, eAll eInt vs₂ out, eSl eInt v₅ x, eSl eInt .sn ([] : List Int)] := hO₆.nil eInt
     refine z3 (fun st fr k => match st with | (in_1, p, w) => ∃ (v₆ : V), fr 0 = v_l ∧ fr 3 = v₂ ∧ fr 4 = v₃ ∧ fr 5 = .i .i64 v ∧ fr 6 = v₅ ∧ fr 7 = v₆ ∧ fr 8 = .i .i64 w ∧ Own B h k [eSl e_bool v₂ in_1, eSl eV v₃ vs₂, eAll eInt vs₂ out, eSl eInt v₅ x, eSl eInt v₆ p]) ho₂ (s := (in_, ([] : List Int), 0)) (Exists.intro V.sn (And.intro (q₂_0) (And.intro (q₂_3) (And.intro (q₂_4) (And.intro (q₂_5) (And.intro (rfl) (And.intro (rfl) (And.intro (rfl) (hO₈.pick [0, 1, 2, 3, 4] rfl (by decide)))))))))) ?_
     rintro ⟨in_1, p, w⟩ q₄ k₆ ⟨v₆, q₄_0, q₄_3, q₄_4, q₄_5, q₄_6, q₄_7, q₄_8, hO₉⟩ o₄ hp
     dsimp only [zg.s1] at hp
     refine W_sq (W_sq (W_rg (Zb (a_mv (v := .i .i64 w) q₄_8) (Zb (a_mv (v := v_l) q₄_0) (Zb (a_len (hO₉.rd0 s_l.rd : Sl Zf k₆ v_l l) rfl) (Zb (a_lss (a := w) (b := (l.length : Int)) rfl rfl) (Zh ?_)))))))
     refine Ze ?_
     rcases Zv hp with ⟨b₃, hp⟩ | ⟨b₃, hp⟩
     ·refine W_cT (t := (decide (w < (l.length : Int)))) rfl b₃ ?_
      refine W_sk (Ze (W_sq (W_bl (W_sq (W_rg (Zb (a_mv (v := v₅) q₄_6) (Zb (a_mv (v := .i .i64 w) q₄_8) ?_)))))))
      obtain ⟨c₄, hp⟩ := Zo hp
      refine Zb (a_ixa (E := eInt) (z := w) (hO₉.sl 3 rfl : Sl eInt k₆ v₅ x) rfl rfl c₄) (Zb (zH (w := .i .i64 (gi x (w : Int).toNat)) (hO₉.sl 3 rfl : Sl eInt k₆ v₅ x) rfl (Zq c₄) rfl) (Zb (a_geq (a := (gi x (w : Int).toNat)) (b := 0) rfl rfl) (Zh (Ze ?_))))
      rcases Zv hp with ⟨b₄, hp⟩ | ⟨b₄, hp⟩
      ·refine W_cT (t := (decide (0 ≤ (gi x (w : Int).toNat)))) rfl b₄ ?_
       refine W_sq (W_rg (Zb (a_mv (v := v₂) q₄_3) (Zb (a_mv (v := .i .i64 w) q₄_8) ?_)))
       obtain ⟨c₅, hp⟩ := Zo hp
       refine Zb (a_ixa (E := e_bool) (z := w) (hO₉.sl 0 rfl : Sl e_bool k₆ v₂ in_1) rfl rfl c₅) (zq (hO₉.ste (E := e_bool) (y := true) (ws := [.b true]) 0 rfl rfl (Zq c₅) rfl rfl ⟨rfl, Nat.le_of_ble_eq_true rfl, rfl⟩ rfl) ?_)
       rintro _ k₇ ⟨rfl, f₂, m₁, hW⟩
       have hO₁₀ : Own B h k₇ [eSl e_bool v₂ (in_1.set (w : Int).toNat true), eSl eV v₃ vs₂, eAll eInt vs₂ out, eSl eInt v₅ x, eSl eInt v₆ p] := hW
       refine Zh (Ze (W_rg (Zb (a_mv (v := v₆) q₄_7) (Zb (a_mv (v := .i .i64 w) q₄_8) (zq (hO₁₀.bsl (E := eInt) (l := [w]) hO₁₀.fr (by rw [(zc (v := .i .i64 w) rfl ev_nil)]; rfl) rfl) ?_)))))
       rintro v₈ k₈ ⟨r₂, f₃, hW⟩
       have hO₁₁ : Own B h k₈ [eSl e_bool v₂ (in_1.set (w : Int).toNat true), eSl eV v₃ vs₂, eAll eInt vs₂ out, eSl eInt v₅ x, eSl eInt v₆ p, eSl eInt v₈ [w]] := hW
       obtain ⟨c₆, hp⟩ := Zo hp
       refine zq (hO₁₁.app (E := eInt) (bytes := 8) 4 hO₁₁.fr rfl (hO₁₁.sl 5 rfl : Sl eInt k₈ v₈ [w]) rfl rfl (fun _ => rfl) c₆ (by decide)) ?_
       rintro v₉ k₉ ⟨f₄, hW⟩
       have hO₁₂ : Own B h k₉ [eSl e_bool v₂ (in_1.set (w : Int).toNat true), eSl eV v₃ vs₂, eAll eInt vs₂ out, eSl eInt v₅ x, eSl eInt v₉ (p ++ [w]), eSl eInt v₈ [w]] := hW
       refine Zb (a_mv (v := v₉) rfl) (Zh (zL (Ze (W_rg (Zb (a_mv (v := .i .i64 w) q₄_8) ?_)))))
       obtain ⟨c₇, hp⟩ := Zo hp
       refine Zb (a_add (a := w) (b := 1) rfl rfl c₇) (Zb (a_mv (v := .i .i64 (w + 1)) rfl) (Zh ?_))
       have hp := Option.some.inj hp; subst hp
       exact (Or.inl (Exists.intro (in_1.set (w : Int).toNat true, p ++ [w], w + 1) (And.intro rfl (And.intro rfl (Exists.intro v₉ (And.intro (q₄_0) (And.intro (q₄_3) (And.intro (q₄_4) (And.intro (q₄_5) (And.intro (q₄_6) (And.intro (rfl) (And.intro (rfl) (hO₁₂.pick [0, 1, 2, 3, 4] rfl (by decide))))))))))))))
      ·refine W_cF (t := (decide (0 ≤ (gi x (w : Int).toNat)))) rfl b₄ ?_
       refine W_sk (zL (Ze (W_rg (Zb (a_mv (v := .i .i64 w) q₄_8) ?_))))
       obtain ⟨c₈, hp⟩ := Zo hp
       refine Zb (a_add (a := w) (b := 1) rfl rfl c₈) (Zb (a_mv (v := .i .i64 (w + 1)) rfl) (Zh ?_))
       have hp := Option.some.inj hp; subst hp
       exact (Or.inl (Exists.intro (in_1, p, w + 1) (And.intro rfl (And.intro rfl (Exists.intro v₆ (And.intro (q₄_0) (And.intro (q₄_3) (And.intro (q₄_4) (And.intro (q₄_5) (And.intro (q₄_6) (And.intro (q₄_7) (And.intro (rfl) (hO₉.pick [0, 1, 2, 3, 4] rfl (by decide))))))))))))))
     ·refine W_cF (t := (decide (w < (l.length : Int)))) rfl b₃ ?_
      refine W_ex (zC ?_)
      have hp := Option.some.inj hp; subst hp
      refine (Or.inr (Exists.intro (in_1, p) (And.intro rfl (And.intro (fun h => nomatch h) (fun he => ?_)))))
      subst he; exact (And.intro rfl (Exists.intro v₆ (And.intro (q₄_0) (And.intro (q₄_3) (And.intro (q₄_4) (And.intro (q₄_5) (And.intro (q₄_7) (hO₉.pick [0, 1, 2, 4] rfl (by decide)))))))))
    intro e₂ q₃ k₅ hJ₂
    obtain ⟨in_2, p1⟩ := o₃
    obtain ⟨rfl, v₇, q₃_0, q₃_3, q₃_4, q₃_5, q₃_7, hO₇⟩ := hJ₂
    refine zS (Ze (W_rg (Zb (a_mv (v := v₃) q₃_4) (Zb (a_mv (v := v₇) q₃_7) (zq (hO₇.bsl (E := eV) (l := [v₇]) hO₇.fr (by rw [(zc (v := v₇) rfl ev_nil)]; simp [fill, over, (hO₇.sl 3 rfl : Sl eInt k₅ v₇ p1).cells]) rfl) ?_)))))
    rintro v₁₀ k₁₀ ⟨r₃, f₅, hW⟩
    have hO₁₃ : Own B h k₁₀ [eSl e_bool v₂ in_2, eSl eV v₃ vs₂, eAll eInt vs₂ out, eSl eInt v₇ p1, eSl eV v₁₀ [v₇]] := hW
    obtain ⟨c₉, hp⟩ := Zo hp
    refine zq (hO₁₃.appV (bytes := 24) 1 hO₁₃.fr rfl (hO₁₃.sl 4 rfl : Sl eV k₁₀ v₁₀ [v₇]) rfl rfl (by simp only [List.all_cons, List.all_nil, Bool.and_true]; exact (hO₁₃.sl 3 rfl : Sl eInt k₁₀ v₇ p1).oneV) (by rw [(hO₁₃.allLen 2 rfl : (vs₂).length = (out).length)]; exact c₉) (by decide)) ?_
    rintro v₁₁ k₁₁ ⟨f₆, hW⟩
    have hO₁₄ : Own B h k₁₁ [eSl e_bool v₂ in_2, eSl eV v₁₁ (vs₂ ++ [v₇]), eAll eInt vs₂ out, eSl eInt v₇ p1, eSl eV v₁₀ [v₇]] := hW
    have hO₁₅ : Own B h k₁₁ [eSl e_bool v₂ in_2, eSl eV v₁₁ (vs₂ ++ [v₇]), eAll eInt (vs₂ ++ [v₇]) (out ++ [p1]), eNone, eSl eV v₁₀ [v₇]] := hO₁₄.absorb 2 3 rfl rfl (by decide)
    refine Zb (a_mv (v := v₁₁) rfl) (Zh (zL (Ze (W_rg (Zb (a_mv (v := .i .i64 v) q₃_5) ?_)))))
    obtain ⟨c₁₀, hp⟩ := Zo hp
    refine Zb (a_add (a := v) (b := 1) rfl rfl c₁₀) (Zb (a_mv (v := .i .i64 (v + 1)) rfl) (Zh ?_))
    have hp := Option.some.inj hp; subst hp
    exact (Or.inl (Exists.intro (in_2, out ++ [p1], v + 1) (And.intro rfl (And.intro rfl (Exists.intro v₁₁ (Exists.intro (vs₂ ++ [v₇]) (And.intro (q₃_0) (And.intro (q₃_3) (And.intro (rfl) (And.intro (rfl) (hO₁₅.pick [0, 1, 2] rfl (by decide))))))))))))
  ·refine W_cF (t := (decide (v < (l.length : Int)))) rfl b₁ ?_
   refine W_ex (zC ?_)
   have hp := Option.some.inj hp; subst hp
   refine (Or.inr (Exists.intro out (And.intro rfl (And.intro (fun h => nomatch h) (fun he => ?_)))))
   subst he; exact (And.intro rfl (Exists.intro v₃ (Exists.intro vs₂ (And.intro (q₂_4) (hO₅.pick [1, 2] rfl (by decide))))))
 intro e₁ q₁ k₂ hJ₁
 obtain ⟨out1, rfl⟩ : ∃ x, x = o₁ := ⟨_, rfl⟩
 obtain ⟨rfl, v₄, vs₃, q₁_4, hO₂⟩ := hJ₁
 refine zS (Ze (W_sq (W_rg (Zb (a_mv (v := v₄) q₁_4) (Zb (a_mv (v := v₄) rfl) (Zh (Ze ?_)))))))
 refine W_rt (Ret_r (rs_t (n := 2) (v := v₄) rfl rs_nil) ?_)
 have hp := Option.some.inj hp; subst hp
 exact (Exists.intro v₄ (Exists.intro vs₃ (And.intro rfl (hO₂.pick [0, 1] rfl (by decide)))))

theorem zr.ok {h : Hp} {l : List Zk} {d : Zr} {v_l : V} (s_l : Sl Zf h v_l l) {r : Zr} (hp : zr l d = some r) :
  ∃ u k', Is G 202 [v_l, .ag (Zi.c d)] h u k' ∧ V.ag (Zi.c r) = u ∧ Own (fun r => r < h.n) h k' [] := by
 refine WC.is (WC_of G_F_muntinref12_Behind ?_)
 unfold zr at hp
 let B : Nat → Prop := (fun r => r < h.n)
 have hO : Own B h h [] := Own.start0 h
 refine W_sq (W_rg (zq (hO.boxd (v := .ag (Zi.c d)) (cs := Zi.c d) hO.fr rfl rfl) ?_))
 rintro _ k₁ ⟨r₁, rfl, n₁, f₁, hW⟩
 have hO₁ : Own B h k₁ [eBox r₁ (Zi.c d)] := hW
 refine zq (hO₁.alloc (cs := Zi.c (⟨0, 0⟩ : Zr)) hO₁.fr) ?_
 rintro _ k₂ ⟨r₂, rfl, n₂, f₂, hW⟩
 have hO₂ : Own B h k₂ [eBox r₁ (Zi.c d), eBox r₂ (Zi.c (⟨0, 0⟩ : Zr))] := hW
 refine Zh (Ze (W_sq (W_qd ?_)))
 have hW := hO₂.bump 10
 have hO₃ : Own B h (k₂.bump 10) [eBox r₁ (Zi.c d), eBox r₂ (Zi.c (⟨0, 0⟩ : Zr))] := hW
 refine Z8 rfl (a_mv (v := v_l) rfl) (Z8 rfl (a_fa (r := r₁) (o := 0) (o' := 0) rfl rfl) (Z8 rfl (Zaf (cs := (Zi.c d)) (v := .i .i64 d.Cell) (hO₃.box 0 rfl) rfl rfl) (Z8 rfl (a_fa (r := r₁) (o := 0) (o' := 1) rfl rfl) (Z8 rfl (Zaf (cs := (Zi.c d)) (v := .i .i64 d.Dir) (hO₃.box 0 rfl) rfl rfl) ?_))))
 obtain ⟨c₁, hp⟩ := Zo hp
 refine Z8 rfl (a_ixa (E := Zf) (z := d.Cell) (hO₃.rd0 s_l.rd : Sl Zf (k₂.bump 10) v_l l) rfl rfl c₁) (Z8 rfl (Zan (off' := 0) (off2 := 0) (hO₃.rd0 s_l.rd : Sl Zf (k₂.bump 10) v_l l) (Zq c₁) rfl rfl) ?_)
 obtain ⟨c₂, hp⟩ := Zo hp
 refine Z8 rfl (Za4 (off := 0) (off2 := (0 + (d.Dir : Int).toNat * 1)) (z := d.Dir) (hO₃.rd0 s_l.rd : Sl Zf (k₂.bump 10) v_l l) (Zq c₁) rfl rfl c₂ rfl) (Z8 rfl (zH (w := .i .i64 (((gi l (d.Cell : Int).toNat).Next).get d.Dir)) (hO₃.rd0 s_l.rd : Sl Zf (k₂.bump 10) v_l l) rfl (Zq c₁) (zP c₂)) (Z8 rfl (a_mv (v := .i .i64 (((gi l (d.Cell : Int).toNat).Next).get d.Dir)) rfl) (zQ (Ze (W_sq (W_rg (zq (hO₃.bsl (E := eInt) (l := ([1, 0, 3, 2] : List Int)) hO₃.fr (by rw [(zc (v := .i .i64 1) rfl (zc (v := .i .i64 0) rfl (zc (v := .i .i64 3) rfl (zc (v := .i .i64 2) rfl ev_nil))))]; rfl) rfl) ?_)))))))
 rintro v₁ k₄ ⟨r₃, f₃, hW⟩
 have hO₄ : Own B h k₄ [eBox r₁ (Zi.c d), eBox r₂ (Zi.c (⟨0, 0⟩ : Zr)), eSl eInt v₁ ([1, 0, 3, 2] : List Int)] := hW
 refine Zb (a_mv (v := v₁) rfl) (Zh (Ze (W_sq (W_sq (W_rg (Zb (a_mv (v := .i .i64 0) rfl) (Zh ?_)))))))
 refine Ze (W_bl ?_)
 obtain ⟨o₁, ho₁, hp⟩ := Zt hp
 refine W.mono (Q := fun e fr k => match (generalizing := false) o₁ with
   | .inl _ => e = (.exit 0) ∧ fr 3 = .p r₁ 0 ∧ fr 4 = .p r₂ 0 ∧ Own B h k [eBox r₁ (Zi.c d), eBox r₂ (Zi.c (⟨0, 0⟩ : Zr))]
   | .inr x => e = .ret ∧ fr 4 = .p r₂ 0 ∧ Own B h k [eBox r₂ (Zi.c x)]) ?_ ?_
 ·clear hp
  refine z3 (fun st fr k => match st with | i => fr 0 = v_l ∧ fr 3 = .p r₁ 0 ∧ fr 4 = .p r₂ 0 ∧ fr 5 = .i .i64 (((gi l (d.Cell : Int).toNat).Next).get d.Dir) ∧ fr 6 = v₁ ∧ fr 7 = .i .i64 i ∧ Own B h k [eBox r₁ (Zi.c d), eBox r₂ (Zi.c (⟨0, 0⟩ : Zr)), eSl eInt v₁ ([1, 0, 3, 2] : List Int)]) ho₁ (s := 0) (And.intro (rfl) (And.intro (rfl) (And.intro (rfl) (And.intro (rfl) (And.intro (rfl) (And.intro (rfl) (hO₄.pick [0, 1, 2] rfl (by decide)))))))) ?_
  rintro i q₂ k₆ ⟨q₂_0, q₂_3, q₂_4, q₂_5, q₂_6, q₂_7, hO₆⟩ o₂ hp
  dsimp only [zr.s0] at hp
  refine W_sq (W_sq (W_rg (Zb (a_mv (v := .i .i64 i) q₂_7) (Zb (a_lss (a := i) (b := 4) rfl rfl) (Zh (Ze ?_))))))
  rcases Zv hp with ⟨b₁, hp⟩ | ⟨b₁, hp⟩
  ·refine W_cT (t := (decide (i < 4))) rfl b₁ ?_
   refine W_sk (Ze (W_sq (W_bl (W_sq (W_qd ?_)))))
   have hW := hO₆.bump 9
   have hO₇ : Own B h (k₆.bump 9) [eBox r₁ (Zi.c d), eBox r₂ (Zi.c (⟨0, 0⟩ : Zr)), eSl eInt v₁ ([1, 0, 3, 2] : List Int)] := hW
   refine Z8 rfl (a_fa (r := r₁) (o := 0) (o' := 1) q₂_3 rfl) (Z8 rfl (Zaf (cs := (Zi.c d)) (v := .i .i64 d.Dir) (hO₇.box 0 rfl) rfl rfl) (Z8 rfl (a_mv (v := v₁) q₂_6) (Z8 rfl (a_mv (v := .i .i64 i) q₂_7) ?_)))
   obtain ⟨c₃, hp⟩ := Zo hp
   refine Z8 rfl (a_ixa (E := eInt) (z := i) (hO₇.sl 2 rfl : Sl eInt (k₆.bump 9) v₁ ([1, 0, 3, 2] : List Int)) rfl rfl c₃) (Z8 rfl (zH (w := .i .i64 (gi ([1, 0, 3, 2] : List Int) (i : Int).toNat)) (hO₇.sl 2 rfl : Sl eInt (k₆.bump 9) v₁ ([1, 0, 3, 2] : List Int)) rfl (Zq c₃) rfl) ?_)
   obtain ⟨c₄, hp⟩ := Zo hp
   refine Z8 rfl (a_add (a := d.Dir) (b := (gi ([1, 0, 3, 2] : List Int) (i : Int).toNat)) rfl rfl c₄) (Z8 rfl (a_rem (a := (d.Dir + (gi ([1, 0, 3, 2] : List Int) (i : Int).toNat))) (b := 4) rfl rfl (by decide)) (Z8 rfl (a_mv (v := .i .i64 ((d.Dir + (gi ([1, 0, 3, 2] : List Int) (i : Int).toNat)).tmod 4)) rfl) (zQ (Ze (W_sq (W_rg (Zb (a_mv (v := v_l) q₂_0) ?_)))))))
   refine Zb (a_mv (v := .i .i64 (((gi l (d.Cell : Int).toNat).Next).get d.Dir)) q₂_5) (Zb (a_mv (v := .i .i64 ((d.Dir + (gi ([1, 0, 3, 2] : List Int) (i : Int).toNat)).tmod 4)) rfl) ?_)
   obtain ⟨c₅, hp⟩ := Zo hp
   refine Zb (a_ixa (E := Zf) (z := (((gi l (d.Cell : Int).toNat).Next).get d.Dir)) (hO₇.rd0 s_l.rd : Sl Zf (k₆.bump 9) v_l l) rfl rfl c₅) (Zb (Zan (off' := 0) (off2 := 0) (hO₇.rd0 s_l.rd : Sl Zf (k₆.bump 9) v_l l) (Zq c₅) rfl rfl) ?_)
   obtain ⟨c₆, hp⟩ := Zo hp
   refine Zb (Za4 (off := 0) (off2 := (0 + ((d.Dir + (gi ([1, 0, 3, 2] : List Int) (i : Int).toNat)).tmod 4 : Int).toNat * 1)) (z := ((d.Dir + (gi ([1, 0, 3, 2] : List Int) (i : Int).toNat)).tmod 4)) (hO₇.rd0 s_l.rd : Sl Zf (k₆.bump 9) v_l l) (Zq c₅) rfl rfl c₆ rfl) (Zb (zH (w := .i .i64 (((gi l (((gi l (d.Cell : Int).toNat).Next).get d.Dir : Int).toNat).Next).get ((d.Dir + (gi ([1, 0, 3, 2] : List Int) (i : Int).toNat)).tmod 4))) (hO₇.rd0 s_l.rd : Sl Zf (k₆.bump 9) v_l l) rfl (Zq c₅) (zP c₆)) (Zb (a_geq (a := (((gi l (((gi l (d.Cell : Int).toNat).Next).get d.Dir : Int).toNat).Next).get ((d.Dir + (gi ([1, 0, 3, 2] : List Int) (i : Int).toNat)).tmod 4))) (b := 0) rfl rfl) (Zh (Ze ?_))))
   rcases Zv hp with ⟨b₂, hp⟩ | ⟨b₂, hp⟩
   ·refine W_cT (t := (decide (0 ≤ (((gi l (((gi l (d.Cell : Int).toNat).Next).get d.Dir : Int).toNat).Next).get ((d.Dir + (gi ([1, 0, 3, 2] : List Int) (i : Int).toNat)).tmod 4))))) rfl b₂ ?_
    refine W_sq (W_rg (Zb (a_mv (v := .i .i64 (((gi l (d.Cell : Int).toNat).Next).get d.Dir)) q₂_5) (Zb (a_mv (v := .i .i64 ((d.Dir + (gi ([1, 0, 3, 2] : List Int) (i : Int).toNat)).tmod 4)) rfl) (Zb (Zaw (cs := Zi.c (⟨((gi l (d.Cell : Int).toNat).Next).get d.Dir, (d.Dir + (gi ([1, 0, 3, 2] : List Int) (i : Int).toNat)).tmod 4⟩ : Zr)) (by rw [(zc (v := .i .i64 (((gi l (d.Cell : Int).toNat).Next).get d.Dir)) rfl (zc (v := .i .i64 ((d.Dir + (gi ([1, 0, 3, 2] : List Int) (i : Int).toNat)).tmod 4)) rfl ev_nil))]; rfl)) (zq (hO₇.stb (ws := Zi.c (⟨((gi l (d.Cell : Int).toNat).Next).get d.Dir, (d.Dir + (gi ([1, 0, 3, 2] : List Int) (i : Int).toNat)).tmod 4⟩ : Zr)) (cs' := Zi.c (⟨((gi l (d.Cell : Int).toNat).Next).get d.Dir, (d.Dir + (gi ([1, 0, 3, 2] : List Int) (i : Int).toNat)).tmod 4⟩ : Zr)) (v := .ag (Zi.c (⟨((gi l (d.Cell : Int).toNat).Next).get d.Dir, (d.Dir + (gi ([1, 0, 3, 2] : List Int) (i : Int).toNat)).tmod 4⟩ : Zr))) 1 rfl q₂_4 rfl rfl ⟨rfl, Nat.le_of_ble_eq_true rfl, rfl⟩ rfl) ?_)))))
    rintro _ k₈ ⟨rfl, f₄, m₁, hW⟩
    have hO₈ : Own B h k₈ [eBox r₁ (Zi.c d), eBox r₂ (Zi.c (⟨((gi l (d.Cell : Int).toNat).Next).get d.Dir, (d.Dir + (gi ([1, 0, 3, 2] : List Int) (i : Int).toNat)).tmod 4⟩ : Zr)), eSl eInt v₁ ([1, 0, 3, 2] : List Int)] := hW
    refine Zh (Ze (W_rt (Zak (zy ?_))))
    have hp := Option.some.inj hp; subst hp
    refine (Or.inr (Exists.intro (.inr (⟨((gi l (d.Cell : Int).toNat).Next).get d.Dir, (d.Dir + (gi ([1, 0, 3, 2] : List Int) (i : Int).toNat)).tmod 4⟩ : Zr)) (And.intro rfl (And.intro (fun h => nomatch h) (fun he => ?_)))))
    subst he; exact (And.intro rfl (And.intro (q₂_4) (hO₈.pick [1] rfl (by decide))))
   ·refine W_cF (t := (decide (0 ≤ (((gi l (((gi l (d.Cell : Int).toNat).Next).get d.Dir : Int).toNat).Next).get ((d.Dir + (gi ([1, 0, 3, 2] : List Int) (i : Int).toNat)).tmod 4))))) rfl b₂ ?_
    refine W_sk (zL (Ze (W_rg (Zb (a_mv (v := .i .i64 i) q₂_7) ?_))))
    obtain ⟨c₇, hp⟩ := Zo hp
    refine Zb (a_add (a := i) (b := 1) rfl rfl c₇) (Zb (a_mv (v := .i .i64 (i + 1)) rfl) (Zh ?_))
    have hp := Option.some.inj hp; subst hp
    exact (Or.inl (Exists.intro (i + 1) (And.intro rfl (And.intro rfl (And.intro (q₂_0) (And.intro (q₂_3) (And.intro (q₂_4) (And.intro (q₂_5) (And.intro (q₂_6) (And.intro (rfl) (hO₇.pick [0, 1, 2] rfl (by decide))))))))))))
  ·refine W_cF (t := (decide (i < 4))) rfl b₁ ?_
   refine W_ex (zC ?_)
   have hp := Option.some.inj hp; subst hp
   refine (Or.inr (Exists.intro (.inl ()) (And.intro rfl (And.intro (fun h => nomatch h) (fun he => ?_)))))
   subst he; exact (And.intro rfl (And.intro (q₂_3) (And.intro (q₂_4) (hO₆.pick [0, 1] rfl (by decide)))))
 intro e₁ q₁ k₅ hJ₁
 rcases o₁ with _ | x
 ·obtain ⟨rfl, q₁_3, q₁_4, hO₅⟩ := hJ₁
  refine zS (Ze (W_sq (W_rg (Zb (a_ldbA (cs := (Zi.c d)) (ws := Zi.c d) (hO₅.box 0 rfl) q₁_3 rfl) (zq (hO₅.stb (ws := Zi.c d) (cs' := Zi.c d) (v := .ag (Zi.c d)) 1 rfl q₁_4 rfl rfl ⟨rfl, Nat.le_of_ble_eq_true rfl, rfl⟩ rfl) ?_)))))
  rintro _ k₉ ⟨rfl, f₅, m₂, hW⟩
  have hO₉ : Own B h k₉ [eBox r₁ (Zi.c d), eBox r₂ (Zi.c d)] := hW
  refine Zh (Ze (W_rt (Ret_r (rs_c (n := 4) (v := .ag (Zi.c d)) (r := r₂) q₁_4 (hO₉.box 1 rfl) rfl rs_nil) ?_)))
  have hp := Option.some.inj hp; subst hp
  exact (And.intro rfl (hO₉.pick [] rfl (by decide)))
 ·obtain ⟨rfl, q₁_4, hO₅⟩ := hJ₁
  refine Zak (zy (Ret_r (rs_c (n := 4) (v := .ag (Zi.c x)) (r := r₂) q₁_4 (hO₅.box 0 rfl) rfl rs_nil) ?_))
  have hp := Option.some.inj hp; subst hp
  exact (And.intro rfl (hO₅.pick [] rfl (by decide)))

theorem ZL.ok {h : Hp} {l : List Zk} {v_l : V} (s_l : Sl Zf h v_l l) {r : (List (List Zr))} (hp : ZL l = some r) :
  ∃ u k', Is G 177 [v_l] h u k' ∧ ∃ (v₁ : V), ∃ (vs₁ : List V), v₁ = u ∧ Own (fun r => r < h.n) h k' [eSl eV v₁ vs₁, eAll Zi vs₁ r] := by
 refine WC.is (WC_of G_F_muntinref12_Faces ?_)
 unfold ZL at hp
 let B : Nat → Prop := (fun r => r < h.n)
 have hO : Own B h h [] := Own.start0 h
 refine W_sq (W_rg (Zb (a_mv (v := .sn) rfl) (Zh (Ze (W_sq (W_rg (Zb (a_mv (v := v_l) rfl) ?_)))))))
 refine Zb (a_len (hO.rd0 s_l.rd : Sl Zf h v_l l) rfl) ?_
 obtain ⟨c₁, hp⟩ := Zo hp
 refine Zb (a_mul (a := 4) (b := (l.length : Int)) rfl rfl c₁) ?_
 obtain ⟨c₂, hp⟩ := Zo hp
 refine zq (hO.mks (E := e_bool) (y := false) (bytes := 1) (z := (4 * (l.length : Int))) hO.fr rfl rfl rfl c₂ (by decide)) ?_
 rintro v₂ k₁ ⟨r₁, f₁, hW⟩
 have hO₁ : Own B h k₁ [eSl e_bool v₂ (List.replicate (4 * (l.length : Int) : Int).toNat false)] := hW
 refine Zb (a_mv (v := v₂) rfl) (Zh (Ze (W_sq (W_rg (Zb (a_mv (v := .sn) rfl) (Zh (Ze ?_)))))))
 refine W_sq (W_sq (W_rg (Zb (a_mv (v := .i .i64 0) rfl) (Zh (Ze (W_bl ?_))))))
 obtain ⟨o₁, ho₁, hp⟩ := Zt hp
 refine W.mono (Q := fun e fr k => match (generalizing := false) o₁ with
   | out1 => e = (.exit 0) ∧ ∃ (v₄ : V), ∃ (vs₃ : List V), fr 4 = v₄ ∧ Own B h k [eSl eV v₄ vs₃, eAll Zi vs₃ out1]) ?_ ?_
 ·clear hp
  have hO₃ : Own B h k₁ [eSl e_bool v₂ (List.replicate (4 * (l.length : Int) : Int).toNat false), eSl eV .sn []] := hO₁.nil eV
  have hO₄ : Own B h k₁ [eSl e_bool v₂ (List.replicate (4 * (l.length : Int) : Int).toNat false), eSl eV .sn [], eAll Zi [] []] := hO₃.allNil Zi 0
  refine z3 (fun st fr k => match st with | (met, out, v) => ∃ (v₃ : V), ∃ (vs₂ : List V), fr 0 = v_l ∧ fr 3 = v₂ ∧ fr 4 = v₃ ∧ fr 5 = .i .i64 v ∧ Own B h k [eSl e_bool v₂ met, eSl eV v₃ vs₂, eAll Zi vs₂ out]) ho₁ (s := (List.replicate (4 * (l.length : Int) : Int).toNat false, ([] : List (List Zr)), 0)) (Exists.intro V.sn (Exists.intro [] (And.intro (rfl) (And.intro (rfl) (And.intro (rfl) (And.intro (rfl) (hO₄.pick [0, 1, 2] rfl (by decide)))))))) ?_
  rintro ⟨met, out, v⟩ q₂ k₃ ⟨v₃, vs₂, q₂_0, q₂_3, q₂_4, q₂_5, hO₅⟩ o₂ hp
  dsimp only [ZL.s0] at hp
  refine W_sq (W_sq (W_rg (Zb (a_mv (v := .i .i64 v) q₂_5) (Zb (a_mv (v := v_l) q₂_0) (Zb (a_len (hO₅.rd0 s_l.rd : Sl Zf k₃ v_l l) rfl) (Zb (a_lss (a := v) (b := (l.length : Int)) rfl rfl) (Zh ?_)))))))
  refine Ze ?_
  rcases Zv hp with ⟨b₁, hp⟩ | ⟨b₁, hp⟩
  ·refine W_cT (t := (decide (v < (l.length : Int)))) rfl b₁ ?_
   refine W_sk (Ze (W_sq (W_bl (W_sq (W_rg (Zb (a_mv (v := .i .i64 0) rfl) (Zh ?_)))))))
   refine Ze (W_bl ?_)
   obtain ⟨o₃, ho₂, hp⟩ := Zt hp
   refine W.mono (Q := fun e fr k => match (generalizing := false) o₃ with
     | (met2, out3) => e = (.exit 2) ∧ ∃ (v₆ : V), ∃ (vs₅ : List V), fr 0 = v_l ∧ fr 3 = v₂ ∧ fr 4 = v₆ ∧ fr 5 = .i .i64 v ∧ Own B h k [eSl e_bool v₂ met2, eSl eV v₆ vs₅, eAll Zi vs₅ out3]) ?_ ?_
   ·clear hp
    refine z3 (fun st fr k => match st with | (met1, out2, e_) => ∃ (v₅ : V), ∃ (vs₄ : List V), fr 0 = v_l ∧ fr 3 = v₂ ∧ fr 4 = v₅ ∧ fr 5 = .i .i64 v ∧ fr 6 = .i .i64 e_ ∧ Own B h k [eSl e_bool v₂ met1, eSl eV v₅ vs₄, eAll Zi vs₄ out2]) ho₂ (s := (met, out, 0)) (Exists.intro v₃ (Exists.intro vs₂ (And.intro (q₂_0) (And.intro (q₂_3) (And.intro (q₂_4) (And.intro (q₂_5) (And.intro (rfl) (hO₅.pick [0, 1, 2] rfl (by decide))))))))) ?_
    rintro ⟨met1, out2, e_⟩ q₄ k₅ ⟨v₅, vs₄, q₄_0, q₄_3, q₄_4, q₄_5, q₄_6, hO₇⟩ o₄ hp
    dsimp only [ZL.s1] at hp
    refine W_sq (W_sq (W_rg (Zb (a_mv (v := .i .i64 e_) q₄_6) (Zb (a_lss (a := e_) (b := 4) rfl rfl) (Zh (Ze ?_))))))
    rcases Zv hp with ⟨b₂, hp⟩ | ⟨b₂, hp⟩
    ·refine W_cT (t := (decide (e_ < 4))) rfl b₂ ?_
     refine W_sk (Ze (W_sq (W_bl (W_sq (W_sq (W_rg (Zb (a_mv (v := v_l) q₄_0) ?_)))))))
     refine Zb (a_mv (v := .i .i64 v) q₄_5) (Zb (a_mv (v := .i .i64 e_) q₄_6) ?_)
     obtain ⟨c₃, hp⟩ := Zo hp
     refine Zb (a_ixa (E := Zf) (z := v) (hO₇.rd0 s_l.rd : Sl Zf k₅ v_l l) rfl rfl c₃) (Zb (Zan (off' := 0) (off2 := 0) (hO₇.rd0 s_l.rd : Sl Zf k₅ v_l l) (Zq c₃) rfl rfl) ?_)
     obtain ⟨c₄, hp⟩ := Zo hp
     refine Zb (Za4 (off := 0) (off2 := (0 + (e_ : Int).toNat * 1)) (z := e_) (hO₇.rd0 s_l.rd : Sl Zf k₅ v_l l) (Zq c₃) rfl rfl c₄ rfl) (Zb (zH (w := .i .i64 (((gi l (v : Int).toNat).Next).get e_)) (hO₇.rd0 s_l.rd : Sl Zf k₅ v_l l) rfl (Zq c₃) (zP c₄)) (Zb (a_lss (a := (((gi l (v : Int).toNat).Next).get e_)) (b := 0) rfl rfl) (Zb (a_mv (v := .b (decide ((((gi l (v : Int).toNat).Next).get e_) < 0))) rfl) ?_)))
     obtain ⟨t, hv₁, hp⟩ := Zt hp
     refine zX 8 (fun fr' k' => k₅ = k' ∧ fr' 39 = .b t ∧ fr' 0 = v_l ∧ fr' 3 = v₂ ∧ fr' 4 = v₅ ∧ fr' 5 = .i .i64 v ∧ fr' 6 = .i .i64 e_) ?_ ?_
     ·clear hp; rcases Zv hv₁ with ⟨b₃, hp⟩ | ⟨b₃, hp⟩
      ·skip
       refine WO_off rfl b₃ (WO_off rfl b₃ (WO_off rfl b₃ (WO_off rfl b₃ (WO_off rfl b₃ (WO_off rfl b₃ (WO_off rfl b₃ (Zb (zk (t := (decide ((((gi l (v : Int).toNat).Next).get e_) < 0))) (v := .b t) rfl b₃ (Eq.trans (b := V.b true) rfl (congrArg V.b (Option.some.inj hp)))) ?_)))))))
       refine Zh ?_
       exact ⟨rfl, rfl, q₄_0, q₄_3, q₄_4, q₄_5, q₄_6⟩
      ·skip
       refine WO_on rfl b₃ (Zb (a_mv (v := v₂) q₄_3) (WO_on rfl b₃ (Zb (a_mv (v := .i .i64 v) q₄_5) (WO_on rfl b₃ ?_))))
       obtain ⟨c₅, hp⟩ := Zo hp
       refine Zb (a_mul (a := 4) (b := v) rfl rfl c₅) (WO_on rfl b₃ (Zb (a_mv (v := .i .i64 e_) q₄_6) (WO_on rfl b₃ ?_)))
       obtain ⟨c₆, hp⟩ := Zo hp
       refine Zb (a_add (a := (4 * v)) (b := e_) rfl rfl c₆) (WO_on rfl b₃ ?_)
       obtain ⟨c₇, hp⟩ := Zo hp
       refine Zb (a_ixa (E := e_bool) (z := ((4 * v) + e_)) (hO₇.sl 0 rfl : Sl e_bool k₅ v₂ met1) rfl rfl c₇) (WO_on rfl b₃ (Zb (zH (w := .b (gi met1 ((4 * v) + e_ : Int).toNat)) (hO₇.sl 0 rfl : Sl e_bool k₅ v₂ met1) rfl (Zq c₇) rfl) (Zb (zi (t := (decide ((((gi l (v : Int).toNat).Next).get e_) < 0))) (v := .b t) rfl b₃ (Eq.trans (b := V.b (gi met1 ((4 * v) + e_ : Int).toNat)) rfl (congrArg V.b (Option.some.inj hp)))) (Zh ?_))))
       exact ⟨rfl, rfl, q₄_0, q₄_3, q₄_4, q₄_5, q₄_6⟩
     rintro frg₁ _ ⟨rfl, g₁_39, g₁_0, g₁_3, g₁_4, g₁_5, g₁_6⟩
     refine Zh (Ze ?_)
     rcases Zv hp with ⟨b₄, hp⟩ | ⟨b₄, hp⟩
     ·refine W_cT (t := t) g₁_39 b₄ ?_
      refine W_ex (zC (zS (Ze (W_rg (Zb (a_mv (v := .i .i64 e_) g₁_6) ?_)))))
      obtain ⟨c₈, hp⟩ := Zo hp
      refine Zb (a_add (a := e_) (b := 1) rfl rfl c₈) (Zb (a_mv (v := .i .i64 (e_ + 1)) rfl) (Zh ?_))
      have hp := Option.some.inj hp; subst hp
      exact (Or.inl (Exists.intro (met1, out2, e_ + 1) (And.intro rfl (And.intro rfl (Exists.intro v₅ (Exists.intro vs₄ (And.intro (g₁_0) (And.intro (g₁_3) (And.intro (g₁_4) (And.intro (g₁_5) (And.intro (rfl) (hO₇.pick [0, 1, 2] rfl (by decide)))))))))))))
     ·refine W_cF (t := t) g₁_39 b₄ ?_
      refine W_sk (Ze (W_sq (W_rg (Zb (a_mv (v := .sn) rfl) (Zh (Ze (W_sq ?_)))))))
      refine W_rg (Zb (a_mv (v := .i .i64 v) g₁_5) (Zb (a_mv (v := .i .i64 e_) g₁_6) (Zb (Zaw (cs := Zi.c (⟨v, e_⟩ : Zr)) (by rw [(zc (v := .i .i64 v) rfl (zc (v := .i .i64 e_) rfl ev_nil))]; rfl)) (zq (hO₇.alloc (cs := Zi.c (⟨0, 0⟩ : Zr)) hO₇.fr) ?_))))
      rintro _ k₆ ⟨r₂, rfl, n₁, f₂, hW⟩
      have hO₈ : Own B h k₆ [eSl e_bool v₂ met1, eSl eV v₅ vs₄, eAll Zi vs₄ out2, eBox r₂ (Zi.c (⟨0, 0⟩ : Zr))] := hW
      refine zq (hO₈.stb (ws := Zi.c (⟨v, e_⟩ : Zr)) (cs' := Zi.c (⟨v, e_⟩ : Zr)) (v := .ag (Zi.c (⟨v, e_⟩ : Zr))) 3 rfl rfl rfl rfl ⟨rfl, Nat.le_of_ble_eq_true rfl, rfl⟩ rfl) ?_
      rintro _ k₇ ⟨rfl, f₃, m₁, hW⟩
      have hO₉ : Own B h k₇ [eSl e_bool v₂ met1, eSl eV v₅ vs₄, eAll Zi vs₄ out2, eBox r₂ (Zi.c (⟨v, e_⟩ : Zr))] := hW
      refine Zh (Ze (W_sq (W_bl ?_)))
      obtain ⟨o₅, ho₃, hp⟩ := Zt hp
      refine W.mono (Q := fun e fr k => match (generalizing := false) o₅ with
        | (met4, f1) => e = (.exit 4) ∧ ∃ (v₈ : V), fr 0 = v_l ∧ fr 3 = v₂ ∧ fr 4 = v₅ ∧ fr 5 = .i .i64 v ∧ fr 6 = .i .i64 e_ ∧ fr 7 = v₈ ∧ Own B h k [eSl e_bool v₂ met4, eSl eV v₅ vs₄, eAll Zi vs₄ out2, eSl Zi v₈ f1]) ?_ ?_
      ·clear hp
       have hO₁₁ : Own B h k₇ [eSl e_bool v₂ met1, eSl eV v₅ vs₄, eAll Zi vs₄ out2, eBox r₂ (Zi.c (⟨v, e_⟩ : Zr)), eSl Zi .sn ([] : List Zr)] := hO₉.nil Zi
       refine z3 (fun st fr k => match st with | (met3, f, d) => ∃ (v₇ : V), fr 0 = v_l ∧ fr 3 = v₂ ∧ fr 4 = v₅ ∧ fr 5 = .i .i64 v ∧ fr 6 = .i .i64 e_ ∧ fr 7 = v₇ ∧ fr 8 = .p r₂ 0 ∧ Own B h k [eSl e_bool v₂ met3, eSl eV v₅ vs₄, eAll Zi vs₄ out2, eSl Zi v₇ f, eBox r₂ (Zi.c d)]) ho₃ (s := (met1, ([] : List Zr), (⟨v, e_⟩ : Zr))) (Exists.intro V.sn (And.intro (g₁_0) (And.intro (g₁_3) (And.intro (g₁_4) (And.intro (g₁_5) (And.intro (g₁_6) (And.intro (rfl) (And.intro (rfl) (hO₁₁.pick [0, 1, 2, 4, 3] rfl (by decide)))))))))) ?_
       rintro ⟨met3, f, d⟩ q₆ k₉ ⟨v₇, q₆_0, q₆_3, q₆_4, q₆_5, q₆_6, q₆_7, q₆_8, hO₁₂⟩ o₆ hp
       dsimp only [ZL.s2] at hp
       refine W_sq (W_sq (W_rg (Zb (a_mv (v := v₂) q₆_3) (Zb (a_fa (r := r₂) (o := 0) (o' := 0) q₆_8 rfl) (Zb (Zaf (cs := (Zi.c d)) (v := .i .i64 d.Cell) (hO₁₂.box 4 rfl) rfl rfl) ?_)))))
       obtain ⟨c₉, hp⟩ := Zo hp
       refine Zb (a_mul (a := 4) (b := d.Cell) rfl rfl c₉) (Zb (a_fa (r := r₂) (o := 0) (o' := 1) q₆_8 rfl) (Zb (Zaf (cs := (Zi.c d)) (v := .i .i64 d.Dir) (hO₁₂.box 4 rfl) rfl rfl) ?_))
       obtain ⟨c₁₀, hp⟩ := Zo hp
       refine Zb (a_add (a := (4 * d.Cell)) (b := d.Dir) rfl rfl c₁₀) ?_
       obtain ⟨c₁₁, hp⟩ := Zo hp
       refine Zb (a_ixa (E := e_bool) (z := ((4 * d.Cell) + d.Dir)) (hO₁₂.sl 0 rfl : Sl e_bool k₉ v₂ met3) rfl rfl c₁₁) (Zb (zH (w := .b (gi met3 ((4 * d.Cell) + d.Dir : Int).toNat)) (hO₁₂.sl 0 rfl : Sl e_bool k₉ v₂ met3) rfl (Zq c₁₁) rfl) (Zb (a_not (t := (gi met3 ((4 * d.Cell) + d.Dir : Int).toNat)) rfl) (Zh (Ze ?_))))
       rcases Zv hp with ⟨b₅, hp⟩ | ⟨b₅, hp⟩
       ·refine W_cT (t := (!(gi met3 ((4 * d.Cell) + d.Dir : Int).toNat))) rfl b₅ ?_
        refine W_sk (Ze (W_bl (W_sq (W_rg (Zb (a_mv (v := v₂) q₆_3) (Zb (a_fa (r := r₂) (o := 0) (o' := 0) q₆_8 rfl) (Zb (Zaf (cs := (Zi.c d)) (v := .i .i64 d.Cell) (hO₁₂.box 4 rfl) rfl rfl) ?_)))))))
        refine Zb (a_mul (a := 4) (b := d.Cell) rfl rfl c₉) (Zb (a_fa (r := r₂) (o := 0) (o' := 1) q₆_8 rfl) (Zb (Zaf (cs := (Zi.c d)) (v := .i .i64 d.Dir) (hO₁₂.box 4 rfl) rfl rfl) (Zb (a_add (a := (4 * d.Cell)) (b := d.Dir) rfl rfl c₁₀) (Zb (a_ixa (E := e_bool) (z := ((4 * d.Cell) + d.Dir)) (hO₁₂.sl 0 rfl : Sl e_bool k₉ v₂ met3) rfl rfl c₁₁) (zq (hO₁₂.ste (E := e_bool) (y := true) (ws := [.b true]) 0 rfl rfl (Zq c₁₁) rfl rfl ⟨rfl, Nat.le_of_ble_eq_true rfl, rfl⟩ rfl) ?_)))))
        rintro _ k₁₀ ⟨rfl, f₄, m₂, hW⟩
        have hO₁₃ : Own B h k₁₀ [eSl e_bool v₂ (met3.set ((4 * d.Cell) + d.Dir : Int).toNat true), eSl eV v₅ vs₄, eAll Zi vs₄ out2, eSl Zi v₇ f, eBox r₂ (Zi.c d)] := hW
        refine Zh (Ze (W_sq (W_rg (Zb (a_mv (v := v₇) q₆_7) (Zb (a_ldbA (cs := (Zi.c d)) (ws := Zi.c d) (hO₁₃.box 4 rfl) q₆_8 rfl) (zq (hO₁₃.bsl (E := Zi) (l := [d]) hO₁₃.fr (by rw [(zc (v := .ag (Zi.c d)) rfl ev_nil)]; rfl) rfl) ?_))))))
        rintro v₉ k₁₁ ⟨r₃, f₅, hW⟩
        have hO₁₄ : Own B h k₁₁ [eSl e_bool v₂ (met3.set ((4 * d.Cell) + d.Dir : Int).toNat true), eSl eV v₅ vs₄, eAll Zi vs₄ out2, eSl Zi v₇ f, eBox r₂ (Zi.c d), eSl Zi v₉ [d]] := hW
        obtain ⟨c₁₂, hp⟩ := Zo hp
        refine zq (hO₁₄.app (E := Zi) (bytes := 16) 3 hO₁₄.fr rfl (hO₁₄.sl 5 rfl : Sl Zi k₁₁ v₉ [d]) rfl rfl (fun _ => rfl) c₁₂ (by decide)) ?_
        rintro v₁₀ k₁₂ ⟨f₆, hW⟩
        have hO₁₅ : Own B h k₁₂ [eSl e_bool v₂ (met3.set ((4 * d.Cell) + d.Dir : Int).toNat true), eSl eV v₅ vs₄, eAll Zi vs₄ out2, eSl Zi v₁₀ (f ++ [d]), eBox r₂ (Zi.c d), eSl Zi v₉ [d]] := hW
        refine Zb (a_mv (v := v₁₀) rfl) (Zh (Ze (W_rg (Zb (a_mv (v := v_l) q₆_0) (Zb (a_ldbA (cs := (Zi.c d)) (ws := Zi.c d) (hO₁₅.box 4 rfl) q₆_8 rfl) ?_)))))
        obtain ⟨x, hx₁, hp⟩ := Zt hp
        obtain ⟨u₁, k₁₃, ca₁, rfl, hW₁⟩ := zr.ok (h := k₁₂)  (hO₁₅.rd0 s_l.rd : Sl Zf k₁₂ v_l l) hx₁
        refine Zaj (id := 202) (caps := []) rfl (Z7 (v := v_l) rfl (Z7 (v := .ag (Zi.c d)) rfl zl)) ca₁ ?_
        have hO₁₆ : Own B h k₁₃ [eSl e_bool v₂ (met3.set ((4 * d.Cell) + d.Dir : Int).toNat true), eSl eV v₅ vs₄, eAll Zi vs₄ out2, eSl Zi v₁₀ (f ++ [d]), eBox r₂ (Zi.c d), eSl Zi v₉ [d]] := hO₁₅.call hW₁ rfl
        refine zq (hO₁₆.stb (ws := Zi.c x) (cs' := Zi.c x) (v := .ag (Zi.c x)) 4 rfl q₆_8 rfl rfl ⟨rfl, Nat.le_of_ble_eq_true rfl, rfl⟩ rfl) ?_
        rintro _ k₁₄ ⟨rfl, f₇, m₃, hW⟩
        have hO₁₇ : Own B h k₁₄ [eSl e_bool v₂ (met3.set ((4 * d.Cell) + d.Dir : Int).toNat true), eSl eV v₅ vs₄, eAll Zi vs₄ out2, eSl Zi v₁₀ (f ++ [d]), eBox r₂ (Zi.c x), eSl Zi v₉ [d]] := hW
        refine Zh (zL ?_)
        have hp := Option.some.inj hp; subst hp
        exact (Or.inl (Exists.intro (met3.set ((4 * d.Cell) + d.Dir : Int).toNat true, f ++ [d], x) (And.intro rfl (And.intro rfl (Exists.intro v₁₀ (And.intro (q₆_0) (And.intro (q₆_3) (And.intro (q₆_4) (And.intro (q₆_5) (And.intro (q₆_6) (And.intro (rfl) (And.intro (q₆_8) (hO₁₇.pick [0, 1, 2, 3, 4] rfl (by decide))))))))))))))
       ·refine W_cF (t := (!(gi met3 ((4 * d.Cell) + d.Dir : Int).toNat))) rfl b₅ ?_
        refine W_ex (zC ?_)
        have hp := Option.some.inj hp; subst hp
        refine (Or.inr (Exists.intro (met3, f) (And.intro rfl (And.intro (fun h => nomatch h) (fun he => ?_)))))
        subst he; exact (And.intro rfl (Exists.intro v₇ (And.intro (q₆_0) (And.intro (q₆_3) (And.intro (q₆_4) (And.intro (q₆_5) (And.intro (q₆_6) (And.intro (q₆_7) (hO₁₂.pick [0, 1, 2, 3] rfl (by decide))))))))))
      intro e₃ q₅ k₈ hJ₃
      obtain ⟨met4, f1⟩ := o₅
      obtain ⟨rfl, v₈, q₅_0, q₅_3, q₅_4, q₅_5, q₅_6, q₅_7, hO₁₀⟩ := hJ₃
      refine zS (Ze (W_rg (Zb (a_mv (v := v₅) q₅_4) (Zb (a_mv (v := v₈) q₅_7) (zq (hO₁₀.bsl (E := eV) (l := [v₈]) hO₁₀.fr (by rw [(zc (v := v₈) rfl ev_nil)]; simp [fill, over, (hO₁₀.sl 3 rfl : Sl Zi k₈ v₈ f1).cells]) rfl) ?_)))))
      rintro v₁₁ k₁₅ ⟨r₄, f₈, hW⟩
      have hO₁₈ : Own B h k₁₅ [eSl e_bool v₂ met4, eSl eV v₅ vs₄, eAll Zi vs₄ out2, eSl Zi v₈ f1, eSl eV v₁₁ [v₈]] := hW
      obtain ⟨c₁₃, hp⟩ := Zo hp
      refine zq (hO₁₈.appV (bytes := 24) 1 hO₁₈.fr rfl (hO₁₈.sl 4 rfl : Sl eV k₁₅ v₁₁ [v₈]) rfl rfl (by simp only [List.all_cons, List.all_nil, Bool.and_true]; exact (hO₁₈.sl 3 rfl : Sl Zi k₁₅ v₈ f1).oneV) (by rw [(hO₁₈.allLen 2 rfl : (vs₄).length = (out2).length)]; exact c₁₃) (by decide)) ?_
      rintro v₁₂ k₁₆ ⟨f₉, hW⟩
      have hO₁₉ : Own B h k₁₆ [eSl e_bool v₂ met4, eSl eV v₁₂ (vs₄ ++ [v₈]), eAll Zi vs₄ out2, eSl Zi v₈ f1, eSl eV v₁₁ [v₈]] := hW
      have hO₂₀ : Own B h k₁₆ [eSl e_bool v₂ met4, eSl eV v₁₂ (vs₄ ++ [v₈]), eAll Zi (vs₄ ++ [v₈]) (out2 ++ [f1]), eNone, eSl eV v₁₁ [v₈]] := hO₁₉.absorb 2 3 rfl rfl (by decide)
      refine Zb (a_mv (v := v₁₂) rfl) (Zh (zL (Ze (W_rg (Zb (a_mv (v := .i .i64 e_) q₅_6) ?_)))))
      obtain ⟨c₁₄, hp⟩ := Zo hp
      refine Zb (a_add (a := e_) (b := 1) rfl rfl c₁₄) (Zb (a_mv (v := .i .i64 (e_ + 1)) rfl) (Zh ?_))
      have hp := Option.some.inj hp; subst hp
      exact (Or.inl (Exists.intro (met4, out2 ++ [f1], e_ + 1) (And.intro rfl (And.intro rfl (Exists.intro v₁₂ (Exists.intro (vs₄ ++ [v₈]) (And.intro (q₅_0) (And.intro (q₅_3) (And.intro (rfl) (And.intro (q₅_5) (And.intro (rfl) (hO₂₀.pick [0, 1, 2] rfl (by decide)))))))))))))
    ·refine W_cF (t := (decide (e_ < 4))) rfl b₂ ?_
     refine W_ex (zC ?_)
     have hp := Option.some.inj hp; subst hp
     refine (Or.inr (Exists.intro (met1, out2) (And.intro rfl (And.intro (fun h => nomatch h) (fun he => ?_)))))
     subst he; exact (And.intro rfl (Exists.intro v₅ (Exists.intro vs₄ (And.intro (q₄_0) (And.intro (q₄_3) (And.intro (q₄_4) (And.intro (q₄_5) (hO₇.pick [0, 1, 2] rfl (by decide)))))))))
   intro e₂ q₃ k₄ hJ₂
   obtain ⟨met2, out3⟩ := o₃
   obtain ⟨rfl, v₆, vs₅, q₃_0, q₃_3, q₃_4, q₃_5, hO₆⟩ := hJ₂
   refine zS (zL (Ze (W_rg (Zb (a_mv (v := .i .i64 v) q₃_5) ?_))))
   obtain ⟨c₁₅, hp⟩ := Zo hp
   refine Zb (a_add (a := v) (b := 1) rfl rfl c₁₅) (Zb (a_mv (v := .i .i64 (v + 1)) rfl) (Zh ?_))
   have hp := Option.some.inj hp; subst hp
   exact (Or.inl (Exists.intro (met2, out3, v + 1) (And.intro rfl (And.intro rfl (Exists.intro v₆ (Exists.intro vs₅ (And.intro (q₃_0) (And.intro (q₃_3) (And.intro (q₃_4) (And.intro (rfl) (hO₆.pick [0, 1, 2] rfl (by decide))))))))))))
  ·refine W_cF (t := (decide (v < (l.length : Int)))) rfl b₁ ?_
   refine W_ex (zC ?_)
   have hp := Option.some.inj hp; subst hp
   refine (Or.inr (Exists.intro out (And.intro rfl (And.intro (fun h => nomatch h) (fun he => ?_)))))
   subst he; exact (And.intro rfl (Exists.intro v₃ (Exists.intro vs₂ (And.intro (q₂_4) (hO₅.pick [1, 2] rfl (by decide))))))
 intro e₁ q₁ k₂ hJ₁
 obtain ⟨out1, rfl⟩ : ∃ x, x = o₁ := ⟨_, rfl⟩
 obtain ⟨rfl, v₄, vs₃, q₁_4, hO₂⟩ := hJ₁
 refine zS (Ze (W_sq (W_rg (Zb (a_mv (v := v₄) q₁_4) (Zb (a_mv (v := v₄) rfl) (Zh (Ze ?_)))))))
 refine W_rt (Ret_r (rs_t (n := 2) (v := v₄) rfl rs_nil) ?_)
 have hp := Option.some.inj hp; subst hp
 exact (Exists.intro v₄ (Exists.intro vs₃ (And.intro rfl (hO₂.pick [0, 1] rfl (by decide)))))

theorem Zaa.ok {h : Hp} {d : Int}   {r : Bool} (hp : Zaa d = some r) :
  ∃ u k', Is G 223 [.i .i64 d] h u k' ∧ V.b r = u ∧ Own (fun r => r < h.n) h k' [] := by
 refine WC.is (WC_of G_F_muntinref01_Good ?_)
 unfold Zaa at hp
 let B : Nat → Prop := (fun r => r < h.n)
 have hO : Own B h h [] := Own.start0 h
 refine W_sq (W_rg (Zb (a_mv (v := .b false) rfl) (Zh (Ze (W_sq (W_rg (Zb (a_mv (v := .i .i64 d) rfl) ?_)))))))
 refine Zb (a_geq (a := d) (b := 0) rfl rfl) (Zb (a_mv (v := .b (decide (0 ≤ d))) rfl) ?_)
 refine zX 3 (fun fr' k' => h = k' ∧ fr' 8 = .b ((decide (0 ≤ d)) && (decide (d ≤ 3)))) ?_ ?_
 ·rcases bc (decide (0 ≤ d)) with b₁ | b₁
  ·skip
   refine WO_on rfl b₁ (Zb (a_mv (v := .i .i64 d) rfl) (WO_on rfl b₁ (Zb (a_leq (a := d) (b := 3) rfl rfl) (Zb (zk (t := (decide (0 ≤ d))) (v := .b ((decide (0 ≤ d)) && (decide (d ≤ 3)))) rfl b₁ (Eq.trans (b := V.b (decide (d ≤ 3))) rfl (ZaD b₁))) (Zh ?_)))))
   exact ⟨rfl, rfl⟩
  ·skip
   refine WO_off rfl b₁ (WO_off rfl b₁ (Zb (zi (t := (decide (0 ≤ d))) (v := .b ((decide (0 ≤ d)) && (decide (d ≤ 3)))) rfl b₁ (Eq.trans (b := V.b false) rfl (Za2 b₁))) (Zh ?_)))
   exact ⟨rfl, rfl⟩
 rintro frg₁ _ ⟨rfl, g₁_8⟩
 refine Zb (a_mv (v := .b ((decide (0 ≤ d)) && (decide (d ≤ 3)))) g₁_8) (Zh (Ze (W_rt (Ret_r (rs_t (n := 2) (v := .b ((decide (0 ≤ d)) && (decide (d ≤ 3)))) rfl rs_nil) ?_))))
 have hp := Option.some.inj hp; subst hp
 exact (And.intro rfl (hO.pick [] rfl (by decide)))

theorem Zaq.ok {h : Hp} {d : Int} {times : Int}   {r : Int} (hp : Zaq d times = some r) :
  ∃ u k', Is G 224 [.i .i64 d, .i .i64 times] h u k' ∧ V.i .i64 r = u ∧ Own (fun r => r < h.n) h k' [] := by
 refine WC.is (WC_of G_F_muntinref01_Left ?_)
 unfold Zaq at hp
 let B : Nat → Prop := (fun r => r < h.n)
 have hO : Own B h h [] := Own.start0 h
 refine W_sq (W_rg (Zb (a_mv (v := .i .i64 0) rfl) (Zh (Ze (W_sq (W_rg (Zb (a_mv (v := .i .i64 d) rfl) ?_)))))))
 obtain ⟨x, hx₁, hp⟩ := Zt hp
 obtain ⟨u₁, k₁, ca₁, rfl, hW₁⟩ := Zaa.ok (h := h)   hx₁
 refine Zaj (id := 223) (caps := []) rfl (Z7 (v := .i .i64 d) rfl zl) ca₁ ?_
 have hO₁ : Own B h k₁ [] := hO.call hW₁ rfl
 refine Zb (a_mv (v := .b x) rfl) (Zh (Ze (W_sq (W_sq (W_rg (Zb (a_mv (v := .b x) rfl) (Zb (a_not (t := x) rfl) ?_)))))))
 refine Zh (Ze ?_)
 rcases Zv hp with ⟨b₁, hp⟩ | ⟨b₁, hp⟩
 ·refine W_cT (t := (!x)) rfl b₁ ?_
  refine W_sq (W_rg (Zb (a_mv (v := .i .i64 0) rfl) (Zh (Ze (W_rt (zy (Ret_r (rs_t (n := 4) (v := .i .i64 0) rfl rs_nil) ?_)))))))
  have hp := Option.some.inj hp; subst hp
  exact (And.intro rfl (hO₁.pick [] rfl (by decide)))
 ·refine W_cF (t := (!x)) rfl b₁ ?_
  refine W_sk (Ze (W_sq (W_rg (Zb (a_mv (v := .i .i64 times) rfl) (Zb (a_rem (a := times) (b := 4) rfl rfl (by decide)) (Zb (a_mv (v := .i .i64 (times.tmod 4)) rfl) (Zh ?_)))))))
  refine Ze (W_sq (W_sq (W_rg (Zb (a_mv (v := .i .i64 (times.tmod 4)) rfl) (Zb (a_lss (a := (times.tmod 4)) (b := 0) rfl rfl) (Zh (Ze ?_)))))))
  rcases Zv hp with ⟨b₂, hp⟩ | ⟨b₂, hp⟩
  ·refine W_cT (t := (decide ((times.tmod 4) < 0))) rfl b₂ ?_
   refine W_rg (Zb (a_mv (v := .i .i64 (times.tmod 4)) rfl) ?_)
   obtain ⟨c₁, hp⟩ := Zo hp
   refine Zb (a_add (a := (times.tmod 4)) (b := 4) rfl rfl c₁) (Zb (a_mv (v := .i .i64 ((times.tmod 4) + 4)) rfl) (Zh (Ze (W_sq (W_rg (Zb (a_mv (v := .i .i64 d) rfl) (Zb (a_mv (v := .i .i64 ((times.tmod 4) + 4)) rfl) ?_)))))))
   obtain ⟨c₂, hp⟩ := Zo hp
   refine Zb (a_add (a := d) (b := ((times.tmod 4) + 4)) rfl rfl c₂) (Zb (a_rem (a := (d + ((times.tmod 4) + 4))) (b := 4) rfl rfl (by decide)) (Zb (a_mv (v := .i .i64 ((d + ((times.tmod 4) + 4)).tmod 4)) rfl) (Zh (Ze (W_rt (Ret_r (rs_t (n := 4) (v := .i .i64 ((d + ((times.tmod 4) + 4)).tmod 4)) rfl rs_nil) ?_))))))
   have hp := Option.some.inj hp; subst hp
   exact (And.intro rfl (hO₁.pick [] rfl (by decide)))
  ·refine W_cF (t := (decide ((times.tmod 4) < 0))) rfl b₂ ?_
   refine W_sk (Ze (W_sq (W_rg (Zb (a_mv (v := .i .i64 d) rfl) (Zb (a_mv (v := .i .i64 (times.tmod 4)) rfl) ?_)))))
   obtain ⟨c₃, hp⟩ := Zo hp
   refine Zb (a_add (a := d) (b := (times.tmod 4)) rfl rfl c₃) (Zb (a_rem (a := (d + (times.tmod 4))) (b := 4) rfl rfl (by decide)) (Zb (a_mv (v := .i .i64 ((d + (times.tmod 4)).tmod 4)) rfl) (Zh (Ze (W_rt (Ret_r (rs_t (n := 4) (v := .i .i64 ((d + (times.tmod 4)).tmod 4)) rfl rs_nil) ?_))))))
   have hp := Option.some.inj hp; subst hp
   exact (And.intro rfl (hO₁.pick [] rfl (by decide)))

theorem Zao.ok {h : Hp} {d : Int} {e_ : Int}   {r : Int} (hp : Zao d e_ = some r) :
  ∃ u k', Is G 207 [.i .i64 d, .i .i64 e_] h u k' ∧ V.i .i64 r = u ∧ Own (fun r => r < h.n) h k' [] := by
 refine WC.is (WC_of G_F_muntinref01_Turn ?_)
 unfold Zao at hp
 let B : Nat → Prop := (fun r => r < h.n)
 have hO : Own B h h [] := Own.start0 h
 refine W_sq (W_rg (Zb (a_mv (v := .i .i64 0) rfl) (Zh (Ze (W_sq (W_rg (Zb (a_mv (v := .i .i64 d) rfl) ?_)))))))
 obtain ⟨x, hx₁, hp⟩ := Zt hp
 obtain ⟨u₁, k₁, ca₁, rfl, hW₁⟩ := Zaa.ok (h := h)   hx₁
 refine Zaj (id := 223) (caps := []) rfl (Z7 (v := .i .i64 d) rfl zl) ca₁ ?_
 have hO₁ : Own B h k₁ [] := hO.call hW₁ rfl
 refine Zb (a_mv (v := .b x) rfl) (Zh (Ze (W_sq (W_rg (Zb (a_mv (v := .i .i64 e_) rfl) ?_)))))
 obtain ⟨x1, hx₂, hp⟩ := Zt hp
 obtain ⟨u₂, k₂, ca₂, rfl, hW₂⟩ := Zaa.ok (h := k₁)   hx₂
 refine Zaj (id := 223) (caps := []) rfl (Z7 (v := .i .i64 e_) rfl zl) ca₂ ?_
 have hO₂ : Own B h k₂ [] := hO₁.call hW₂ rfl
 refine Zb (a_mv (v := .b x1) rfl) (Zh (Ze (W_sq (W_sq (W_rg (Zb (a_mv (v := .b x) rfl) (Zb (a_not (t := x) rfl) ?_)))))))
 refine Zb (a_mv (v := .b (!x)) rfl) ?_
 refine zX 3 (fun fr' k' => k₂ = k' ∧ fr' 17 = .b ((!x) || (!x1)) ∧ fr' 0 = .i .i64 d ∧ fr' 1 = .i .i64 e_) ?_ ?_
 ·rcases bc (!x) with b₁ | b₁
  ·skip
   refine WO_off rfl b₁ (WO_off rfl b₁ (Zb (zk (t := (!x)) (v := .b ((!x) || (!x1))) rfl b₁ (Eq.trans (b := V.b true) rfl (ZaA b₁))) (Zh ?_)))
   exact ⟨rfl, rfl, rfl, rfl⟩
  ·skip
   refine WO_on rfl b₁ (Zb (a_mv (v := .b x1) rfl) (WO_on rfl b₁ (Zb (a_not (t := x1) rfl) (Zb (zi (t := (!x)) (v := .b ((!x) || (!x1))) rfl b₁ (Eq.trans (b := V.b (!x1)) rfl (ZaH b₁))) (Zh ?_)))))
   exact ⟨rfl, rfl, rfl, rfl⟩
 rintro frg₁ _ ⟨rfl, g₁_17, g₁_0, g₁_1⟩
 refine Zb (a_mv (v := .b ((!x) || (!x1))) g₁_17) ?_
 refine zX 4 (fun fr' k' => k₂ = k' ∧ fr' 22 = .b (((!x) || (!x1)) || (decide (d = e_))) ∧ fr' 0 = .i .i64 d ∧ fr' 1 = .i .i64 e_) ?_ ?_
 ·rcases bc ((!x) || (!x1)) with b₂ | b₂
  ·skip
   refine WO_off rfl b₂ (WO_off rfl b₂ (WO_off rfl b₂ (Zb (zk (t := ((!x) || (!x1))) (v := .b (((!x) || (!x1)) || (decide (d = e_)))) rfl b₂ (Eq.trans (b := V.b true) rfl (ZaA b₂))) (Zh ?_))))
   exact ⟨rfl, rfl, g₁_0, g₁_1⟩
  ·skip
   refine WO_on rfl b₂ (Zb (a_mv (v := .i .i64 d) g₁_0) (WO_on rfl b₂ (Zb (a_mv (v := .i .i64 e_) g₁_1) (WO_on rfl b₂ (Zb (a_eqI (a := d) (b := e_) rfl rfl) (Zb (zi (t := ((!x) || (!x1))) (v := .b (((!x) || (!x1)) || (decide (d = e_)))) rfl b₂ (Eq.trans (b := V.b (decide (d = e_))) rfl (ZaH b₂))) (Zh ?_)))))))
   exact ⟨rfl, rfl, g₁_0, g₁_1⟩
 rintro frg₂ _ ⟨rfl, g₂_22, g₂_0, g₂_1⟩
 refine Zh (Ze ?_)
 rcases Zv hp with ⟨b₃, hp⟩ | ⟨b₃, hp⟩
 ·refine W_cT (t := (((!x) || (!x1)) || (decide (d = e_)))) g₂_22 b₃ ?_
  refine W_sq (W_rg (Zb (a_mv (v := .i .i64 0) rfl) (Zh (Ze (W_rt (zy (Ret_r (rs_t (n := 4) (v := .i .i64 0) rfl rs_nil) ?_)))))))
  have hp := Option.some.inj hp; subst hp
  exact (And.intro rfl (hO₂.pick [] rfl (by decide)))
 ·refine W_cF (t := (((!x) || (!x1)) || (decide (d = e_)))) g₂_22 b₃ ?_
  refine W_sk (Ze (W_sq (W_rg (Zb (a_mv (v := .i .i64 d) g₂_0) ?_))))
  obtain ⟨x2, hx₃, hp⟩ := Zt hp
  obtain ⟨u₃, k₃, ca₃, rfl, hW₃⟩ := Zaq.ok (h := k₂)   hx₃
  refine Zaj (id := 224) (caps := []) rfl (Z7 (v := .i .i64 d) rfl (Z7 (v := .i .i64 1) rfl zl)) ca₃ ?_
  have hO₃ : Own B h k₃ [] := hO₂.call hW₃ rfl
  refine Zb (a_mv (v := .i .i64 x2) rfl) (Zh (Ze (W_sq (W_sq (W_rg (Zb (a_mv (v := .i .i64 x2) rfl) (Zb (a_mv (v := .i .i64 e_) g₂_1) ?_)))))))
  refine Zb (a_eqI (a := x2) (b := e_) rfl rfl) (Zh (Ze ?_))
  rcases Zv hp with ⟨b₄, hp⟩ | ⟨b₄, hp⟩
  ·refine W_cT (t := (decide (x2 = e_))) rfl b₄ ?_
   refine W_sq (W_rg (Zb (a_mv (v := .i .i64 1) rfl) (Zh (Ze (W_rt (zy (Ret_r (rs_t (n := 4) (v := .i .i64 1) rfl rs_nil) ?_)))))))
   have hp := Option.some.inj hp; subst hp
   exact (And.intro rfl (hO₃.pick [] rfl (by decide)))
  ·refine W_cF (t := (decide (x2 = e_))) rfl b₄ ?_
   refine W_sk (Ze (W_sq (W_rg (Zb (a_mv (v := .i .i64 d) g₂_0) ?_))))
   obtain ⟨x3, hx₄, hp⟩ := Zt hp
   obtain ⟨u₄, k₄, ca₄, rfl, hW₄⟩ := Zaq.ok (h := k₃)   hx₄
   refine Zaj (id := 224) (caps := []) rfl (Z7 (v := .i .i64 d) rfl (Z7 (v := .i .i64 3) rfl zl)) ca₄ ?_
   have hO₄ : Own B h k₄ [] := hO₃.call hW₄ rfl
   refine Zb (a_mv (v := .i .i64 x3) rfl) (Zh (Ze (W_sq (W_sq (W_rg (Zb (a_mv (v := .i .i64 x3) rfl) (Zb (a_mv (v := .i .i64 e_) g₂_1) ?_)))))))
   refine Zb (a_eqI (a := x3) (b := e_) rfl rfl) (Zh (Ze ?_))
   rcases Zv hp with ⟨b₅, hp⟩ | ⟨b₅, hp⟩
   ·refine W_cT (t := (decide (x3 = e_))) rfl b₅ ?_
    refine W_sq (W_rg (Zb (a_mv (v := .i .i64 (-1)) rfl) (Zh (Ze (W_rt (zy (Ret_r (rs_t (n := 4) (v := .i .i64 (-1)) rfl rs_nil) ?_)))))))
    have hp := Option.some.inj hp; subst hp
    exact (And.intro rfl (hO₄.pick [] rfl (by decide)))
   ·refine W_cF (t := (decide (x3 = e_))) rfl b₅ ?_
    refine W_sk (Ze (W_sq (W_rg (Zb (a_mv (v := .i .i64 (-2)) rfl) (Zh (Ze (W_rt ?_)))))))
    refine Ret_r (rs_t (n := 4) (v := .i .i64 (-2)) rfl rs_nil) ?_
    have hp := Option.some.inj hp; subst hp
    exact (And.intro rfl (hO₄.pick [] rfl (by decide)))

theorem zA.ok {h : Hp} {l : List Zk} {f : List Zr} {v_l : V} {v_f : V} (s_l : Sl Zf h v_l l) (s_f : Sl Zi h v_f f) {r : (List Int)} (hp : zA l f = some r) :
  ∃ u k', Is G 182 [v_l, v_f] h u k' ∧ ∃ (v₁ : V), v₁ = u ∧ Own (fun r => r < h.n) h k' [eSl eInt v₁ r] := by
 refine WC.is (WC_of G_F_muntinref12_Turns ?_)
 unfold zA at hp
 let B : Nat → Prop := (fun r => r < h.n)
 have hO : Own B h h [] := Own.start0 h
 refine W_sq (W_rg (Zb (a_mv (v := .sn) rfl) (Zh (Ze (W_sq (W_rg (Zb (a_mv (v := .sn) rfl) ?_)))))))
 refine Zh (Ze (W_sq (W_sq (W_rg (Zb (a_mv (v := .i .i64 0) rfl) (Zh (Ze ?_)))))))
 refine W_bl ?_
 obtain ⟨o₁, ho₁, hp⟩ := Zt hp
 refine W.mono (Q := fun e fr k => match (generalizing := false) o₁ with
   | out1 => e = (.exit 0) ∧ ∃ (v₃ : V), fr 5 = v₃ ∧ Own B h k [eSl eInt v₃ out1]) ?_ ?_
 ·clear hp
  have hO₂ : Own B h h [eSl eInt .sn ([] : List Int)] := hO.nil eInt
  refine z3 (fun st fr k => match st with | (out, i) => ∃ (v₂ : V), fr 0 = v_l ∧ fr 1 = v_f ∧ fr 5 = v₂ ∧ fr 6 = .i .i64 i ∧ Own B h k [eSl eInt v₂ out]) ho₁ (s := (([] : List Int), 0)) (Exists.intro V.sn (And.intro (rfl) (And.intro (rfl) (And.intro (rfl) (And.intro (rfl) (hO₂.pick [0] rfl (by decide))))))) ?_
  rintro ⟨out, i⟩ q₂ k₂ ⟨v₂, q₂_0, q₂_1, q₂_5, q₂_6, hO₃⟩ o₂ hp
  dsimp only [zA.s0] at hp
  refine W_sq (W_sq (W_rg (Zb (a_mv (v := .i .i64 i) q₂_6) (Zb (a_mv (v := v_f) q₂_1) (Zb (a_len (hO₃.rd0 s_f.rd : Sl Zi k₂ v_f f) rfl) (Zb (a_lss (a := i) (b := (f.length : Int)) rfl rfl) (Zh ?_)))))))
  refine Ze ?_
  rcases Zv hp with ⟨b₁, hp⟩ | ⟨b₁, hp⟩
  ·refine W_cT (t := (decide (i < (f.length : Int)))) rfl b₁ ?_
   refine W_sk (Ze (W_sq (W_bl (W_sq (W_rg (Zb (a_mv (v := v_l) q₂_0) (Zb (a_mv (v := v_f) q₂_1) ?_)))))))
   refine Zb (a_mv (v := .i .i64 i) q₂_6) ?_
   obtain ⟨c₁, hp⟩ := Zo hp
   refine Zb (a_ixa (E := Zi) (z := i) (hO₃.rd0 s_f.rd : Sl Zi k₂ v_f f) rfl rfl c₁) (Zb (ZaL (E := Zi) (hO₃.rd0 s_f.rd : Sl Zi k₂ v_f f) rfl (Zq c₁)) ?_)
   obtain ⟨x, hx₁, hp⟩ := Zt hp
   obtain ⟨u₁, k₃, ca₁, rfl, hW₁⟩ := zr.ok (h := k₂)  (hO₃.rd0 s_l.rd : Sl Zf k₂ v_l l) hx₁
   refine Zaj (id := 202) (caps := []) rfl (Z7 (v := v_l) rfl (Z7 (v := .ag (Zi.c (gi f (i : Int).toNat))) rfl zl)) ca₁ ?_
   have hO₄ : Own B h k₃ [eSl eInt v₂ out] := hO₃.call hW₁ rfl
   refine zq (hO₄.alloc (cs := Zi.c (⟨0, 0⟩ : Zr)) hO₄.fr) ?_
   rintro _ k₄ ⟨r₁, rfl, n₁, f₁, hW⟩
   have hO₅ : Own B h k₄ [eSl eInt v₂ out, eBox r₁ (Zi.c (⟨0, 0⟩ : Zr))] := hW
   refine zq (hO₅.stb (ws := Zi.c x) (cs' := Zi.c x) (v := .ag (Zi.c x)) 1 rfl rfl rfl rfl ⟨rfl, Nat.le_of_ble_eq_true rfl, rfl⟩ rfl) ?_
   rintro _ k₅ ⟨rfl, f₂, m₁, hW⟩
   have hO₆ : Own B h k₅ [eSl eInt v₂ out, eBox r₁ (Zi.c x)] := hW
   refine Zh (Ze (W_sq (W_dr ?_)))
   have hW := hO₆.bump 9
   have fr₁ := Fresh.start k₅ 9
   have nb₁ : ∀ {i : Nat}, h.n ≤ k₅.n + i := Nat.le_trans hO₆.n (Nat.le_add_right _ _)
   have hO₇ : Own B h (k₅.bump 9) [eSl eInt v₂ out, eBox r₁ (Zi.c x)] := hW
   refine zM (a_mv (v := v_f) q₂_1) (zM (a_mv (v := .i .i64 i) q₂_6) (zM (a_ixa (E := Zi) (z := i) (hO₇.rd0 s_f.rd : Sl Zi (k₅.bump 9) v_f f) rfl rfl c₁) (zM (Zan (off' := 0) (off2 := 1) (hO₇.rd0 s_f.rd : Sl Zi (k₅.bump 9) v_f f) (Zq c₁) rfl rfl) (zM (zH (w := .i .i64 ((gi f (i : Int).toNat).Dir)) (hO₇.rd0 s_f.rd : Sl Zi (k₅.bump 9) v_f f) rfl (Zq c₁) rfl) (zM (a_fa (r := r₁) (o := 0) (o' := 1) rfl rfl) (zM (Zaf (cs := (Zi.c x)) (v := .i .i64 x.Dir) (hO₇.box 1 rfl) rfl rfl) ?_))))))
   obtain ⟨x1, hx₂, hp⟩ := Zt hp
   obtain ⟨u₂, k₇, ca₂, rfl, hW₂⟩ := Zao.ok (h := (k₅.bump 9))   hx₂
   refine WD_c (id := 207) (caps := []) rfl (Z7 (v := .i .i64 ((gi f (i : Int).toNat).Dir)) rfl (Z7 (v := .i .i64 x.Dir) rfl zl)) ca₂ ?_
   have fr₂ := fr₁.call hW₂
   have hO₈ : Own B h k₇ [eSl eInt v₂ out, eBox r₁ (Zi.c x)] := hO₇.call hW₂ rfl
   refine zM (a_mv (v := .i .i64 x1) rfl) (WD_end ?_)
   refine And.intro ?_ ?_
   ·intro q hq
    simp only [List.mem_cons, List.not_mem_nil, or_false] at hq
    rcases hq with rfl
    ·refine ap_ll ?_ ?_
     ·exact (fun h => nomatch h)
     ·exact (fun h => nomatch h)
   refine Ze (W_rg (Zb (a_mv (v := v₂) q₂_5) (Zb (a_mv (v := .i .i64 x1) rfl) (zq (hO₈.bsl (E := eInt) (l := [x1]) hO₈.fr (by rw [(zc (v := .i .i64 x1) rfl ev_nil)]; rfl) rfl) ?_))))
   rintro v₄ k₈ ⟨r₂, f₃, hW⟩
   have hO₉ : Own B h k₈ [eSl eInt v₂ out, eBox r₁ (Zi.c x), eSl eInt v₄ [x1]] := hW
   obtain ⟨c₂, hp⟩ := Zo hp
   refine zq (hO₉.app (E := eInt) (bytes := 8) 0 hO₉.fr rfl (hO₉.sl 2 rfl : Sl eInt k₈ v₄ [x1]) rfl rfl (fun _ => rfl) c₂ (by decide)) ?_
   rintro v₅ k₉ ⟨f₄, hW⟩
   have hO₁₀ : Own B h k₉ [eSl eInt v₅ (out ++ [x1]), eBox r₁ (Zi.c x), eSl eInt v₄ [x1]] := hW
   refine Zb (a_mv (v := v₅) rfl) (Zh (zL (Ze (W_rg (Zb (a_mv (v := .i .i64 i) q₂_6) ?_)))))
   obtain ⟨c₃, hp⟩ := Zo hp
   refine Zb (a_add (a := i) (b := 1) rfl rfl c₃) (Zb (a_mv (v := .i .i64 (i + 1)) rfl) (Zh ?_))
   have hp := Option.some.inj hp; subst hp
   exact (Or.inl (Exists.intro (out ++ [x1], i + 1) (And.intro rfl (And.intro rfl (Exists.intro v₅ (And.intro (q₂_0) (And.intro (q₂_1) (And.intro (rfl) (And.intro (rfl) (hO₁₀.pick [0] rfl (by decide)))))))))))
  ·refine W_cF (t := (decide (i < (f.length : Int)))) rfl b₁ ?_
   refine W_ex (zC ?_)
   have hp := Option.some.inj hp; subst hp
   refine (Or.inr (Exists.intro out (And.intro rfl (And.intro (fun h => nomatch h) (fun he => ?_)))))
   subst he; exact (And.intro rfl (Exists.intro v₂ (And.intro (q₂_5) (hO₃.pick [0] rfl (by decide)))))
 intro e₁ q₁ k₁ hJ₁
 obtain ⟨out1, rfl⟩ : ∃ x, x = o₁ := ⟨_, rfl⟩
 obtain ⟨rfl, v₃, q₁_5, hO₁⟩ := hJ₁
 refine zS (Ze (W_sq (W_rg (Zb (a_mv (v := v₃) q₁_5) (Zb (a_mv (v := v₃) rfl) (Zh (Ze ?_)))))))
 refine W_rt (Ret_r (rs_t (n := 4) (v := v₃) rfl rs_nil) ?_)
 have hp := Option.some.inj hp; subst hp
 exact (Exists.intro v₃ (And.intro rfl (hO₁.pick [0] rfl (by decide))))

theorem z7.ok {h : Hp} {t : List Int} {v_t : V} (s_t : Sl eInt h v_t t) {r : Int} (hp : z7 t = some r) :
  ∃ u k', Is G 206 [v_t] h u k' ∧ V.i .i64 r = u ∧ Own (fun r => r < h.n) h k' [] := by
 refine WC.is (WC_of G_F_muntinref12_Rotation ?_)
 unfold z7 at hp
 let B : Nat → Prop := (fun r => r < h.n)
 have hO : Own B h h [] := Own.start0 h
 refine W_sq (W_rg (Zb (a_mv (v := .i .i64 0) rfl) (Zh (Ze (W_sq (W_rg (Zb (a_mv (v := .i .i64 0) rfl) ?_)))))))
 refine Zh (Ze (W_sq (W_sq (W_rg (Zb (a_mv (v := .i .i64 0) rfl) (Zh (Ze ?_)))))))
 refine W_bl ?_
 obtain ⟨o₁, ho₁, hp⟩ := Zt hp
 refine W.mono (Q := fun e fr k => match (generalizing := false) o₁ with
   | n1 => e = (.exit 0) ∧ fr 3 = .i .i64 n1 ∧ Own B h k []) ?_ ?_
 ·clear hp
  refine z3 (fun st fr k => match st with | (n, i) => fr 0 = v_t ∧ fr 3 = .i .i64 n ∧ fr 4 = .i .i64 i ∧ Own B h k []) ho₁ (s := (0, 0)) (And.intro (rfl) (And.intro (rfl) (And.intro (rfl) (hO.pick [] rfl (by decide))))) ?_
  rintro ⟨n, i⟩ q₂ k₂ ⟨q₂_0, q₂_3, q₂_4, hO₂⟩ o₂ hp
  dsimp only [z7.s0] at hp
  refine W_sq (W_sq (W_rg (Zb (a_mv (v := .i .i64 i) q₂_4) (Zb (a_mv (v := v_t) q₂_0) (Zb (a_len (hO₂.rd0 s_t.rd : Sl eInt k₂ v_t t) rfl) (Zb (a_lss (a := i) (b := (t.length : Int)) rfl rfl) (Zh ?_)))))))
  refine Ze ?_
  rcases Zv hp with ⟨b₁, hp⟩ | ⟨b₁, hp⟩
  ·refine W_cT (t := (decide (i < (t.length : Int)))) rfl b₁ ?_
   refine W_sk (Ze (W_sq (W_bl (W_sq (W_rg (Zb (a_mv (v := v_t) q₂_0) (Zb (a_mv (v := .i .i64 i) q₂_4) ?_)))))))
   obtain ⟨c₁, hp⟩ := Zo hp
   refine Zb (a_ixa (E := eInt) (z := i) (hO₂.rd0 s_t.rd : Sl eInt k₂ v_t t) rfl rfl c₁) (Zb (zH (w := .i .i64 (gi t (i : Int).toNat)) (hO₂.rd0 s_t.rd : Sl eInt k₂ v_t t) rfl (Zq c₁) rfl) (Zb (a_geq (a := (gi t (i : Int).toNat)) (b := (-2)) rfl rfl) (Zb (a_mv (v := .b (decide ((-2) ≤ (gi t (i : Int).toNat)))) rfl) ?_)))
   refine zX 6 (fun fr' k' => k₂ = k' ∧ fr' 22 = .b ((decide ((-2) ≤ (gi t (i : Int).toNat))) && (decide ((gi t (i : Int).toNat) ≤ 1))) ∧ fr' 0 = v_t ∧ fr' 3 = .i .i64 n ∧ fr' 4 = .i .i64 i) ?_ ?_
   ·rcases bc (decide ((-2) ≤ (gi t (i : Int).toNat))) with b₂ | b₂
    ·skip
     refine WO_on rfl b₂ (Zb (a_mv (v := v_t) q₂_0) (WO_on rfl b₂ (Zb (a_mv (v := .i .i64 i) q₂_4) (WO_on rfl b₂ (Zb (a_ixa (E := eInt) (z := i) (hO₂.rd0 s_t.rd : Sl eInt k₂ v_t t) rfl rfl c₁) (WO_on rfl b₂ (Zb (zH (w := .i .i64 (gi t (i : Int).toNat)) (hO₂.rd0 s_t.rd : Sl eInt k₂ v_t t) rfl (Zq c₁) rfl) ?_)))))))
     refine WO_on rfl b₂ (Zb (a_leq (a := (gi t (i : Int).toNat)) (b := 1) rfl rfl) (Zb (zk (t := (decide ((-2) ≤ (gi t (i : Int).toNat)))) (v := .b ((decide ((-2) ≤ (gi t (i : Int).toNat))) && (decide ((gi t (i : Int).toNat) ≤ 1)))) rfl b₂ (Eq.trans (b := V.b (decide ((gi t (i : Int).toNat) ≤ 1))) rfl (ZaD b₂))) (Zh ?_)))
     exact ⟨rfl, rfl, q₂_0, q₂_3, q₂_4⟩
    ·skip
     refine WO_off rfl b₂ (WO_off rfl b₂ (WO_off rfl b₂ (WO_off rfl b₂ (WO_off rfl b₂ (Zb (zi (t := (decide ((-2) ≤ (gi t (i : Int).toNat)))) (v := .b ((decide ((-2) ≤ (gi t (i : Int).toNat))) && (decide ((gi t (i : Int).toNat) ≤ 1)))) rfl b₂ (Eq.trans (b := V.b false) rfl (Za2 b₂))) (Zh ?_))))))
     exact ⟨rfl, rfl, q₂_0, q₂_3, q₂_4⟩
   rintro frg₁ _ ⟨rfl, g₁_22, g₁_0, g₁_3, g₁_4⟩
   refine Zh (Ze ?_)
   rcases Zv hp with ⟨b₃, hp⟩ | ⟨b₃, hp⟩
   ·refine W_cT (t := ((decide ((-2) ≤ (gi t (i : Int).toNat))) && (decide ((gi t (i : Int).toNat) ≤ 1)))) g₁_22 b₃ ?_
    refine W_rg (Zb (a_mv (v := .i .i64 n) g₁_3) (Zb (a_mv (v := v_t) g₁_0) (Zb (a_mv (v := .i .i64 i) g₁_4) (Zb (a_ixa (E := eInt) (z := i) (hO₂.rd0 s_t.rd : Sl eInt k₂ v_t t) rfl rfl c₁) (Zb (zH (w := .i .i64 (gi t (i : Int).toNat)) (hO₂.rd0 s_t.rd : Sl eInt k₂ v_t t) rfl (Zq c₁) rfl) ?_)))))
    obtain ⟨c₂, hp⟩ := Zo hp
    refine Zb (a_add (a := n) (b := (gi t (i : Int).toNat)) rfl rfl c₂) (Zb (a_mv (v := .i .i64 (n + (gi t (i : Int).toNat))) rfl) (Zh (zL (Ze (W_rg (Zb (a_mv (v := .i .i64 i) g₁_4) ?_))))))
    obtain ⟨c₃, hp⟩ := Zo hp
    refine Zb (a_add (a := i) (b := 1) rfl rfl c₃) (Zb (a_mv (v := .i .i64 (i + 1)) rfl) (Zh ?_))
    have hp := Option.some.inj hp; subst hp
    exact (Or.inl (Exists.intro (n + (gi t (i : Int).toNat), i + 1) (And.intro rfl (And.intro rfl (And.intro (g₁_0) (And.intro (rfl) (And.intro (rfl) (hO₂.pick [] rfl (by decide)))))))))
   ·refine W_cF (t := ((decide ((-2) ≤ (gi t (i : Int).toNat))) && (decide ((gi t (i : Int).toNat) ≤ 1)))) g₁_22 b₃ ?_
    refine W_sk (zL (Ze (W_rg (Zb (a_mv (v := .i .i64 i) g₁_4) ?_))))
    obtain ⟨c₄, hp⟩ := Zo hp
    refine Zb (a_add (a := i) (b := 1) rfl rfl c₄) (Zb (a_mv (v := .i .i64 (i + 1)) rfl) (Zh ?_))
    have hp := Option.some.inj hp; subst hp
    exact (Or.inl (Exists.intro (n, i + 1) (And.intro rfl (And.intro rfl (And.intro (g₁_0) (And.intro (g₁_3) (And.intro (rfl) (hO₂.pick [] rfl (by decide)))))))))
  ·refine W_cF (t := (decide (i < (t.length : Int)))) rfl b₁ ?_
   refine W_ex (zC ?_)
   have hp := Option.some.inj hp; subst hp
   refine (Or.inr (Exists.intro n (And.intro rfl (And.intro (fun h => nomatch h) (fun he => ?_)))))
   subst he; exact (And.intro rfl (And.intro (q₂_3) (hO₂.pick [] rfl (by decide))))
 intro e₁ q₁ k₁ hJ₁
 obtain ⟨n1, rfl⟩ : ∃ x, x = o₁ := ⟨_, rfl⟩
 obtain ⟨rfl, q₁_3, hO₁⟩ := hJ₁
 refine zS (Ze (W_sq (W_rg (Zb (a_mv (v := .i .i64 n1) q₁_3) (Zb (a_mv (v := .i .i64 n1) rfl) (Zh (Ze ?_)))))))
 refine W_rt (Ret_r (rs_t (n := 2) (v := .i .i64 n1) rfl rs_nil) ?_)
 have hp := Option.some.inj hp; subst hp
 exact (And.intro rfl (hO₁.pick [] rfl (by decide)))

theorem zG.ok {h : Hp} {l : List Zk} {v_l : V} (s_l : Sl Zf h v_l l) {r : Int × Int} (hp : zG l = some r) :
  ∃ u k', Is G 181 [v_l] h u k' ∧ V.tu [.i .i64 r.1, .i .i64 r.2] = u ∧ Own (fun r => r < h.n) h k' [] := by
 refine WC.is (WC_of G_F_muntinref14_Outer ?_)
 unfold zG at hp
 let B : Nat → Prop := (fun r => r < h.n)
 have hO : Own B h h [] := Own.start0 h
 refine W_sq (W_rg (Zb (a_mv (v := .i .i64 0) rfl) (Zb (a_mv (v := .i .i64 0) rfl) (Zh (Ze (W_sq (W_rg ?_)))))))
 refine Zb (a_mv (v := v_l) rfl) ?_
 obtain ⟨x, hx₁, hp⟩ := Zt hp
 obtain ⟨u₁, k₁, ca₁, rfl, hW₁⟩ := zd.ok (h := h)  (hO.rd0 s_l.rd : Sl Zf h v_l l) hx₁
 refine Zaj (id := 34) (caps := []) rfl (Z7 (v := v_l) rfl zl) ca₁ ?_
 have hO₁ : Own B h k₁ [] := hO.call hW₁ rfl
 refine Zb (a_mv (v := .i .i64 x) rfl) (Zh (Ze (W_sq (W_sq (W_rg (Zb (a_mv (v := .i .i64 x) rfl) (Zb (a_neI (a := x) (b := 0) rfl rfl) ?_)))))))
 refine Zh (Ze ?_)
 rcases Zv hp with ⟨b₁, hp⟩ | ⟨b₁, hp⟩
 ·refine W_cT (t := (!(decide (x = 0)))) rfl b₁ ?_
  refine W_sq (W_rg (Zb (a_mv (v := .i .i64 x) rfl) (Zb (a_mv (v := .i .i64 (-1)) rfl) (Zb (a_mv (v := .i .i64 x) rfl) (Zh (Ze (W_rt ?_)))))))
  refine zy (Ret_r (rs_t (n := 2) (v := .i .i64 (-1)) rfl (rs_t (n := 3) (v := .i .i64 x) rfl rs_nil)) ?_)
  have hp := Option.some.inj hp; subst hp
  exact (And.intro rfl (hO₁.pick [] rfl (by decide)))
 ·refine W_cF (t := (!(decide (x = 0)))) rfl b₁ ?_
  refine W_sk (Ze (W_sq (W_rg (Zb (a_mv (v := v_l) rfl) ?_))))
  obtain ⟨x1, hx₂, hp⟩ := Zt hp
  obtain ⟨u₂, k₂, ca₂, v₁, vs₁, rfl, hW₂⟩ := zg.ok (h := k₁)  (hO₁.rd0 s_l.rd : Sl Zf k₁ v_l l) hx₂
  refine Zaj (id := 30) (caps := []) rfl (Z7 (v := v_l) rfl zl) ca₂ ?_
  have hO₂ : Own B h k₂ [eSl eV v₁ vs₁, eAll eInt vs₁ x1] := hO₁.call hW₂ rfl
  refine Zb (a_mv (v := v₁) rfl) (Zh (Ze (W_sq (W_sq (W_rg (Zb (a_mv (v := v₁) rfl) (Zb (a_lenN (n := (x1).length) (hO₂.sl 0 rfl : Sl eV k₂ v₁ vs₁) (hO₂.allLen 1 rfl : (vs₁).length = (x1).length) rfl) ?_)))))))
  refine Zb (a_neI (a := (x1.length : Int)) (b := 1) rfl rfl) (Zh (Ze ?_))
  rcases Zv hp with ⟨b₂, hp⟩ | ⟨b₂, hp⟩
  ·refine W_cT (t := (!(decide ((x1.length : Int) = 1)))) rfl b₂ ?_
   refine W_sq (W_rg (Zb (a_mv (v := .i .i64 (-1)) rfl) (Zb (a_mv (v := .i .i64 13) rfl) (Zh (Ze (W_rt (zy ?_)))))))
   refine Ret_r (rs_t (n := 2) (v := .i .i64 (-1)) rfl (rs_t (n := 3) (v := .i .i64 13) rfl rs_nil)) ?_
   have hp := Option.some.inj hp; subst hp
   exact (And.intro rfl (hO₂.pick [] rfl (by decide)))
  ·refine W_cF (t := (!(decide ((x1.length : Int) = 1)))) rfl b₂ ?_
   refine W_sk (Ze (W_sq (W_sq (W_rg (Zb (a_mv (v := v_l) rfl) (Zb (a_len (hO₂.rd0 s_l.rd : Sl Zf k₂ v_l l) rfl) (Zb (a_eqI (a := (l.length : Int)) (b := 1) rfl rfl) ?_)))))))
   refine Zh (Ze ?_)
   rcases Zv hp with ⟨b₃, hp⟩ | ⟨b₃, hp⟩
   ·refine W_cT (t := (decide ((l.length : Int) = 1))) rfl b₃ ?_
    refine W_sq (W_rg (Zb (a_mv (v := .i .i64 (-1)) rfl) (Zb (a_mv (v := .i .i64 0) rfl) (Zh (Ze (W_rt (zy ?_)))))))
    refine Ret_r (rs_t (n := 2) (v := .i .i64 (-1)) rfl (rs_t (n := 3) (v := .i .i64 0) rfl rs_nil)) ?_
    have hp := Option.some.inj hp; subst hp
    exact (And.intro rfl (hO₂.pick [] rfl (by decide)))
   ·refine W_cF (t := (decide ((l.length : Int) = 1))) rfl b₃ ?_
    refine W_sk (Ze (W_sq (W_rg (Zb (a_mv (v := v_l) rfl) ?_))))
    obtain ⟨x2, hx₃, hp⟩ := Zt hp
    obtain ⟨u₃, k₃, ca₃, v₂, vs₂, rfl, hW₃⟩ := ZL.ok (h := k₂)  (hO₂.rd0 s_l.rd : Sl Zf k₂ v_l l) hx₃
    refine Zaj (id := 177) (caps := []) rfl (Z7 (v := v_l) rfl zl) ca₃ ?_
    have hO₃ : Own B h k₃ [eSl eV v₁ vs₁, eAll eInt vs₁ x1, eSl eV v₂ vs₂, eAll Zi vs₂ x2] := hO₂.call hW₃ rfl
    refine Zb (a_mv (v := v₂) rfl) (Zh (Ze (W_sq (W_rg (Zb (a_mv (v := .i .i64 (-1)) rfl) (Zh (Ze ?_)))))))
    refine W_sq (W_sq (W_rg (Zb (a_mv (v := .i .i64 0) rfl) (Zh (Ze (W_bl ?_))))))
    obtain ⟨o₁, ho₁, hp⟩ := Zt hp
    refine W.mono (Q := fun e fr k => match (generalizing := false) o₁ with
      | .inl at_1 => e = (.exit 0) ∧ fr 7 = .i .i64 at_1 ∧ Own B h k []
      | .inr _ => e = .ret ∧ fr 2 = .i .i64 (-1) ∧ fr 3 = .i .i64 10 ∧ Own B h k []) ?_ ?_
    ·clear hp
     refine z3 (fun st fr k => match st with | (at_, i) => fr 0 = v_l ∧ fr 6 = v₂ ∧ fr 7 = .i .i64 at_ ∧ fr 8 = .i .i64 i ∧ Own B h k [eSl eV v₂ vs₂, eAll Zi vs₂ x2]) ho₁ (s := ((-1), 0)) (And.intro (rfl) (And.intro (rfl) (And.intro (rfl) (And.intro (rfl) (hO₃.pick [2, 3] rfl (by decide)))))) ?_
     rintro ⟨at_, i⟩ q₂ k₅ ⟨q₂_0, q₂_6, q₂_7, q₂_8, hO₅⟩ o₂ hp
     dsimp only [zG.s0] at hp
     refine W_sq (W_sq (W_rg (Zb (a_mv (v := .i .i64 i) q₂_8) (Zb (a_mv (v := v₂) q₂_6) (Zb (a_lenN (n := (x2).length) (hO₅.sl 0 rfl : Sl eV k₅ v₂ vs₂) (hO₅.allLen 1 rfl : (vs₂).length = (x2).length) rfl) (Zb (a_lss (a := i) (b := (x2.length : Int)) rfl rfl) (Zh ?_)))))))
     refine Ze ?_
     rcases Zv hp with ⟨b₄, hp⟩ | ⟨b₄, hp⟩
     ·refine W_cT (t := (decide (i < (x2.length : Int)))) rfl b₄ ?_
      refine W_sk (Ze (W_sq (W_bl (W_sq (W_rg (Zb (a_mv (v := v_l) q₂_0) (Zb (a_mv (v := v₂) q₂_6) ?_)))))))
      refine Zb (a_mv (v := .i .i64 i) q₂_8) ?_
      obtain ⟨c₁, hp⟩ := Zo hp
      refine Zb (a_ixa (E := eV) (z := i) (hO₅.sl 0 rfl : Sl eV k₅ v₂ vs₂) rfl rfl (by rw [(hO₅.allLen 1 rfl : (vs₂).length = (x2).length)]; exact c₁)) (Zb (zH (w := (gi vs₂ (i : Int).toNat)) (hO₅.sl 0 rfl : Sl eV k₅ v₂ vs₂) rfl (by rw [(hO₅.allLen 1 rfl : (vs₂).length = (x2).length)]; exact Zq c₁) rfl) ?_)
      obtain ⟨x3, hx₄, hp⟩ := Zt hp
      obtain ⟨u₄, k₆, ca₄, v₃, rfl, hW₄⟩ := zA.ok (h := k₅)  (hO₅.rd0 s_l.rd : Sl Zf k₅ v_l l) (hO₅.inn 1 rfl (Zq c₁) : Sl Zi k₅ (gi vs₂ (i : Int).toNat) (gi x2 (i : Int).toNat)) hx₄
      refine Zaj (id := 182) (caps := []) rfl (Z7 (v := v_l) rfl (Z7 (v := (gi vs₂ (i : Int).toNat)) rfl zl)) ca₄ ?_
      have hO₆ : Own B h k₆ [eSl eV v₂ vs₂, eAll Zi vs₂ x2, eSl eInt v₃ x3] := hO₅.call hW₄ rfl
      refine Zb (a_mv (v := v₃) rfl) (Zh (Ze (W_sq (W_rg (Zb (a_mv (v := v₃) rfl) ?_)))))
      obtain ⟨x4, hx₅, hp⟩ := Zt hp
      obtain ⟨u₅, k₇, ca₅, rfl, hW₅⟩ := z7.ok (h := k₆)  (hO₆.sl 2 rfl : Sl eInt k₆ v₃ x3) hx₅
      refine Zaj (id := 206) (caps := []) rfl (Z7 (v := v₃) rfl zl) ca₅ ?_
      have hO₇ : Own B h k₇ [eSl eV v₂ vs₂, eAll Zi vs₂ x2, eSl eInt v₃ x3] := hO₆.call hW₅ rfl
      refine Zb (a_mv (v := .i .i64 x4) rfl) (Zh (Ze (W_sq (W_sq (W_rg (Zb (a_mv (v := .i .i64 x4) rfl) (Zb (a_neI (a := x4) (b := 4) rfl rfl) ?_)))))))
      refine Zb (a_mv (v := .b (!(decide (x4 = 4)))) rfl) ?_
      refine zX 3 (fun fr' k' => k₇ = k' ∧ fr' 45 = .b ((!(decide (x4 = 4))) && (!(decide (x4 = (-4))))) ∧ fr' 0 = v_l ∧ fr' 10 = .i .i64 x4 ∧ fr' 6 = v₂ ∧ fr' 7 = .i .i64 at_ ∧ fr' 8 = .i .i64 i) ?_ ?_
      ·rcases bc (!(decide (x4 = 4))) with b₅ | b₅
       ·skip
        refine WO_on rfl b₅ (Zb (a_mv (v := .i .i64 x4) rfl) (WO_on rfl b₅ (Zb (a_neI (a := x4) (b := (-4)) rfl rfl) (Zb (zk (t := (!(decide (x4 = 4)))) (v := .b ((!(decide (x4 = 4))) && (!(decide (x4 = (-4)))))) rfl b₅ (Eq.trans (b := V.b (!(decide (x4 = (-4))))) rfl (ZaD b₅))) (Zh ?_)))))
        exact ⟨rfl, rfl, q₂_0, rfl, q₂_6, q₂_7, q₂_8⟩
       ·skip
        refine WO_off rfl b₅ (WO_off rfl b₅ (Zb (zi (t := (!(decide (x4 = 4)))) (v := .b ((!(decide (x4 = 4))) && (!(decide (x4 = (-4)))))) rfl b₅ (Eq.trans (b := V.b false) rfl (Za2 b₅))) (Zh ?_)))
        exact ⟨rfl, rfl, q₂_0, rfl, q₂_6, q₂_7, q₂_8⟩
      rintro frg₁ _ ⟨rfl, g₁_45, g₁_0, g₁_10, g₁_6, g₁_7, g₁_8⟩
      refine Zb (a_mv (v := .b ((!(decide (x4 = 4))) && (!(decide (x4 = (-4)))))) g₁_45) ?_
      refine zX 7 (fun fr' k' => k₇ = k' ∧ fr' 53 = .b (((!(decide (x4 = 4))) && (!(decide (x4 = (-4))))) || ((decide (x4 = (-4))) && (decide (0 ≤ at_)))) ∧ fr' 0 = v_l ∧ fr' 10 = .i .i64 x4 ∧ fr' 6 = v₂ ∧ fr' 7 = .i .i64 at_ ∧ fr' 8 = .i .i64 i) ?_ ?_
      ·rcases bc ((!(decide (x4 = 4))) && (!(decide (x4 = (-4))))) with b₆ | b₆
       ·skip
        refine WO_off rfl b₆ (WO_off rfl b₆ (WO_off rfl b₆ (WO_un rfl (WO_un rfl (WO_off rfl b₆ (Zb (zk (t := ((!(decide (x4 = 4))) && (!(decide (x4 = (-4)))))) (v := .b (((!(decide (x4 = 4))) && (!(decide (x4 = (-4))))) || ((decide (x4 = (-4))) && (decide (0 ≤ at_))))) rfl b₆ (Eq.trans (b := V.b true) rfl (ZaA b₆))) (Zh ?_)))))))
        exact ⟨rfl, rfl, g₁_0, g₁_10, g₁_6, g₁_7, g₁_8⟩
       ·skip
        refine WO_on rfl b₆ (Zb (a_mv (v := .i .i64 x4) g₁_10) (WO_on rfl b₆ (Zb (a_eqI (a := x4) (b := (-4)) rfl rfl) (WO_on rfl b₆ (Zb (a_mv (v := .b (decide (x4 = (-4)))) rfl) ?_)))))
        refine zX 3 (fun fr' k' => k₇ = k' ∧ fr' 52 = .b ((decide (x4 = (-4))) && (decide (0 ≤ at_))) ∧ fr' 0 = v_l ∧ fr' 10 = .i .i64 x4 ∧ fr' 46 = .b ((!(decide (x4 = 4))) && (!(decide (x4 = (-4))))) ∧ fr' 6 = v₂ ∧ fr' 7 = .i .i64 at_ ∧ fr' 8 = .i .i64 i) ?_ ?_
        ·rcases bc (decide (x4 = (-4))) with b₇ | b₇
         ·skip
          refine WO_on rfl b₇ (Zb (a_mv (v := .i .i64 at_) g₁_7) (WO_on rfl b₇ (Zb (a_geq (a := at_) (b := 0) rfl rfl) (WO_on rfl b₆ (Zb (zk (t := (decide (x4 = (-4)))) (v := .b ((decide (x4 = (-4))) && (decide (0 ≤ at_)))) rfl b₇ (Eq.trans (b := V.b (decide (0 ≤ at_))) rfl (ZaD b₇))) (Zh ?_))))))
          exact ⟨rfl, rfl, g₁_0, g₁_10, rfl, g₁_6, g₁_7, g₁_8⟩
         ·skip
          refine WO_off rfl b₇ (WO_off rfl b₇ (WO_on rfl b₆ (Zb (zi (t := (decide (x4 = (-4)))) (v := .b ((decide (x4 = (-4))) && (decide (0 ≤ at_)))) rfl b₇ (Eq.trans (b := V.b false) rfl (Za2 b₇))) (Zh ?_))))
          exact ⟨rfl, rfl, g₁_0, g₁_10, rfl, g₁_6, g₁_7, g₁_8⟩
        rintro frg₂ _ ⟨rfl, g₂_52, g₂_0, g₂_10, g₂_46, g₂_6, g₂_7, g₂_8⟩
        refine Zb (zi (t := ((!(decide (x4 = 4))) && (!(decide (x4 = (-4)))))) (v := .b (((!(decide (x4 = 4))) && (!(decide (x4 = (-4))))) || ((decide (x4 = (-4))) && (decide (0 ≤ at_))))) g₂_46 b₆ (Eq.trans (b := V.b ((decide (x4 = (-4))) && (decide (0 ≤ at_)))) g₂_52 (ZaH b₆))) (Zh ?_)
        exact ⟨rfl, rfl, g₂_0, g₂_10, g₂_6, g₂_7, g₂_8⟩
      rintro frg₃ _ ⟨rfl, g₃_53, g₃_0, g₃_10, g₃_6, g₃_7, g₃_8⟩
      refine Zh (Ze ?_)
      rcases Zv hp with ⟨b₈, hp⟩ | ⟨b₈, hp⟩
      ·refine W_cT (t := (((!(decide (x4 = 4))) && (!(decide (x4 = (-4))))) || ((decide (x4 = (-4))) && (decide (0 ≤ at_))))) g₃_53 b₈ ?_
       refine W_sq (W_rg (Zb (a_mv (v := .i .i64 (-1)) rfl) (Zb (a_mv (v := .i .i64 10) rfl) (Zh (Ze (W_rt (zy ?_)))))))
       refine Zak (zy ?_)
       have hp := Option.some.inj hp; subst hp
       refine (Or.inr (Exists.intro (.inr ()) (And.intro rfl (And.intro (fun h => nomatch h) (fun he => ?_)))))
       subst he; exact (And.intro rfl (And.intro (rfl) (And.intro (rfl) (hO₇.pick [] rfl (by decide)))))
      ·refine W_cF (t := (((!(decide (x4 = 4))) && (!(decide (x4 = (-4))))) || ((decide (x4 = (-4))) && (decide (0 ≤ at_))))) g₃_53 b₈ ?_
       refine W_sk (Ze (W_sq (W_rg (Zb (a_mv (v := .i .i64 x4) g₃_10) (Zb (a_eqI (a := x4) (b := (-4)) rfl rfl) (Zh (Ze ?_)))))))
       rcases Zv hp with ⟨b₉, hp⟩ | ⟨b₉, hp⟩
       ·refine W_cT (t := (decide (x4 = (-4)))) rfl b₉ ?_
        refine W_rg (Zb (a_mv (v := .i .i64 i) g₃_8) (Zb (a_mv (v := .i .i64 i) rfl) (Zh (zL (Ze (W_rg (Zb (a_mv (v := .i .i64 i) g₃_8) ?_)))))))
        obtain ⟨c₂, hp⟩ := Zo hp
        refine Zb (a_add (a := i) (b := 1) rfl rfl c₂) (Zb (a_mv (v := .i .i64 (i + 1)) rfl) (Zh ?_))
        have hp := Option.some.inj hp; subst hp
        exact (Or.inl (Exists.intro (i, i + 1) (And.intro rfl (And.intro rfl (And.intro (g₃_0) (And.intro (g₃_6) (And.intro (rfl) (And.intro (rfl) (hO₇.pick [0, 1] rfl (by decide))))))))))
       ·refine W_cF (t := (decide (x4 = (-4)))) rfl b₉ ?_
        refine W_sk (zL (Ze (W_rg (Zb (a_mv (v := .i .i64 i) g₃_8) ?_))))
        obtain ⟨c₃, hp⟩ := Zo hp
        refine Zb (a_add (a := i) (b := 1) rfl rfl c₃) (Zb (a_mv (v := .i .i64 (i + 1)) rfl) (Zh ?_))
        have hp := Option.some.inj hp; subst hp
        exact (Or.inl (Exists.intro (at_, i + 1) (And.intro rfl (And.intro rfl (And.intro (g₃_0) (And.intro (g₃_6) (And.intro (g₃_7) (And.intro (rfl) (hO₇.pick [0, 1] rfl (by decide))))))))))
     ·refine W_cF (t := (decide (i < (x2.length : Int)))) rfl b₄ ?_
      refine W_ex (zC ?_)
      have hp := Option.some.inj hp; subst hp
      refine (Or.inr (Exists.intro (.inl at_) (And.intro rfl (And.intro (fun h => nomatch h) (fun he => ?_)))))
      subst he; exact (And.intro rfl (And.intro (q₂_7) (hO₅.pick [] rfl (by decide))))
    intro e₁ q₁ k₄ hJ₁
    rcases o₁ with at_1 | _
    ·obtain ⟨rfl, q₁_7, hO₄⟩ := hJ₁
     refine zS (Ze (W_sq (W_sq (W_rg (Zb (a_mv (v := .i .i64 at_1) q₁_7) (Zb (a_lss (a := at_1) (b := 0) rfl rfl) (Zh ?_)))))))
     refine Ze ?_
     rcases Zv hp with ⟨b₁₀, hp⟩ | ⟨b₁₀, hp⟩
     ·refine W_cT (t := (decide (at_1 < 0))) rfl b₁₀ ?_
      refine W_sq (W_rg (Zb (a_mv (v := .i .i64 (-1)) rfl) (Zb (a_mv (v := .i .i64 10) rfl) (Zh (Ze (W_rt (zy ?_)))))))
      refine Ret_r (rs_t (n := 2) (v := .i .i64 (-1)) rfl (rs_t (n := 3) (v := .i .i64 10) rfl rs_nil)) ?_
      have hp := Option.some.inj hp; subst hp
      exact (And.intro rfl (hO₄.pick [] rfl (by decide)))
     ·refine W_cF (t := (decide (at_1 < 0))) rfl b₁₀ ?_
      refine W_sk (Ze (W_sq (W_rg (Zb (a_mv (v := .i .i64 at_1) q₁_7) (Zb (a_mv (v := .i .i64 at_1) rfl) (Zb (a_mv (v := .i .i64 0) rfl) (Zh ?_)))))))
      refine Ze (W_rt (Ret_r (rs_t (n := 2) (v := .i .i64 at_1) rfl (rs_t (n := 3) (v := .i .i64 0) rfl rs_nil)) ?_))
      have hp := Option.some.inj hp; subst hp
      exact (And.intro rfl (hO₄.pick [] rfl (by decide)))
    ·obtain ⟨rfl, q₁_2, q₁_3, hO₄⟩ := hJ₁
     refine Zak (zy (Ret_r (rs_t (n := 2) (v := .i .i64 (-1)) q₁_2 (rs_t (n := 3) (v := .i .i64 10) q₁_3 rs_nil)) ?_))
     have hp := Option.some.inj hp; subst hp
     exact (And.intro rfl (hO₄.pick [] rfl (by decide)))

theorem zw.ok {h : Hp} {t : List Int} {v_t : V} (s_t : Sl eInt h v_t t) {r : (List Zl)} (hp : zw t = some r) :
  ∃ u k', Is G 20 [v_t] h u k' ∧ ∃ (v₁ : V), v₁ = u ∧ Own (fun r => r < h.n) h k' [eSl Zc v₁ r] := by
 refine WC.is (WC_of G_F_muntinref15_Corners ?_)
 unfold zw at hp
 let B : Nat → Prop := (fun r => r < h.n)
 have hO : Own B h h [] := Own.start0 h
 refine W_sq (W_rg (Zb (a_mv (v := .sn) rfl) (Zh (Ze (W_sq (W_rg (Zb (a_mv (v := .sn) rfl) ?_)))))))
 refine Zh (Ze (W_sq (W_sq (W_rg (Zb (a_mv (v := .i .i64 0) rfl) (Zh (Ze ?_)))))))
 refine W_bl ?_
 obtain ⟨o₁, ho₁, hp⟩ := Zt hp
 refine W.mono (Q := fun e fr k => match (generalizing := false) o₁ with
   | l1 => e = (.exit 0) ∧ ∃ (v₃ : V), fr 3 = v₃ ∧ Own B h k [eSl Zc v₃ l1]) ?_ ?_
 ·clear hp
  have hO₂ : Own B h h [eSl Zc .sn ([] : List Zl)] := hO.nil Zc
  refine z3 (fun st fr k => match st with | (l, i) => ∃ (v₂ : V), fr 0 = v_t ∧ fr 3 = v₂ ∧ fr 4 = .i .i64 i ∧ Own B h k [eSl Zc v₂ l]) ho₁ (s := (([] : List Zl), 0)) (Exists.intro V.sn (And.intro (rfl) (And.intro (rfl) (And.intro (rfl) (hO₂.pick [0] rfl (by decide)))))) ?_
  rintro ⟨l, i⟩ q₂ k₂ ⟨v₂, q₂_0, q₂_3, q₂_4, hO₃⟩ o₂ hp
  dsimp only [zw.s0] at hp
  refine W_sq (W_sq (W_rg (Zb (a_mv (v := .i .i64 i) q₂_4) (Zb (a_mv (v := v_t) q₂_0) (Zb (a_len (hO₃.rd0 s_t.rd : Sl eInt k₂ v_t t) rfl) (Zb (a_lss (a := i) (b := (t.length : Int)) rfl rfl) (Zh ?_)))))))
  refine Ze ?_
  rcases Zv hp with ⟨b₁, hp⟩ | ⟨b₁, hp⟩
  ·refine W_cT (t := (decide (i < (t.length : Int)))) rfl b₁ ?_
   refine W_sk (Ze (W_sq (W_bl (W_sq (W_sq (W_rg (Zb (a_mv (v := v_t) q₂_0) ?_)))))))
   refine Zb (a_mv (v := .i .i64 i) q₂_4) ?_
   obtain ⟨c₁, hp⟩ := Zo hp
   refine Zb (a_ixa (E := eInt) (z := i) (hO₃.rd0 s_t.rd : Sl eInt k₂ v_t t) rfl rfl c₁) (Zb (zH (w := .i .i64 (gi t (i : Int).toNat)) (hO₃.rd0 s_t.rd : Sl eInt k₂ v_t t) rfl (Zq c₁) rfl) (Zb (a_eqI (a := (gi t (i : Int).toNat)) (b := (-1)) rfl rfl) (Zb (a_mv (v := .b (decide (gi t (i : Int).toNat = (-1)))) rfl) ?_)))
   refine zX 6 (fun fr' k' => k₂ = k' ∧ fr' 22 = .b ((decide (gi t (i : Int).toNat = (-1))) || (decide (gi t (i : Int).toNat = (-2)))) ∧ fr' 0 = v_t ∧ fr' 3 = v₂ ∧ fr' 4 = .i .i64 i) ?_ ?_
   ·rcases bc (decide (gi t (i : Int).toNat = (-1))) with b₂ | b₂
    ·skip
     refine WO_off rfl b₂ (WO_off rfl b₂ (WO_off rfl b₂ (WO_off rfl b₂ (WO_off rfl b₂ (Zb (zk (t := (decide (gi t (i : Int).toNat = (-1)))) (v := .b ((decide (gi t (i : Int).toNat = (-1))) || (decide (gi t (i : Int).toNat = (-2))))) rfl b₂ (Eq.trans (b := V.b true) rfl (ZaA b₂))) (Zh ?_))))))
     exact ⟨rfl, rfl, q₂_0, q₂_3, q₂_4⟩
    ·skip
     refine WO_on rfl b₂ (Zb (a_mv (v := v_t) q₂_0) (WO_on rfl b₂ (Zb (a_mv (v := .i .i64 i) q₂_4) (WO_on rfl b₂ (Zb (a_ixa (E := eInt) (z := i) (hO₃.rd0 s_t.rd : Sl eInt k₂ v_t t) rfl rfl c₁) (WO_on rfl b₂ (Zb (zH (w := .i .i64 (gi t (i : Int).toNat)) (hO₃.rd0 s_t.rd : Sl eInt k₂ v_t t) rfl (Zq c₁) rfl) ?_)))))))
     refine WO_on rfl b₂ (Zb (a_eqI (a := (gi t (i : Int).toNat)) (b := (-2)) rfl rfl) (Zb (zi (t := (decide (gi t (i : Int).toNat = (-1)))) (v := .b ((decide (gi t (i : Int).toNat = (-1))) || (decide (gi t (i : Int).toNat = (-2))))) rfl b₂ (Eq.trans (b := V.b (decide (gi t (i : Int).toNat = (-2)))) rfl (ZaH b₂))) (Zh ?_)))
     exact ⟨rfl, rfl, q₂_0, q₂_3, q₂_4⟩
   rintro frg₁ _ ⟨rfl, g₁_22, g₁_0, g₁_3, g₁_4⟩
   refine Zh (Ze ?_)
   obtain ⟨o₃, ho₂, hp⟩ := Zt hp
   refine W.mono (Q := fun e fr k => match (generalizing := false) o₃ with
     | l2 => e = .normal ∧ ∃ (v₄ : V), fr 0 = v_t ∧ fr 3 = v₄ ∧ fr 4 = .i .i64 i ∧ Own B h k [eSl Zc v₄ l2]) ?_ ?_
   ·clear hp; have hp := ho₂; clear ho₂
    rcases Zv hp with ⟨b₃, hp⟩ | ⟨b₃, hp⟩
    ·refine W_cT (t := ((decide (gi t (i : Int).toNat = (-1))) || (decide (gi t (i : Int).toNat = (-2))))) g₁_22 b₃ ?_
     refine W_rg (Zb (a_mv (v := v₂) g₁_3) (Zb (a_mv (v := .i .i64 i) g₁_4) (Zb (Zaw (cs := Zc.c (⟨i, (0 : Int)⟩ : Zl)) (by rw [(zc (v := .i .i64 i) rfl ev_nil)]; rfl)) (zq (hO₃.bsl (E := Zc) (l := [(⟨i, (0 : Int)⟩ : Zl)]) hO₃.fr (by rw [(zc (v := .ag (Zc.c (⟨i, (0 : Int)⟩ : Zl))) rfl ev_nil)]; rfl) rfl) ?_))))
     rintro v₅ k₄ ⟨r₁, f₁, hW⟩
     have hO₅ : Own B h k₄ [eSl Zc v₂ l, eSl Zc v₅ [(⟨i, (0 : Int)⟩ : Zl)]] := hW
     obtain ⟨c₂, hp⟩ := Zo hp
     refine zq (hO₅.app (E := Zc) (bytes := 16) 0 hO₅.fr rfl (hO₅.sl 1 rfl : Sl Zc k₄ v₅ [(⟨i, (0 : Int)⟩ : Zl)]) rfl rfl (fun _ => rfl) c₂ (by decide)) ?_
     rintro v₆ k₅ ⟨f₂, hW⟩
     have hO₆ : Own B h k₅ [eSl Zc v₆ (l ++ [(⟨i, (0 : Int)⟩ : Zl)]), eSl Zc v₅ [(⟨i, (0 : Int)⟩ : Zl)]] := hW
     refine Zb (a_mv (v := v₆) rfl) (Zh ?_)
     have hp := Option.some.inj hp; subst hp
     exact (And.intro rfl (Exists.intro v₆ (And.intro (g₁_0) (And.intro (rfl) (And.intro (g₁_4) (hO₆.pick [0] rfl (by decide)))))))
    ·refine W_cF (t := ((decide (gi t (i : Int).toNat = (-1))) || (decide (gi t (i : Int).toNat = (-2))))) g₁_22 b₃ ?_
     refine W_sk ?_
     have hp := Option.some.inj hp; subst hp
     exact (And.intro rfl (Exists.intro v₂ (And.intro (g₁_0) (And.intro (g₁_3) (And.intro (g₁_4) (hO₃.pick [0] rfl (by decide)))))))
   intro e₂ q₃ k₃ hJ₂
   obtain ⟨l2, rfl⟩ : ∃ x, x = o₃ := ⟨_, rfl⟩
   obtain ⟨rfl, v₄, q₃_0, q₃_3, q₃_4, hO₄⟩ := hJ₂
   refine Ze (W_sq (W_rg (Zb (a_mv (v := v_t) q₃_0) (Zb (a_mv (v := .i .i64 i) q₃_4) (Zb (a_ixa (E := eInt) (z := i) (hO₄.rd0 s_t.rd : Sl eInt k₃ v_t t) rfl rfl c₁) (Zb (zH (w := .i .i64 (gi t (i : Int).toNat)) (hO₄.rd0 s_t.rd : Sl eInt k₃ v_t t) rfl (Zq c₁) rfl) (Zb (a_eqI (a := (gi t (i : Int).toNat)) (b := (-2)) rfl rfl) ?_)))))))
   refine Zh (Ze ?_)
   rcases Zv hp with ⟨b₄, hp⟩ | ⟨b₄, hp⟩
   ·refine W_cT (t := (decide (gi t (i : Int).toNat = (-2)))) rfl b₄ ?_
    refine W_rg (Zb (a_mv (v := v₄) q₃_3) (Zb (a_mv (v := .i .i64 i) q₃_4) (Zb (Zaw (cs := Zc.c (⟨i, 1⟩ : Zl)) (by rw [(zc (v := .i .i64 i) rfl (zc (v := .i .i64 1) rfl ev_nil))]; rfl)) (zq (hO₄.bsl (E := Zc) (l := [(⟨i, 1⟩ : Zl)]) hO₄.fr (by rw [(zc (v := .ag (Zc.c (⟨i, 1⟩ : Zl))) rfl ev_nil)]; rfl) rfl) ?_))))
    rintro v₇ k₆ ⟨r₂, f₃, hW⟩
    have hO₇ : Own B h k₆ [eSl Zc v₄ l2, eSl Zc v₇ [(⟨i, 1⟩ : Zl)]] := hW
    obtain ⟨c₃, hp⟩ := Zo hp
    refine zq (hO₇.app (E := Zc) (bytes := 16) 0 hO₇.fr rfl (hO₇.sl 1 rfl : Sl Zc k₆ v₇ [(⟨i, 1⟩ : Zl)]) rfl rfl (fun _ => rfl) c₃ (by decide)) ?_
    rintro v₈ k₇ ⟨f₄, hW⟩
    have hO₈ : Own B h k₇ [eSl Zc v₈ (l2 ++ [(⟨i, 1⟩ : Zl)]), eSl Zc v₇ [(⟨i, 1⟩ : Zl)]] := hW
    refine Zb (a_mv (v := v₈) rfl) (Zh (zL (Ze (W_rg (Zb (a_mv (v := .i .i64 i) q₃_4) ?_)))))
    obtain ⟨c₄, hp⟩ := Zo hp
    refine Zb (a_add (a := i) (b := 1) rfl rfl c₄) (Zb (a_mv (v := .i .i64 (i + 1)) rfl) (Zh ?_))
    have hp := Option.some.inj hp; subst hp
    exact (Or.inl (Exists.intro (l2 ++ [(⟨i, 1⟩ : Zl)], i + 1) (And.intro rfl (And.intro rfl (Exists.intro v₈ (And.intro (q₃_0) (And.intro (rfl) (And.intro (rfl) (hO₈.pick [0] rfl (by decide))))))))))
   ·refine W_cF (t := (decide (gi t (i : Int).toNat = (-2)))) rfl b₄ ?_
    refine W_sk (zL (Ze (W_rg (Zb (a_mv (v := .i .i64 i) q₃_4) ?_))))
    obtain ⟨c₅, hp⟩ := Zo hp
    refine Zb (a_add (a := i) (b := 1) rfl rfl c₅) (Zb (a_mv (v := .i .i64 (i + 1)) rfl) (Zh ?_))
    have hp := Option.some.inj hp; subst hp
    exact (Or.inl (Exists.intro (l2, i + 1) (And.intro rfl (And.intro rfl (Exists.intro v₄ (And.intro (q₃_0) (And.intro (q₃_3) (And.intro (rfl) (hO₄.pick [0] rfl (by decide))))))))))
  ·refine W_cF (t := (decide (i < (t.length : Int)))) rfl b₁ ?_
   refine W_ex (zC ?_)
   have hp := Option.some.inj hp; subst hp
   refine (Or.inr (Exists.intro l (And.intro rfl (And.intro (fun h => nomatch h) (fun he => ?_)))))
   subst he; exact (And.intro rfl (Exists.intro v₂ (And.intro (q₂_3) (hO₃.pick [0] rfl (by decide)))))
 intro e₁ q₁ k₁ hJ₁
 obtain ⟨l1, rfl⟩ : ∃ x, x = o₁ := ⟨_, rfl⟩
 obtain ⟨rfl, v₃, q₁_3, hO₁⟩ := hJ₁
 refine zS (Ze (W_sq (W_rg (Zb (a_mv (v := v₃) q₁_3) (Zb (a_mv (v := v₃) rfl) (Zh (Ze ?_)))))))
 refine W_rt (Ret_r (rs_t (n := 2) (v := v₃) rfl rs_nil) ?_)
 have hp := Option.some.inj hp; subst hp
 exact (Exists.intro v₃ (And.intro rfl (hO₁.pick [0] rfl (by decide))))

end Mu
