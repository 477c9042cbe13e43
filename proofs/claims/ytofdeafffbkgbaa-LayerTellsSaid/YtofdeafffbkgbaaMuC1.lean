/- The code comes to what was worked out. -/
import Derived.Test.YtofdeafffbkgbaaMuDf
import Derived.Test.YtofdeafffbkgbaaMuPa
import Derived.Test.YtofdeafffbkgbaaMuC0
set_option linter.unusedVariables false
set_option linter.unnecessarySimpa false
set_option linter.unusedSimpArgs false
set_option maxHeartbeats 2000000
set_option maxRecDepth 10000
namespace Mu
open Go (IntKind BinOp UnOp)
theorem p_slices_Min_int.ok {h : Hp} {x : List Int} {v_x : V} (s_x : Sl eInt h v_x x) {r : Int} (hp : p_slices_Min_int x = some r) :
    ∃ u k', Is G 71 [v_x] h u k' ∧ V.i .i64 r = u ∧ Own (fun r => r < h.n) h k' [] := by
  refine WC.is (WC_of G_F_slices_Min_int ?_)
  unfold p_slices_Min_int at hp
  let B : Nat → Prop := (fun r => r < h.n)
  have hO : Own B h h [] := Own.start0 h
  refine W_sq ?_
  refine W_rg ?_
  refine WO_v (a_mv (v := .i .i64 0) rfl) ?_
  refine WO_end ?_
  refine then_n ?_
  refine W_sq ?_
  refine W_sq ?_
  refine W_rg ?_
  refine WO_v (a_mv (v := v_x) rfl) ?_
  refine WO_v (a_len (hO.rd0 s_x.rd : Sl eInt h v_x x) rfl) ?_
  refine WO_v (a_lss (a := (x.length : Int)) (b := 1) rfl rfl) ?_
  refine WO_end ?_
  refine then_n ?_
  obtain ⟨o₁, ho₁, hp⟩ := bd_some hp
  refine W.mono (Q := fun e fr k => match (generalizing := false) o₁ with
      | _ => e = .normal ∧ fr 0 = v_x ∧ Own B h k []) ?_ ?_
  · clear hp; have hp := ho₁; clear ho₁
    rcases if_some hp with ⟨b₁, hp⟩ | ⟨b₁, hp⟩
    · refine W_cT (t := (decide ((x.length : Int) < 1))) rfl b₁ ?_
      exact nomatch hp
    · refine W_cF (t := (decide ((x.length : Int) < 1))) rfl b₁ ?_
      refine W_sk ?_
      have hp := Option.some.inj hp; subst hp
      exact (And.intro rfl (And.intro (rfl) (hO.pick [] rfl (by decide))))
  intro e₁ q₁ k₁ hJ₁
  obtain ⟨rfl, q₁_0, hO₁⟩ := hJ₁
  refine then_n ?_
  refine W_sq ?_
  refine W_rg ?_
  refine WO_v (a_mv (v := v_x) q₁_0) ?_
  obtain ⟨c₁, hp⟩ := ck_some hp
  refine WO_v (a_ixa (E := eInt) (z := 0) (hO₁.rd0 s_x.rd : Sl eInt k₁ v_x x) rfl rfl c₁) ?_
  refine WO_v (a_ldE (w := .i .i64 (gi x (0 : Int).toNat)) (hO₁.rd0 s_x.rd : Sl eInt k₁ v_x x) rfl (toNat_lt c₁) rfl) ?_
  refine WO_v (a_mv (v := .i .i64 (gi x (0 : Int).toNat)) rfl) ?_
  refine WO_end ?_
  refine then_n ?_
  refine W_sq ?_
  refine W_sq ?_
  refine W_rg ?_
  refine WO_v (a_mv (v := .i .i64 1) rfl) ?_
  refine WO_end ?_
  refine then_n ?_
  refine W_bl ?_
  obtain ⟨o₂, ho₂, hp⟩ := bd_some hp
  refine W.mono (Q := fun e fr k => match (generalizing := false) o₂ with
      | m1 => e = (.exit 0) ∧ fr 3 = .i .i64 m1 ∧ Own B h k []) ?_ ?_
  · clear hp
    refine W_loopF (fun st fr k => match st with | (m, i) => fr 0 = v_x ∧ fr 3 = .i .i64 m ∧ fr 4 = .i .i64 i ∧ Own B h k []) ho₂ (s := (gi x (0 : Int).toNat, 1)) (And.intro (q₁_0) (And.intro (rfl) (And.intro (rfl) (hO₁.pick [] rfl (by decide))))) ?_
    rintro ⟨m, i⟩ q₃ k₃ ⟨q₃_0, q₃_3, q₃_4, hO₃⟩ o₃ hp
    dsimp only [p_slices_Min_int.s0] at hp
    refine W_sq ?_
    refine W_sq ?_
    refine W_rg ?_
    refine WO_v (a_mv (v := .i .i64 i) q₃_4) ?_
    refine WO_v (a_mv (v := v_x) q₃_0) ?_
    refine WO_v (a_len (hO₃.rd0 s_x.rd : Sl eInt k₃ v_x x) rfl) ?_
    refine WO_v (a_lss (a := i) (b := (x.length : Int)) rfl rfl) ?_
    refine WO_end ?_
    refine then_n ?_
    rcases if_some hp with ⟨b₂, hp⟩ | ⟨b₂, hp⟩
    · refine W_cT (t := (decide (i < (x.length : Int)))) rfl b₂ ?_
      refine W_sk ?_
      refine then_n ?_
      refine W_sq ?_
      refine W_bl ?_
      refine W_rg ?_
      refine WO_v (a_mv (v := .i .i64 m) q₃_3) ?_
      refine WO_v (a_mv (v := v_x) q₃_0) ?_
      refine WO_v (a_mv (v := .i .i64 i) q₃_4) ?_
      obtain ⟨c₂, hp⟩ := ck_some hp
      refine WO_v (a_ixa (E := eInt) (z := i) (hO₃.rd0 s_x.rd : Sl eInt k₃ v_x x) rfl rfl c₂) ?_
      refine WO_v (a_ldE (w := .i .i64 (gi x (i : Int).toNat)) (hO₃.rd0 s_x.rd : Sl eInt k₃ v_x x) rfl (toNat_lt c₂) rfl) ?_
      refine WO_v (a_mn (a := m) (b := (gi x (i : Int).toNat)) rfl rfl) ?_
      refine WO_v (a_mv (v := .i .i64 (min m (gi x (i : Int).toNat))) rfl) ?_
      refine WO_end ?_
      refine blk_n ?_
      refine then_n ?_
      refine W_rg ?_
      refine WO_v (a_mv (v := .i .i64 i) q₃_4) ?_
      obtain ⟨c₃, hp⟩ := ck_some hp
      refine WO_v (a_add (a := i) (b := 1) rfl rfl c₃) ?_
      refine WO_v (a_mv (v := .i .i64 (i + 1)) rfl) ?_
      refine WO_end ?_
      have hp := Option.some.inj hp; subst hp
      exact (Or.inl (Exists.intro (min m (gi x (i : Int).toNat), i + 1) (And.intro rfl (And.intro rfl (And.intro (q₃_0) (And.intro (rfl) (And.intro (rfl) (hO₃.pick [] rfl (by decide)))))))))
    · refine W_cF (t := (decide (i < (x.length : Int)))) rfl b₂ ?_
      refine W_ex ?_
      refine then_e ?_
      have hp := Option.some.inj hp; subst hp
      refine (Or.inr (Exists.intro m (And.intro rfl (And.intro (fun h => nomatch h) (fun he => ?_)))))
      subst he; exact (And.intro rfl (And.intro (q₃_3) (hO₃.pick [] rfl (by decide))))
  intro e₂ q₂ k₂ hJ₂
  obtain ⟨m1, rfl⟩ : ∃ x, x = o₂ := ⟨_, rfl⟩
  obtain ⟨rfl, q₂_3, hO₂⟩ := hJ₂
  refine blk_i ?_
  refine then_n ?_
  refine W_sq ?_
  refine W_rg ?_
  refine WO_v (a_mv (v := .i .i64 m1) q₂_3) ?_
  refine WO_v (a_mv (v := .i .i64 m1) rfl) ?_
  refine WO_end ?_
  refine then_n ?_
  refine W_rt ?_
  refine Ret_r (rs_t (n := 2) (v := .i .i64 m1) rfl rs_nil) ?_
  have hp := Option.some.inj hp; subst hp
  exact (And.intro rfl (hO₂.pick [] rfl (by decide)))

theorem p_layer_Span.ok {h : Hp} {x : List Int} {v_x : V} (s_x : Sl eInt h v_x x) {r : Int} (hp : p_layer_Span x = some r) :
    ∃ u k', Is G 41 [v_x] h u k' ∧ V.i .i64 r = u ∧ Own (fun r => r < h.n) h k' [] := by
  refine WC.is (WC_of G_F_layer_Span ?_)
  unfold p_layer_Span at hp
  let B : Nat → Prop := (fun r => r < h.n)
  have hO : Own B h h [] := Own.start0 h
  refine W_sq ?_
  refine W_rg ?_
  refine WO_v (a_mv (v := .i .i64 0) rfl) ?_
  refine WO_end ?_
  refine then_n ?_
  refine W_sq ?_
  refine W_sq ?_
  refine W_rg ?_
  refine WO_v (a_mv (v := v_x) rfl) ?_
  refine WO_v (a_len (hO.rd0 s_x.rd : Sl eInt h v_x x) rfl) ?_
  refine WO_v (a_eqI (a := (x.length : Int)) (b := 0) rfl rfl) ?_
  refine WO_end ?_
  refine then_n ?_
  rcases if_some hp with ⟨b₁, hp⟩ | ⟨b₁, hp⟩
  · refine W_cT (t := (decide ((x.length : Int) = 0))) rfl b₁ ?_
    refine W_sq ?_
    refine W_rg ?_
    refine WO_v (a_mv (v := .i .i64 0) rfl) ?_
    refine WO_end ?_
    refine then_n ?_
    refine W_rt ?_
    refine then_r ?_
    refine Ret_r (rs_t (n := 2) (v := .i .i64 0) rfl rs_nil) ?_
    have hp := Option.some.inj hp; subst hp
    exact (And.intro rfl (hO.pick [] rfl (by decide)))
  · refine W_cF (t := (decide ((x.length : Int) = 0))) rfl b₁ ?_
    refine W_sk ?_
    refine then_n ?_
    refine W_sq ?_
    refine W_rg ?_
    refine WO_v (a_mv (v := v_x) rfl) ?_
    obtain ⟨x1, hx₁, hp⟩ := bd_some hp
    obtain ⟨u₁, k₁, ca₁, rfl, hW₁⟩ := p_slices_Max_int.ok (h := h)  (hO.rd0 s_x.rd : Sl eInt h v_x x) hx₁
    refine WO_c (id := 70) (caps := []) rfl (mp_cons (v := v_x) rfl mp_nil) ca₁ ?_
    have hO₁ : Own B h k₁ [] := hO.call hW₁ rfl
    refine WO_v (a_mv (v := v_x) rfl) ?_
    obtain ⟨x2, hx₂, hp⟩ := bd_some hp
    obtain ⟨u₂, k₂, ca₂, rfl, hW₂⟩ := p_slices_Min_int.ok (h := k₁)  (hO₁.rd0 s_x.rd : Sl eInt k₁ v_x x) hx₂
    refine WO_c (id := 71) (caps := []) rfl (mp_cons (v := v_x) rfl mp_nil) ca₂ ?_
    have hO₂ : Own B h k₂ [] := hO₁.call hW₂ rfl
    obtain ⟨c₁, hp⟩ := ck_some hp
    refine WO_v (a_sub (a := x1) (b := x2) rfl rfl c₁) ?_
    refine WO_v (a_mv (v := .i .i64 (x1 - x2)) rfl) ?_
    refine WO_end ?_
    refine then_n ?_
    refine W_rt ?_
    refine Ret_r (rs_t (n := 2) (v := .i .i64 (x1 - x2)) rfl rs_nil) ?_
    have hp := Option.some.inj hp; subst hp
    exact (And.intro rfl (hO₂.pick [] rfl (by decide)))

theorem p_muntinref04_Span.ok {h : Hp} {x : List Int} {v_x : V} (s_x : Sl eInt h v_x x) {r : Int} (hp : p_muntinref04_Span x = some r) :
    ∃ u k', Is G 113 [v_x] h u k' ∧ V.i .i64 r = u ∧ Own (fun r => r < h.n) h k' [] := by
  refine WC.is (WC_of G_F_muntinref04_Span ?_)
  unfold p_muntinref04_Span at hp
  let B : Nat → Prop := (fun r => r < h.n)
  have hO : Own B h h [] := Own.start0 h
  refine W_sq ?_
  refine W_rg ?_
  refine WO_v (a_mv (v := .i .i64 0) rfl) ?_
  refine WO_end ?_
  refine then_n ?_
  refine W_sq ?_
  refine W_rg ?_
  refine WO_v (a_mv (v := .i .i64 0) rfl) ?_
  refine WO_end ?_
  refine then_n ?_
  refine W_sq ?_
  refine W_rg ?_
  refine WO_v (a_mv (v := .i .i64 0) rfl) ?_
  refine WO_end ?_
  refine then_n ?_
  refine W_sq ?_
  refine W_sq ?_
  refine W_rg ?_
  refine WO_v (a_mv (v := .i .i64 0) rfl) ?_
  refine WO_end ?_
  refine then_n ?_
  refine W_bl ?_
  obtain ⟨o₁, ho₁, hp⟩ := bd_some hp
  refine W.mono (Q := fun e fr k => match (generalizing := false) o₁ with
      | (low1, high1) => e = (.exit 0) ∧ fr 3 = .i .i64 low1 ∧ fr 4 = .i .i64 high1 ∧ Own B h k []) ?_ ?_
  · clear hp
    refine W_loopF (fun st fr k => match st with | (low, high, i) => fr 0 = v_x ∧ fr 3 = .i .i64 low ∧ fr 4 = .i .i64 high ∧ fr 5 = .i .i64 i ∧ Own B h k []) ho₁ (s := (0, 0, 0)) (And.intro (rfl) (And.intro (rfl) (And.intro (rfl) (And.intro (rfl) (hO.pick [] rfl (by decide)))))) ?_
    rintro ⟨low, high, i⟩ q₂ k₂ ⟨q₂_0, q₂_3, q₂_4, q₂_5, hO₂⟩ o₂ hp
    dsimp only [p_muntinref04_Span.s0] at hp
    refine W_sq ?_
    refine W_sq ?_
    refine W_rg ?_
    refine WO_v (a_mv (v := .i .i64 i) q₂_5) ?_
    refine WO_v (a_mv (v := v_x) q₂_0) ?_
    refine WO_v (a_len (hO₂.rd0 s_x.rd : Sl eInt k₂ v_x x) rfl) ?_
    refine WO_v (a_lss (a := i) (b := (x.length : Int)) rfl rfl) ?_
    refine WO_end ?_
    refine then_n ?_
    rcases if_some hp with ⟨b₁, hp⟩ | ⟨b₁, hp⟩
    · refine W_cT (t := (decide (i < (x.length : Int)))) rfl b₁ ?_
      refine W_sk ?_
      refine then_n ?_
      refine W_sq ?_
      refine W_bl ?_
      refine W_sq ?_
      refine W_sq ?_
      refine W_rg ?_
      refine WO_v (a_mv (v := .i .i64 i) q₂_5) ?_
      refine WO_v (a_eqI (a := i) (b := 0) rfl rfl) ?_
      refine WO_v (a_mv (v := .b (decide (i = 0))) rfl) ?_
      obtain ⟨t, hv₁, hp⟩ := bd_some hp
      refine WO_cut 7 (fun fr' k' => k₂ = k' ∧ fr' 21 = .b t ∧ fr' 0 = v_x ∧ fr' 3 = .i .i64 low ∧ fr' 4 = .i .i64 high ∧ fr' 5 = .i .i64 i) ?_ ?_
      · clear hp; rcases if_some hv₁ with ⟨b₂, hp⟩ | ⟨b₂, hp⟩
        · skip
          refine WO_off rfl b₂ ?_
          refine WO_off rfl b₂ ?_
          refine WO_off rfl b₂ ?_
          refine WO_off rfl b₂ ?_
          refine WO_off rfl b₂ ?_
          refine WO_off rfl b₂ ?_
          refine WO_v (a_pickT (t := (decide (i = 0))) (v := .b t) rfl b₂ (Eq.trans (b := V.b true) rfl (congrArg V.b (Option.some.inj hp)))) ?_
          refine WO_end ?_
          exact ⟨rfl, rfl, q₂_0, q₂_3, q₂_4, q₂_5⟩
        · skip
          refine WO_on rfl b₂ ?_
          refine WO_v (a_mv (v := v_x) q₂_0) ?_
          refine WO_on rfl b₂ ?_
          refine WO_v (a_mv (v := .i .i64 i) q₂_5) ?_
          refine WO_on rfl b₂ ?_
          obtain ⟨c₁, hp⟩ := ck_some hp
          refine WO_v (a_ixa (E := eInt) (z := i) (hO₂.rd0 s_x.rd : Sl eInt k₂ v_x x) rfl rfl c₁) ?_
          refine WO_on rfl b₂ ?_
          refine WO_v (a_ldE (w := .i .i64 (gi x (i : Int).toNat)) (hO₂.rd0 s_x.rd : Sl eInt k₂ v_x x) rfl (toNat_lt c₁) rfl) ?_
          refine WO_on rfl b₂ ?_
          refine WO_v (a_mv (v := .i .i64 low) q₂_3) ?_
          refine WO_on rfl b₂ ?_
          refine WO_v (a_lss (a := (gi x (i : Int).toNat)) (b := low) rfl rfl) ?_
          refine WO_v (a_pickF (t := (decide (i = 0))) (v := .b t) rfl b₂ (Eq.trans (b := V.b (decide ((gi x (i : Int).toNat) < low))) rfl (congrArg V.b (Option.some.inj hp)))) ?_
          refine WO_end ?_
          exact ⟨rfl, rfl, q₂_0, q₂_3, q₂_4, q₂_5⟩
      rintro frg₁ _ ⟨rfl, g₁_21, g₁_0, g₁_3, g₁_4, g₁_5⟩
      refine WO_end ?_
      refine then_n ?_
      obtain ⟨o₃, ho₂, hp⟩ := bd_some hp
      refine W.mono (Q := fun e fr k => match (generalizing := false) o₃ with
          | low2 => e = .normal ∧ fr 0 = v_x ∧ fr 3 = .i .i64 low2 ∧ fr 4 = .i .i64 high ∧ fr 5 = .i .i64 i ∧ Own B h k []) ?_ ?_
      · clear hp; have hp := ho₂; clear ho₂
        rcases if_some hp with ⟨b₃, hp⟩ | ⟨b₃, hp⟩
        · refine W_cT (t := t) g₁_21 b₃ ?_
          refine W_rg ?_
          refine WO_v (a_mv (v := v_x) g₁_0) ?_
          refine WO_v (a_mv (v := .i .i64 i) g₁_5) ?_
          obtain ⟨c₂, hp⟩ := ck_some hp
          refine WO_v (a_ixa (E := eInt) (z := i) (hO₂.rd0 s_x.rd : Sl eInt k₂ v_x x) rfl rfl c₂) ?_
          refine WO_v (a_ldE (w := .i .i64 (gi x (i : Int).toNat)) (hO₂.rd0 s_x.rd : Sl eInt k₂ v_x x) rfl (toNat_lt c₂) rfl) ?_
          refine WO_v (a_mv (v := .i .i64 (gi x (i : Int).toNat)) rfl) ?_
          refine WO_end ?_
          have hp := Option.some.inj hp; subst hp
          exact (And.intro rfl (And.intro (g₁_0) (And.intro (rfl) (And.intro (g₁_4) (And.intro (g₁_5) (hO₂.pick [] rfl (by decide)))))))
        · refine W_cF (t := t) g₁_21 b₃ ?_
          refine W_sk ?_
          have hp := Option.some.inj hp; subst hp
          exact (And.intro rfl (And.intro (g₁_0) (And.intro (g₁_3) (And.intro (g₁_4) (And.intro (g₁_5) (hO₂.pick [] rfl (by decide)))))))
      intro e₂ q₃ k₃ hJ₂
      obtain ⟨low2, rfl⟩ : ∃ x, x = o₃ := ⟨_, rfl⟩
      obtain ⟨rfl, q₃_0, q₃_3, q₃_4, q₃_5, hO₃⟩ := hJ₂
      refine then_n ?_
      refine W_sq ?_
      refine W_rg ?_
      refine WO_v (a_mv (v := .i .i64 i) q₃_5) ?_
      refine WO_v (a_eqI (a := i) (b := 0) rfl rfl) ?_
      refine WO_v (a_mv (v := .b (decide (i = 0))) rfl) ?_
      obtain ⟨t1, hv₂, hp⟩ := bd_some hp
      refine WO_cut 7 (fun fr' k' => k₃ = k' ∧ fr' 35 = .b t1 ∧ fr' 0 = v_x ∧ fr' 3 = .i .i64 low2 ∧ fr' 4 = .i .i64 high ∧ fr' 5 = .i .i64 i) ?_ ?_
      · clear hp; rcases if_some hv₂ with ⟨b₄, hp⟩ | ⟨b₄, hp⟩
        · skip
          refine WO_off rfl b₄ ?_
          refine WO_off rfl b₄ ?_
          refine WO_off rfl b₄ ?_
          refine WO_off rfl b₄ ?_
          refine WO_off rfl b₄ ?_
          refine WO_off rfl b₄ ?_
          refine WO_v (a_pickT (t := (decide (i = 0))) (v := .b t1) rfl b₄ (Eq.trans (b := V.b true) rfl (congrArg V.b (Option.some.inj hp)))) ?_
          refine WO_end ?_
          exact ⟨rfl, rfl, q₃_0, q₃_3, q₃_4, q₃_5⟩
        · skip
          refine WO_on rfl b₄ ?_
          refine WO_v (a_mv (v := v_x) q₃_0) ?_
          refine WO_on rfl b₄ ?_
          refine WO_v (a_mv (v := .i .i64 i) q₃_5) ?_
          refine WO_on rfl b₄ ?_
          obtain ⟨c₃, hp⟩ := ck_some hp
          refine WO_v (a_ixa (E := eInt) (z := i) (hO₃.rd0 s_x.rd : Sl eInt k₃ v_x x) rfl rfl c₃) ?_
          refine WO_on rfl b₄ ?_
          refine WO_v (a_ldE (w := .i .i64 (gi x (i : Int).toNat)) (hO₃.rd0 s_x.rd : Sl eInt k₃ v_x x) rfl (toNat_lt c₃) rfl) ?_
          refine WO_on rfl b₄ ?_
          refine WO_v (a_mv (v := .i .i64 high) q₃_4) ?_
          refine WO_on rfl b₄ ?_
          refine WO_v (a_gtr (a := (gi x (i : Int).toNat)) (b := high) rfl rfl) ?_
          refine WO_v (a_pickF (t := (decide (i = 0))) (v := .b t1) rfl b₄ (Eq.trans (b := V.b (decide (high < (gi x (i : Int).toNat)))) rfl (congrArg V.b (Option.some.inj hp)))) ?_
          refine WO_end ?_
          exact ⟨rfl, rfl, q₃_0, q₃_3, q₃_4, q₃_5⟩
      rintro frg₂ _ ⟨rfl, g₂_35, g₂_0, g₂_3, g₂_4, g₂_5⟩
      refine WO_end ?_
      refine then_n ?_
      rcases if_some hp with ⟨b₅, hp⟩ | ⟨b₅, hp⟩
      · refine W_cT (t := t1) g₂_35 b₅ ?_
        refine W_rg ?_
        refine WO_v (a_mv (v := v_x) g₂_0) ?_
        refine WO_v (a_mv (v := .i .i64 i) g₂_5) ?_
        obtain ⟨c₄, hp⟩ := ck_some hp
        refine WO_v (a_ixa (E := eInt) (z := i) (hO₃.rd0 s_x.rd : Sl eInt k₃ v_x x) rfl rfl c₄) ?_
        refine WO_v (a_ldE (w := .i .i64 (gi x (i : Int).toNat)) (hO₃.rd0 s_x.rd : Sl eInt k₃ v_x x) rfl (toNat_lt c₄) rfl) ?_
        refine WO_v (a_mv (v := .i .i64 (gi x (i : Int).toNat)) rfl) ?_
        refine WO_end ?_
        refine blk_n ?_
        refine then_n ?_
        refine W_rg ?_
        refine WO_v (a_mv (v := .i .i64 i) g₂_5) ?_
        obtain ⟨c₅, hp⟩ := ck_some hp
        refine WO_v (a_add (a := i) (b := 1) rfl rfl c₅) ?_
        refine WO_v (a_mv (v := .i .i64 (i + 1)) rfl) ?_
        refine WO_end ?_
        have hp := Option.some.inj hp; subst hp
        exact (Or.inl (Exists.intro (low2, gi x (i : Int).toNat, i + 1) (And.intro rfl (And.intro rfl (And.intro (g₂_0) (And.intro (g₂_3) (And.intro (rfl) (And.intro (rfl) (hO₃.pick [] rfl (by decide))))))))))
      · refine W_cF (t := t1) g₂_35 b₅ ?_
        refine W_sk ?_
        refine blk_n ?_
        refine then_n ?_
        refine W_rg ?_
        refine WO_v (a_mv (v := .i .i64 i) g₂_5) ?_
        obtain ⟨c₆, hp⟩ := ck_some hp
        refine WO_v (a_add (a := i) (b := 1) rfl rfl c₆) ?_
        refine WO_v (a_mv (v := .i .i64 (i + 1)) rfl) ?_
        refine WO_end ?_
        have hp := Option.some.inj hp; subst hp
        exact (Or.inl (Exists.intro (low2, high, i + 1) (And.intro rfl (And.intro rfl (And.intro (g₂_0) (And.intro (g₂_3) (And.intro (g₂_4) (And.intro (rfl) (hO₃.pick [] rfl (by decide))))))))))
    · refine W_cF (t := (decide (i < (x.length : Int)))) rfl b₁ ?_
      refine W_ex ?_
      refine then_e ?_
      have hp := Option.some.inj hp; subst hp
      refine (Or.inr (Exists.intro (low, high) (And.intro rfl (And.intro (fun h => nomatch h) (fun he => ?_)))))
      subst he; exact (And.intro rfl (And.intro (q₂_3) (And.intro (q₂_4) (hO₂.pick [] rfl (by decide)))))
  intro e₁ q₁ k₁ hJ₁
  obtain ⟨low1, high1⟩ := o₁
  obtain ⟨rfl, q₁_3, q₁_4, hO₁⟩ := hJ₁
  refine blk_i ?_
  refine then_n ?_
  refine W_sq ?_
  refine W_rg ?_
  refine WO_v (a_mv (v := .i .i64 high1) q₁_4) ?_
  refine WO_v (a_mv (v := .i .i64 low1) q₁_3) ?_
  obtain ⟨c₇, hp⟩ := ck_some hp
  refine WO_v (a_sub (a := high1) (b := low1) rfl rfl c₇) ?_
  refine WO_v (a_mv (v := .i .i64 (high1 - low1)) rfl) ?_
  refine WO_end ?_
  refine then_n ?_
  refine W_rt ?_
  refine Ret_r (rs_t (n := 2) (v := .i .i64 (high1 - low1)) rfl rs_nil) ?_
  have hp := Option.some.inj hp; subst hp
  exact (And.intro rfl (hO₁.pick [] rfl (by decide)))

theorem p_slices_Clone_api_Arc.ok {h : Hp} {s : List T_api_Arc} {v_s : V} (s_s : Sl e_T_api_Arc h v_s s) {r : List T_api_Arc} (hp : p_slices_Clone_api_Arc s = some r) :
    ∃ u k', Is G 114 [v_s] h u k' ∧ ∃ (v : V), v = u ∧ Own (fun r => r < h.n) h k' [eSl e_T_api_Arc v r] := by
  refine WC.is (WC_of G_F_slices_Clone_api_Arc ?_)
  obtain ⟨c1, hp⟩ := ck_some hp
  have hp := Option.some.inj hp; subst hp
  have hO : Own (fun r => r < h.n) h h [] := Own.start0 h
  refine W_sq ?_
  refine W_rg ?_
  refine WO_v (a_mv (v := .sn) rfl) ?_
  refine WO_end ?_
  refine then_n ?_
  refine W_sq ?_
  refine W_sq ?_
  refine W_rg ?_
  refine WO_v (a_mv (v := v_s) rfl) ?_
  rcases sl_nil s_s with ⟨rfl, rfl⟩ | hn
  · refine WO_v (v := .b true) rfl ?_
    refine WO_end ?_
    refine then_n ?_
    refine W_cT (t := true) rfl rfl ?_
    refine W_sq ?_
    refine W_rg ?_
    refine WO_v (a_mv (v := .sn) rfl) ?_
    refine WO_end ?_
    refine then_n ?_
    refine W_rt ?_
    refine then_r ?_
    refine Ret_r (rs_t (n := 2) (v := .sn) rfl rs_nil) ?_
    exact ⟨.sn, rfl, hO.nil e_T_api_Arc⟩
  · refine WO_v (a_eqS (v := v_s) hn rfl rfl) ?_
    refine WO_end ?_
    refine then_n ?_
    refine W_cF (t := false) rfl rfl ?_
    refine W_sk ?_
    refine then_n ?_
    refine W_sq ?_
    refine W_rg ?_
    refine WO_x (hO.bsl (E := e_T_api_Arc) (l := []) hO.fr rfl rfl) ?_
    rintro v1 k1 ⟨r1, f1, hW⟩
    have hO1 : Own (fun r => r < h.n) h k1 [eSl e_T_api_Arc v1 []] := hW
    refine WO_v (a_mv (v := v_s) rfl) ?_
    refine WO_x (hO1.app (E := e_T_api_Arc) (bytes := 24) 0 hO1.fr rfl (hO1.rd0 s_s.rd : Sl e_T_api_Arc k1 v_s s) rfl rfl (fun _ => rfl) (by simpa using c1) (by decide)) ?_
    rintro v2 k2 ⟨f2, hW⟩
    have hO2 : Own (fun r => r < h.n) h k2 [eSl e_T_api_Arc v2 ([] ++ s)] := hW
    refine WO_v (a_mv (v := v2) rfl) ?_
    refine WO_end ?_
    refine then_n ?_
    refine W_rt ?_
    refine Ret_r (rs_t (n := 2) (v := v2) rfl rs_nil) ?_
    exact ⟨v2, rfl, hO2⟩

theorem p_muntinref03_Right.ok {h : Hp} {n : Int} {arcs : List T_api_Arc} {v_arcs : V} (s_arcs : Sl e_T_api_Arc h v_arcs arcs) {r : Bool} (hp : p_muntinref03_Right n arcs = some r) :
    ∃ u k', Is G 135 [.i .i64 n, v_arcs] h u k' ∧ V.b r = u ∧ Own (fun r => r < h.n) h k' [] := by
  refine WC.is (WC_of G_F_muntinref03_Right ?_)
  unfold p_muntinref03_Right at hp
  let B : Nat → Prop := (fun r => r < h.n)
  have hO : Own B h h [] := Own.start0 h
  refine W_sq ?_
  refine W_rg ?_
  refine WO_v (a_mv (v := .b false) rfl) ?_
  refine WO_end ?_
  refine then_n ?_
  refine W_sq ?_
  refine W_sq ?_
  refine W_rg ?_
  refine WO_v (a_mv (v := .i .i64 n) rfl) ?_
  refine WO_v (a_lss (a := n) (b := 0) rfl rfl) ?_
  refine WO_v (a_mv (v := .b (decide (n < 0))) rfl) ?_
  refine WO_cut 3 (fun fr' k' => h = k' ∧ fr' 12 = .b ((decide (n < 0)) || (decide (4096 < n))) ∧ fr' 0 = .i .i64 n ∧ fr' 1 = v_arcs) ?_ ?_
  · rcases bc (decide (n < 0)) with b₁ | b₁
    · skip
      refine WO_off rfl b₁ ?_
      refine WO_off rfl b₁ ?_
      refine WO_v (a_pickT (t := (decide (n < 0))) (v := .b ((decide (n < 0)) || (decide (4096 < n)))) rfl b₁ (Eq.trans (b := V.b true) rfl (or_off b₁))) ?_
      refine WO_end ?_
      exact ⟨rfl, rfl, rfl, rfl⟩
    · skip
      refine WO_on rfl b₁ ?_
      refine WO_v (a_mv (v := .i .i64 n) rfl) ?_
      refine WO_on rfl b₁ ?_
      refine WO_v (a_gtr (a := n) (b := 4096) rfl rfl) ?_
      refine WO_v (a_pickF (t := (decide (n < 0))) (v := .b ((decide (n < 0)) || (decide (4096 < n)))) rfl b₁ (Eq.trans (b := V.b (decide (4096 < n))) rfl (or_on b₁))) ?_
      refine WO_end ?_
      exact ⟨rfl, rfl, rfl, rfl⟩
  rintro frg₁ _ ⟨rfl, g₁_12, g₁_0, g₁_1⟩
  refine WO_v (a_mv (v := .b ((decide (n < 0)) || (decide (4096 < n)))) g₁_12) ?_
  refine WO_cut 4 (fun fr' k' => h = k' ∧ fr' 17 = .b (((decide (n < 0)) || (decide (4096 < n))) || (decide (16384 < (arcs.length : Int)))) ∧ fr' 0 = .i .i64 n ∧ fr' 1 = v_arcs) ?_ ?_
  · rcases bc ((decide (n < 0)) || (decide (4096 < n))) with b₂ | b₂
    · skip
      refine WO_off rfl b₂ ?_
      refine WO_off rfl b₂ ?_
      refine WO_off rfl b₂ ?_
      refine WO_v (a_pickT (t := ((decide (n < 0)) || (decide (4096 < n)))) (v := .b (((decide (n < 0)) || (decide (4096 < n))) || (decide (16384 < (arcs.length : Int))))) rfl b₂ (Eq.trans (b := V.b true) rfl (or_off b₂))) ?_
      refine WO_end ?_
      exact ⟨rfl, rfl, g₁_0, g₁_1⟩
    · skip
      refine WO_on rfl b₂ ?_
      refine WO_v (a_mv (v := v_arcs) g₁_1) ?_
      refine WO_on rfl b₂ ?_
      refine WO_v (a_len (hO.rd0 s_arcs.rd : Sl e_T_api_Arc h v_arcs arcs) rfl) ?_
      refine WO_on rfl b₂ ?_
      refine WO_v (a_gtr (a := (arcs.length : Int)) (b := 16384) rfl rfl) ?_
      refine WO_v (a_pickF (t := ((decide (n < 0)) || (decide (4096 < n)))) (v := .b (((decide (n < 0)) || (decide (4096 < n))) || (decide (16384 < (arcs.length : Int))))) rfl b₂ (Eq.trans (b := V.b (decide (16384 < (arcs.length : Int)))) rfl (or_on b₂))) ?_
      refine WO_end ?_
      exact ⟨rfl, rfl, g₁_0, g₁_1⟩
  rintro frg₂ _ ⟨rfl, g₂_17, g₂_0, g₂_1⟩
  refine WO_end ?_
  refine then_n ?_
  rcases if_some hp with ⟨b₃, hp⟩ | ⟨b₃, hp⟩
  · refine W_cT (t := (((decide (n < 0)) || (decide (4096 < n))) || (decide (16384 < (arcs.length : Int))))) g₂_17 b₃ ?_
    refine W_sq ?_
    refine W_rg ?_
    refine WO_v (a_mv (v := .b false) rfl) ?_
    refine WO_end ?_
    refine then_n ?_
    refine W_rt ?_
    refine then_r ?_
    refine Ret_r (rs_t (n := 4) (v := .b false) rfl rs_nil) ?_
    have hp := Option.some.inj hp; subst hp
    exact (And.intro rfl (hO.pick [] rfl (by decide)))
  · refine W_cF (t := (((decide (n < 0)) || (decide (4096 < n))) || (decide (16384 < (arcs.length : Int))))) g₂_17 b₃ ?_
    refine W_sk ?_
    refine then_n ?_
    refine W_sq ?_
    refine W_sq ?_
    refine W_rg ?_
    refine WO_v (a_mv (v := .i .i64 0) rfl) ?_
    refine WO_end ?_
    refine then_n ?_
    refine W_bl ?_
    obtain ⟨o₁, ho₁, hp⟩ := bd_some hp
    refine W.mono (Q := fun e fr k => match (generalizing := false) o₁ with
        | .inl _ => e = (.exit 0) ∧ Own B h k []
        | .inr _ => e = .ret ∧ fr 4 = .b false ∧ Own B h k []) ?_ ?_
    · clear hp
      refine W_loopF (fun st fr k => match st with | i => fr 0 = .i .i64 n ∧ fr 1 = v_arcs ∧ fr 5 = .i .i64 i ∧ Own B h k []) ho₁ (s := 0) (And.intro (g₂_0) (And.intro (g₂_1) (And.intro (rfl) (hO.pick [] rfl (by decide))))) ?_
      rintro i q₂ k₂ ⟨q₂_0, q₂_1, q₂_5, hO₂⟩ o₂ hp
      dsimp only [p_muntinref03_Right.s0] at hp
      refine W_sq ?_
      refine W_sq ?_
      refine W_rg ?_
      refine WO_v (a_mv (v := .i .i64 i) q₂_5) ?_
      refine WO_v (a_mv (v := v_arcs) q₂_1) ?_
      refine WO_v (a_len (hO₂.rd0 s_arcs.rd : Sl e_T_api_Arc k₂ v_arcs arcs) rfl) ?_
      refine WO_v (a_lss (a := i) (b := (arcs.length : Int)) rfl rfl) ?_
      refine WO_end ?_
      refine then_n ?_
      rcases if_some hp with ⟨b₄, hp⟩ | ⟨b₄, hp⟩
      · refine W_cT (t := (decide (i < (arcs.length : Int)))) rfl b₄ ?_
        refine W_sk ?_
        refine then_n ?_
        refine W_sq ?_
        refine W_bl ?_
        refine W_sq ?_
        refine W_rg ?_
        refine WO_v (a_mv (v := v_arcs) q₂_1) ?_
        refine WO_v (a_mv (v := .i .i64 i) q₂_5) ?_
        obtain ⟨c₁, hp⟩ := ck_some hp
        refine WO_v (a_ixa (E := e_T_api_Arc) (z := i) (hO₂.rd0 s_arcs.rd : Sl e_T_api_Arc k₂ v_arcs arcs) rfl rfl c₁) ?_
        refine WO_v (a_ldA (E := e_T_api_Arc) (hO₂.rd0 s_arcs.rd : Sl e_T_api_Arc k₂ v_arcs arcs) rfl (toNat_lt c₁)) ?_
        refine WO_x (hO₂.alloc (cs := e_T_api_Arc.c (⟨0, 0, 0⟩ : T_api_Arc)) hO₂.fr) ?_
        rintro _ k₃ ⟨r₁, rfl, n₁, f₁, hW⟩
        have hO₃ : Own B h k₃ [eBox r₁ (e_T_api_Arc.c (⟨0, 0, 0⟩ : T_api_Arc))] := hW
        refine WO_x (hO₃.stb (ws := e_T_api_Arc.c (gi arcs (i : Int).toNat)) (cs' := e_T_api_Arc.c (gi arcs (i : Int).toNat)) (v := .ag (e_T_api_Arc.c (gi arcs (i : Int).toNat))) 0 rfl rfl rfl rfl ⟨rfl, Nat.le_of_ble_eq_true rfl, rfl⟩ rfl) ?_
        rintro _ k₄ ⟨rfl, f₂, m₁, hW⟩
        have hO₄ : Own B h k₄ [eBox r₁ (e_T_api_Arc.c (gi arcs (i : Int).toNat))] := hW
        refine WO_end ?_
        refine then_n ?_
        refine W_sq ?_
        refine W_rg ?_
        refine WO_v (a_fa (r := r₁) (o := 0) (o' := 0) rfl rfl) ?_
        refine WO_v (a_ldb (cs := (e_T_api_Arc.c (gi arcs (i : Int).toNat))) (v := .i .i64 ((gi arcs (i : Int).toNat).From)) (hO₄.box 0 rfl) rfl rfl) ?_
        refine WO_v (a_lss (a := ((gi arcs (i : Int).toNat).From)) (b := 0) rfl rfl) ?_
        refine WO_v (a_mv (v := .b (decide (((gi arcs (i : Int).toNat).From) < 0))) rfl) ?_
        refine WO_cut 5 (fun fr' k' => k₄ = k' ∧ fr' 36 = .b ((decide (((gi arcs (i : Int).toNat).From) < 0)) || (decide (n ≤ ((gi arcs (i : Int).toNat).From)))) ∧ fr' 0 = .i .i64 n ∧ fr' 1 = v_arcs ∧ fr' 5 = .i .i64 i ∧ fr' 6 = .p r₁ 0) ?_ ?_
        · rcases bc (decide (((gi arcs (i : Int).toNat).From) < 0)) with b₅ | b₅
          · skip
            refine WO_off rfl b₅ ?_
            refine WO_off rfl b₅ ?_
            refine WO_off rfl b₅ ?_
            refine WO_off rfl b₅ ?_
            refine WO_v (a_pickT (t := (decide (((gi arcs (i : Int).toNat).From) < 0))) (v := .b ((decide (((gi arcs (i : Int).toNat).From) < 0)) || (decide (n ≤ ((gi arcs (i : Int).toNat).From))))) rfl b₅ (Eq.trans (b := V.b true) rfl (or_off b₅))) ?_
            refine WO_end ?_
            exact ⟨rfl, rfl, q₂_0, q₂_1, q₂_5, rfl⟩
          · skip
            refine WO_on rfl b₅ ?_
            refine WO_v (a_fa (r := r₁) (o := 0) (o' := 0) rfl rfl) ?_
            refine WO_on rfl b₅ ?_
            refine WO_v (a_ldb (cs := (e_T_api_Arc.c (gi arcs (i : Int).toNat))) (v := .i .i64 ((gi arcs (i : Int).toNat).From)) (hO₄.box 0 rfl) rfl rfl) ?_
            refine WO_on rfl b₅ ?_
            refine WO_v (a_mv (v := .i .i64 n) q₂_0) ?_
            refine WO_on rfl b₅ ?_
            refine WO_v (a_geq (a := ((gi arcs (i : Int).toNat).From)) (b := n) rfl rfl) ?_
            refine WO_v (a_pickF (t := (decide (((gi arcs (i : Int).toNat).From) < 0))) (v := .b ((decide (((gi arcs (i : Int).toNat).From) < 0)) || (decide (n ≤ ((gi arcs (i : Int).toNat).From))))) rfl b₅ (Eq.trans (b := V.b (decide (n ≤ ((gi arcs (i : Int).toNat).From)))) rfl (or_on b₅))) ?_
            refine WO_end ?_
            exact ⟨rfl, rfl, q₂_0, q₂_1, q₂_5, rfl⟩
        rintro frg₃ _ ⟨rfl, g₃_36, g₃_0, g₃_1, g₃_5, g₃_6⟩
        refine WO_v (a_mv (v := .b ((decide (((gi arcs (i : Int).toNat).From) < 0)) || (decide (n ≤ ((gi arcs (i : Int).toNat).From))))) g₃_36) ?_
        refine WO_cut 4 (fun fr' k' => k₄ = k' ∧ fr' 41 = .b (((decide (((gi arcs (i : Int).toNat).From) < 0)) || (decide (n ≤ ((gi arcs (i : Int).toNat).From)))) || (decide (((gi arcs (i : Int).toNat).To) < 0))) ∧ fr' 0 = .i .i64 n ∧ fr' 1 = v_arcs ∧ fr' 5 = .i .i64 i ∧ fr' 6 = .p r₁ 0) ?_ ?_
        · rcases bc ((decide (((gi arcs (i : Int).toNat).From) < 0)) || (decide (n ≤ ((gi arcs (i : Int).toNat).From)))) with b₆ | b₆
          · skip
            refine WO_off rfl b₆ ?_
            refine WO_off rfl b₆ ?_
            refine WO_off rfl b₆ ?_
            refine WO_v (a_pickT (t := ((decide (((gi arcs (i : Int).toNat).From) < 0)) || (decide (n ≤ ((gi arcs (i : Int).toNat).From))))) (v := .b (((decide (((gi arcs (i : Int).toNat).From) < 0)) || (decide (n ≤ ((gi arcs (i : Int).toNat).From)))) || (decide (((gi arcs (i : Int).toNat).To) < 0)))) rfl b₆ (Eq.trans (b := V.b true) rfl (or_off b₆))) ?_
            refine WO_end ?_
            exact ⟨rfl, rfl, g₃_0, g₃_1, g₃_5, g₃_6⟩
          · skip
            refine WO_on rfl b₆ ?_
            refine WO_v (a_fa (r := r₁) (o := 0) (o' := 1) g₃_6 rfl) ?_
            refine WO_on rfl b₆ ?_
            refine WO_v (a_ldb (cs := (e_T_api_Arc.c (gi arcs (i : Int).toNat))) (v := .i .i64 ((gi arcs (i : Int).toNat).To)) (hO₄.box 0 rfl) rfl rfl) ?_
            refine WO_on rfl b₆ ?_
            refine WO_v (a_lss (a := ((gi arcs (i : Int).toNat).To)) (b := 0) rfl rfl) ?_
            refine WO_v (a_pickF (t := ((decide (((gi arcs (i : Int).toNat).From) < 0)) || (decide (n ≤ ((gi arcs (i : Int).toNat).From))))) (v := .b (((decide (((gi arcs (i : Int).toNat).From) < 0)) || (decide (n ≤ ((gi arcs (i : Int).toNat).From)))) || (decide (((gi arcs (i : Int).toNat).To) < 0)))) rfl b₆ (Eq.trans (b := V.b (decide (((gi arcs (i : Int).toNat).To) < 0))) rfl (or_on b₆))) ?_
            refine WO_end ?_
            exact ⟨rfl, rfl, g₃_0, g₃_1, g₃_5, g₃_6⟩
        rintro frg₄ _ ⟨rfl, g₄_41, g₄_0, g₄_1, g₄_5, g₄_6⟩
        refine WO_v (a_mv (v := .b (((decide (((gi arcs (i : Int).toNat).From) < 0)) || (decide (n ≤ ((gi arcs (i : Int).toNat).From)))) || (decide (((gi arcs (i : Int).toNat).To) < 0)))) g₄_41) ?_
        refine WO_cut 5 (fun fr' k' => k₄ = k' ∧ fr' 47 = .b ((((decide (((gi arcs (i : Int).toNat).From) < 0)) || (decide (n ≤ ((gi arcs (i : Int).toNat).From)))) || (decide (((gi arcs (i : Int).toNat).To) < 0))) || (decide (n ≤ ((gi arcs (i : Int).toNat).To)))) ∧ fr' 0 = .i .i64 n ∧ fr' 1 = v_arcs ∧ fr' 5 = .i .i64 i ∧ fr' 6 = .p r₁ 0) ?_ ?_
        · rcases bc (((decide (((gi arcs (i : Int).toNat).From) < 0)) || (decide (n ≤ ((gi arcs (i : Int).toNat).From)))) || (decide (((gi arcs (i : Int).toNat).To) < 0))) with b₇ | b₇
          · skip
            refine WO_off rfl b₇ ?_
            refine WO_off rfl b₇ ?_
            refine WO_off rfl b₇ ?_
            refine WO_off rfl b₇ ?_
            refine WO_v (a_pickT (t := (((decide (((gi arcs (i : Int).toNat).From) < 0)) || (decide (n ≤ ((gi arcs (i : Int).toNat).From)))) || (decide (((gi arcs (i : Int).toNat).To) < 0)))) (v := .b ((((decide (((gi arcs (i : Int).toNat).From) < 0)) || (decide (n ≤ ((gi arcs (i : Int).toNat).From)))) || (decide (((gi arcs (i : Int).toNat).To) < 0))) || (decide (n ≤ ((gi arcs (i : Int).toNat).To))))) rfl b₇ (Eq.trans (b := V.b true) rfl (or_off b₇))) ?_
            refine WO_end ?_
            exact ⟨rfl, rfl, g₄_0, g₄_1, g₄_5, g₄_6⟩
          · skip
            refine WO_on rfl b₇ ?_
            refine WO_v (a_fa (r := r₁) (o := 0) (o' := 1) g₄_6 rfl) ?_
            refine WO_on rfl b₇ ?_
            refine WO_v (a_ldb (cs := (e_T_api_Arc.c (gi arcs (i : Int).toNat))) (v := .i .i64 ((gi arcs (i : Int).toNat).To)) (hO₄.box 0 rfl) rfl rfl) ?_
            refine WO_on rfl b₇ ?_
            refine WO_v (a_mv (v := .i .i64 n) g₄_0) ?_
            refine WO_on rfl b₇ ?_
            refine WO_v (a_geq (a := ((gi arcs (i : Int).toNat).To)) (b := n) rfl rfl) ?_
            refine WO_v (a_pickF (t := (((decide (((gi arcs (i : Int).toNat).From) < 0)) || (decide (n ≤ ((gi arcs (i : Int).toNat).From)))) || (decide (((gi arcs (i : Int).toNat).To) < 0)))) (v := .b ((((decide (((gi arcs (i : Int).toNat).From) < 0)) || (decide (n ≤ ((gi arcs (i : Int).toNat).From)))) || (decide (((gi arcs (i : Int).toNat).To) < 0))) || (decide (n ≤ ((gi arcs (i : Int).toNat).To))))) rfl b₇ (Eq.trans (b := V.b (decide (n ≤ ((gi arcs (i : Int).toNat).To)))) rfl (or_on b₇))) ?_
            refine WO_end ?_
            exact ⟨rfl, rfl, g₄_0, g₄_1, g₄_5, g₄_6⟩
        rintro frg₅ _ ⟨rfl, g₅_47, g₅_0, g₅_1, g₅_5, g₅_6⟩
        refine WO_v (a_mv (v := .b ((((decide (((gi arcs (i : Int).toNat).From) < 0)) || (decide (n ≤ ((gi arcs (i : Int).toNat).From)))) || (decide (((gi arcs (i : Int).toNat).To) < 0))) || (decide (n ≤ ((gi arcs (i : Int).toNat).To))))) g₅_47) ?_
        refine WO_cut 4 (fun fr' k' => k₄ = k' ∧ fr' 52 = .b (((((decide (((gi arcs (i : Int).toNat).From) < 0)) || (decide (n ≤ ((gi arcs (i : Int).toNat).From)))) || (decide (((gi arcs (i : Int).toNat).To) < 0))) || (decide (n ≤ ((gi arcs (i : Int).toNat).To)))) || (decide (((gi arcs (i : Int).toNat).Weight) < 0))) ∧ fr' 0 = .i .i64 n ∧ fr' 1 = v_arcs ∧ fr' 5 = .i .i64 i ∧ fr' 6 = .p r₁ 0) ?_ ?_
        · rcases bc ((((decide (((gi arcs (i : Int).toNat).From) < 0)) || (decide (n ≤ ((gi arcs (i : Int).toNat).From)))) || (decide (((gi arcs (i : Int).toNat).To) < 0))) || (decide (n ≤ ((gi arcs (i : Int).toNat).To)))) with b₈ | b₈
          · skip
            refine WO_off rfl b₈ ?_
            refine WO_off rfl b₈ ?_
            refine WO_off rfl b₈ ?_
            refine WO_v (a_pickT (t := ((((decide (((gi arcs (i : Int).toNat).From) < 0)) || (decide (n ≤ ((gi arcs (i : Int).toNat).From)))) || (decide (((gi arcs (i : Int).toNat).To) < 0))) || (decide (n ≤ ((gi arcs (i : Int).toNat).To))))) (v := .b (((((decide (((gi arcs (i : Int).toNat).From) < 0)) || (decide (n ≤ ((gi arcs (i : Int).toNat).From)))) || (decide (((gi arcs (i : Int).toNat).To) < 0))) || (decide (n ≤ ((gi arcs (i : Int).toNat).To)))) || (decide (((gi arcs (i : Int).toNat).Weight) < 0)))) rfl b₈ (Eq.trans (b := V.b true) rfl (or_off b₈))) ?_
            refine WO_end ?_
            exact ⟨rfl, rfl, g₅_0, g₅_1, g₅_5, g₅_6⟩
          · skip
            refine WO_on rfl b₈ ?_
            refine WO_v (a_fa (r := r₁) (o := 0) (o' := 2) g₅_6 rfl) ?_
            refine WO_on rfl b₈ ?_
            refine WO_v (a_ldb (cs := (e_T_api_Arc.c (gi arcs (i : Int).toNat))) (v := .i .i64 ((gi arcs (i : Int).toNat).Weight)) (hO₄.box 0 rfl) rfl rfl) ?_
            refine WO_on rfl b₈ ?_
            refine WO_v (a_lss (a := ((gi arcs (i : Int).toNat).Weight)) (b := 0) rfl rfl) ?_
            refine WO_v (a_pickF (t := ((((decide (((gi arcs (i : Int).toNat).From) < 0)) || (decide (n ≤ ((gi arcs (i : Int).toNat).From)))) || (decide (((gi arcs (i : Int).toNat).To) < 0))) || (decide (n ≤ ((gi arcs (i : Int).toNat).To))))) (v := .b (((((decide (((gi arcs (i : Int).toNat).From) < 0)) || (decide (n ≤ ((gi arcs (i : Int).toNat).From)))) || (decide (((gi arcs (i : Int).toNat).To) < 0))) || (decide (n ≤ ((gi arcs (i : Int).toNat).To)))) || (decide (((gi arcs (i : Int).toNat).Weight) < 0)))) rfl b₈ (Eq.trans (b := V.b (decide (((gi arcs (i : Int).toNat).Weight) < 0))) rfl (or_on b₈))) ?_
            refine WO_end ?_
            exact ⟨rfl, rfl, g₅_0, g₅_1, g₅_5, g₅_6⟩
        rintro frg₆ _ ⟨rfl, g₆_52, g₆_0, g₆_1, g₆_5, g₆_6⟩
        refine WO_v (a_mv (v := .b (((((decide (((gi arcs (i : Int).toNat).From) < 0)) || (decide (n ≤ ((gi arcs (i : Int).toNat).From)))) || (decide (((gi arcs (i : Int).toNat).To) < 0))) || (decide (n ≤ ((gi arcs (i : Int).toNat).To)))) || (decide (((gi arcs (i : Int).toNat).Weight) < 0)))) g₆_52) ?_
        refine WO_cut 4 (fun fr' k' => k₄ = k' ∧ fr' 57 = .b ((((((decide (((gi arcs (i : Int).toNat).From) < 0)) || (decide (n ≤ ((gi arcs (i : Int).toNat).From)))) || (decide (((gi arcs (i : Int).toNat).To) < 0))) || (decide (n ≤ ((gi arcs (i : Int).toNat).To)))) || (decide (((gi arcs (i : Int).toNat).Weight) < 0))) || (decide (1000000 < ((gi arcs (i : Int).toNat).Weight)))) ∧ fr' 0 = .i .i64 n ∧ fr' 1 = v_arcs ∧ fr' 5 = .i .i64 i) ?_ ?_
        · rcases bc (((((decide (((gi arcs (i : Int).toNat).From) < 0)) || (decide (n ≤ ((gi arcs (i : Int).toNat).From)))) || (decide (((gi arcs (i : Int).toNat).To) < 0))) || (decide (n ≤ ((gi arcs (i : Int).toNat).To)))) || (decide (((gi arcs (i : Int).toNat).Weight) < 0))) with b₉ | b₉
          · skip
            refine WO_off rfl b₉ ?_
            refine WO_off rfl b₉ ?_
            refine WO_off rfl b₉ ?_
            refine WO_v (a_pickT (t := (((((decide (((gi arcs (i : Int).toNat).From) < 0)) || (decide (n ≤ ((gi arcs (i : Int).toNat).From)))) || (decide (((gi arcs (i : Int).toNat).To) < 0))) || (decide (n ≤ ((gi arcs (i : Int).toNat).To)))) || (decide (((gi arcs (i : Int).toNat).Weight) < 0)))) (v := .b ((((((decide (((gi arcs (i : Int).toNat).From) < 0)) || (decide (n ≤ ((gi arcs (i : Int).toNat).From)))) || (decide (((gi arcs (i : Int).toNat).To) < 0))) || (decide (n ≤ ((gi arcs (i : Int).toNat).To)))) || (decide (((gi arcs (i : Int).toNat).Weight) < 0))) || (decide (1000000 < ((gi arcs (i : Int).toNat).Weight))))) rfl b₉ (Eq.trans (b := V.b true) rfl (or_off b₉))) ?_
            refine WO_end ?_
            exact ⟨rfl, rfl, g₆_0, g₆_1, g₆_5⟩
          · skip
            refine WO_on rfl b₉ ?_
            refine WO_v (a_fa (r := r₁) (o := 0) (o' := 2) g₆_6 rfl) ?_
            refine WO_on rfl b₉ ?_
            refine WO_v (a_ldb (cs := (e_T_api_Arc.c (gi arcs (i : Int).toNat))) (v := .i .i64 ((gi arcs (i : Int).toNat).Weight)) (hO₄.box 0 rfl) rfl rfl) ?_
            refine WO_on rfl b₉ ?_
            refine WO_v (a_gtr (a := ((gi arcs (i : Int).toNat).Weight)) (b := 1000000) rfl rfl) ?_
            refine WO_v (a_pickF (t := (((((decide (((gi arcs (i : Int).toNat).From) < 0)) || (decide (n ≤ ((gi arcs (i : Int).toNat).From)))) || (decide (((gi arcs (i : Int).toNat).To) < 0))) || (decide (n ≤ ((gi arcs (i : Int).toNat).To)))) || (decide (((gi arcs (i : Int).toNat).Weight) < 0)))) (v := .b ((((((decide (((gi arcs (i : Int).toNat).From) < 0)) || (decide (n ≤ ((gi arcs (i : Int).toNat).From)))) || (decide (((gi arcs (i : Int).toNat).To) < 0))) || (decide (n ≤ ((gi arcs (i : Int).toNat).To)))) || (decide (((gi arcs (i : Int).toNat).Weight) < 0))) || (decide (1000000 < ((gi arcs (i : Int).toNat).Weight))))) rfl b₉ (Eq.trans (b := V.b (decide (1000000 < ((gi arcs (i : Int).toNat).Weight)))) rfl (or_on b₉))) ?_
            refine WO_end ?_
            exact ⟨rfl, rfl, g₆_0, g₆_1, g₆_5⟩
        rintro frg₇ _ ⟨rfl, g₇_57, g₇_0, g₇_1, g₇_5⟩
        refine WO_end ?_
        refine then_n ?_
        rcases if_some hp with ⟨b₁₀, hp⟩ | ⟨b₁₀, hp⟩
        · refine W_cT (t := ((((((decide (((gi arcs (i : Int).toNat).From) < 0)) || (decide (n ≤ ((gi arcs (i : Int).toNat).From)))) || (decide (((gi arcs (i : Int).toNat).To) < 0))) || (decide (n ≤ ((gi arcs (i : Int).toNat).To)))) || (decide (((gi arcs (i : Int).toNat).Weight) < 0))) || (decide (1000000 < ((gi arcs (i : Int).toNat).Weight))))) g₇_57 b₁₀ ?_
          refine W_sq ?_
          refine W_rg ?_
          refine WO_v (a_mv (v := .b false) rfl) ?_
          refine WO_end ?_
          refine then_n ?_
          refine W_rt ?_
          refine blk_r ?_
          refine then_r ?_
          have hp := Option.some.inj hp; subst hp
          refine (Or.inr (Exists.intro (.inr ()) (And.intro rfl (And.intro (fun h => nomatch h) (fun he => ?_)))))
          subst he; exact (And.intro rfl (And.intro (rfl) (hO₄.pick [] rfl (by decide))))
        · refine W_cF (t := ((((((decide (((gi arcs (i : Int).toNat).From) < 0)) || (decide (n ≤ ((gi arcs (i : Int).toNat).From)))) || (decide (((gi arcs (i : Int).toNat).To) < 0))) || (decide (n ≤ ((gi arcs (i : Int).toNat).To)))) || (decide (((gi arcs (i : Int).toNat).Weight) < 0))) || (decide (1000000 < ((gi arcs (i : Int).toNat).Weight))))) g₇_57 b₁₀ ?_
          refine W_sk ?_
          refine blk_n ?_
          refine then_n ?_
          refine W_rg ?_
          refine WO_v (a_mv (v := .i .i64 i) g₇_5) ?_
          obtain ⟨c₂, hp⟩ := ck_some hp
          refine WO_v (a_add (a := i) (b := 1) rfl rfl c₂) ?_
          refine WO_v (a_mv (v := .i .i64 (i + 1)) rfl) ?_
          refine WO_end ?_
          have hp := Option.some.inj hp; subst hp
          exact (Or.inl (Exists.intro (i + 1) (And.intro rfl (And.intro rfl (And.intro (g₇_0) (And.intro (g₇_1) (And.intro (rfl) (hO₄.pick [] rfl (by decide)))))))))
      · refine W_cF (t := (decide (i < (arcs.length : Int)))) rfl b₄ ?_
        refine W_ex ?_
        refine then_e ?_
        have hp := Option.some.inj hp; subst hp
        refine (Or.inr (Exists.intro (.inl ()) (And.intro rfl (And.intro (fun h => nomatch h) (fun he => ?_)))))
        subst he; exact (And.intro rfl (hO₂.pick [] rfl (by decide)))
    intro e₁ q₁ k₁ hJ₁
    rcases o₁ with _ | _
    · obtain ⟨rfl, hO₁⟩ := hJ₁
      refine blk_i ?_
      refine then_n ?_
      refine W_sq ?_
      refine W_rg ?_
      refine WO_v (a_mv (v := .b true) rfl) ?_
      refine WO_end ?_
      refine then_n ?_
      refine W_rt ?_
      refine Ret_r (rs_t (n := 4) (v := .b true) rfl rs_nil) ?_
      have hp := Option.some.inj hp; subst hp
      exact (And.intro rfl (hO₁.pick [] rfl (by decide)))
    · obtain ⟨rfl, q₁_4, hO₁⟩ := hJ₁
      refine blk_r ?_
      refine then_r ?_
      refine Ret_r (rs_t (n := 4) (v := .b false) q₁_4 rs_nil) ?_
      have hp := Option.some.inj hp; subst hp
      exact (And.intro rfl (hO₁.pick [] rfl (by decide)))

theorem p_muntinref03_Order.ok {h : Hp} {n : Int} {arcs : List T_api_Arc} {v_arcs : V} (s_arcs : Sl e_T_api_Arc h v_arcs arcs) {r : (List Int) × Int} (hp : p_muntinref03_Order n arcs = some r) :
    ∃ u k', Is G 115 [.i .i64 n, v_arcs] h u k' ∧ ∃ (v₁ : V), V.tu [v₁, .i .i64 r.2] = u ∧ Own (fun r => r < h.n) h k' [eSl eInt v₁ r.1] := by
  refine WC.is (WC_of G_F_muntinref03_Order ?_)
  unfold p_muntinref03_Order at hp
  let B : Nat → Prop := (fun r => r < h.n)
  have hO : Own B h h [] := Own.start0 h
  refine W_sq ?_
  refine W_rg ?_
  refine WO_v (a_mv (v := .sn) rfl) ?_
  refine WO_v (a_mv (v := .i .i64 0) rfl) ?_
  refine WO_end ?_
  refine then_n ?_
  refine W_sq ?_
  refine W_rg ?_
  refine WO_v (a_mv (v := .i .i64 n) rfl) ?_
  refine WO_v (a_mv (v := v_arcs) rfl) ?_
  obtain ⟨x, hx₁, hp⟩ := bd_some hp
  obtain ⟨u₁, k₁, ca₁, rfl, hW₁⟩ := p_muntinref03_Right.ok (h := h)  (hO.rd0 s_arcs.rd : Sl e_T_api_Arc h v_arcs arcs) hx₁
  refine WO_c (id := 135) (caps := []) rfl (mp_cons (v := .i .i64 n) rfl (mp_cons (v := v_arcs) rfl mp_nil)) ca₁ ?_
  have hO₁ : Own B h k₁ [] := hO.call hW₁ rfl
  refine WO_v (a_mv (v := .b x) rfl) ?_
  refine WO_end ?_
  refine then_n ?_
  refine W_sq ?_
  refine W_sq ?_
  refine W_rg ?_
  refine WO_v (a_mv (v := .b x) rfl) ?_
  refine WO_v (a_not (t := x) rfl) ?_
  refine WO_end ?_
  refine then_n ?_
  rcases if_some hp with ⟨b₁, hp⟩ | ⟨b₁, hp⟩
  · refine W_cT (t := (!x)) rfl b₁ ?_
    refine W_sq ?_
    refine W_rg ?_
    refine WO_v (a_mv (v := .sn) rfl) ?_
    refine WO_v (a_mv (v := .i .i64 2) rfl) ?_
    refine WO_end ?_
    refine then_n ?_
    refine W_rt ?_
    refine then_r ?_
    have hO₂ : Own B h k₁ [eSl eInt .sn ([] : List Int)] := hO₁.nil eInt
    refine Ret_r (rs_t (n := 4) (v := .sn) rfl (rs_t (n := 5) (v := .i .i64 2) rfl rs_nil)) ?_
    have hp := Option.some.inj hp; subst hp
    exact (Exists.intro V.sn (And.intro rfl (hO₂.pick [0] rfl (by decide))))
  · refine W_cF (t := (!x)) rfl b₁ ?_
    refine W_sk ?_
    refine then_n ?_
    refine W_sq ?_
    refine W_rg ?_
    refine WO_v (a_mv (v := .i .i64 n) rfl) ?_
    obtain ⟨c₁, hp⟩ := ck_some hp
    refine WO_x (hO₁.mks (E := e_bool) (y := false) (bytes := 1) (z := n) hO₁.fr rfl rfl rfl c₁ (by decide)) ?_
    rintro v₂ k₂ ⟨r₁, f₁, hW⟩
    have hO₃ : Own B h k₂ [eSl e_bool v₂ (List.replicate (n : Int).toNat false)] := hW
    refine WO_v (a_mv (v := v₂) rfl) ?_
    refine WO_end ?_
    refine then_n ?_
    refine W_sq ?_
    refine W_rg ?_
    refine WO_v (a_mv (v := .sn) rfl) ?_
    refine WO_end ?_
    refine then_n ?_
    refine W_sq ?_
    refine W_bl ?_
    obtain ⟨o₁, ho₁, hp⟩ := bd_some hp
    refine W.mono (Q := fun e fr k => match (generalizing := false) o₁ with
        | .inl l1 => e = (.exit 0) ∧ ∃ (v₄ : V), fr 8 = v₄ ∧ Own B h k [eSl eInt v₄ l1]
        | .inr _ => e = .ret ∧ fr 4 = .sn ∧ fr 5 = .i .i64 11 ∧ Own B h k []) ?_ ?_
    · clear hp
      have hO₅ : Own B h k₂ [eSl e_bool v₂ (List.replicate (n : Int).toNat false), eSl eInt .sn ([] : List Int)] := hO₃.nil eInt
      refine W_loopF (fun st fr k => match st with | (in_, l) => ∃ (v₃ : V), fr 0 = .i .i64 n ∧ fr 1 = v_arcs ∧ fr 7 = v₂ ∧ fr 8 = v₃ ∧ Own B h k [eSl e_bool v₂ in_, eSl eInt v₃ l]) ho₁ (s := (List.replicate (n : Int).toNat false, ([] : List Int))) (Exists.intro V.sn (And.intro (rfl) (And.intro (rfl) (And.intro (rfl) (And.intro (rfl) (hO₅.pick [0, 1] rfl (by decide))))))) ?_
      rintro ⟨in_, l⟩ q₂ k₄ ⟨v₃, q₂_0, q₂_1, q₂_7, q₂_8, hO₆⟩ o₂ hp
      dsimp only [p_muntinref03_Order.s0] at hp
      refine W_sq ?_
      refine W_sq ?_
      refine W_rg ?_
      refine WO_v (a_mv (v := v₃) q₂_8) ?_
      refine WO_v (a_len (hO₆.sl 1 rfl : Sl eInt k₄ v₃ l) rfl) ?_
      refine WO_v (a_mv (v := .i .i64 n) q₂_0) ?_
      refine WO_v (a_lss (a := (l.length : Int)) (b := n) rfl rfl) ?_
      refine WO_end ?_
      refine then_n ?_
      rcases if_some hp with ⟨b₂, hp⟩ | ⟨b₂, hp⟩
      · refine W_cT (t := (decide ((l.length : Int) < n))) rfl b₂ ?_
        refine W_sk ?_
        refine then_n ?_
        refine W_bl ?_
        refine W_sq ?_
        refine W_rg ?_
        refine WO_v (a_mv (v := .i .i64 (-1)) rfl) ?_
        refine WO_end ?_
        refine then_n ?_
        refine W_sq ?_
        refine W_sq ?_
        refine W_rg ?_
        refine WO_v (a_mv (v := .i .i64 n) q₂_0) ?_
        obtain ⟨c₂, hp⟩ := ck_some hp
        refine WO_v (a_sub (a := n) (b := 1) rfl rfl c₂) ?_
        refine WO_v (a_mv (v := .i .i64 (n - 1)) rfl) ?_
        refine WO_end ?_
        refine then_n ?_
        refine W_bl ?_
        obtain ⟨o₃, ho₂, hp⟩ := bd_some hp
        refine W.mono (Q := fun e fr k => match (generalizing := false) o₃ with
            | next_1 => e = (.exit 2) ∧ fr 0 = .i .i64 n ∧ fr 1 = v_arcs ∧ fr 7 = v₂ ∧ fr 8 = v₃ ∧ fr 9 = .i .i64 next_1 ∧ Own B h k [eSl e_bool v₂ in_, eSl eInt v₃ l]) ?_ ?_
        · clear hp
          refine W_loopF (fun st fr k => match st with | (next_, v) => fr 0 = .i .i64 n ∧ fr 1 = v_arcs ∧ fr 7 = v₂ ∧ fr 8 = v₃ ∧ fr 9 = .i .i64 next_ ∧ fr 10 = .i .i64 v ∧ Own B h k [eSl e_bool v₂ in_, eSl eInt v₃ l]) ho₂ (s := ((-1), n - 1)) (And.intro (q₂_0) (And.intro (q₂_1) (And.intro (q₂_7) (And.intro (q₂_8) (And.intro (rfl) (And.intro (rfl) (hO₆.pick [0, 1] rfl (by decide)))))))) ?_
          rintro ⟨next_, v⟩ q₄ k₆ ⟨q₄_0, q₄_1, q₄_7, q₄_8, q₄_9, q₄_10, hO₈⟩ o₄ hp
          dsimp only [p_muntinref03_Order.s1] at hp
          refine W_sq ?_
          refine W_sq ?_
          refine W_rg ?_
          refine WO_v (a_mv (v := .i .i64 v) q₄_10) ?_
          refine WO_v (a_geq (a := v) (b := 0) rfl rfl) ?_
          refine WO_end ?_
          refine then_n ?_
          rcases if_some hp with ⟨b₃, hp⟩ | ⟨b₃, hp⟩
          · refine W_cT (t := (decide (0 ≤ v))) rfl b₃ ?_
            refine W_sk ?_
            refine then_n ?_
            refine W_sq ?_
            refine W_bl ?_
            refine W_sq ?_
            refine W_rg ?_
            refine WO_v (a_mv (v := v₂) q₄_7) ?_
            refine WO_v (a_mv (v := .i .i64 v) q₄_10) ?_
            obtain ⟨c₃, hp⟩ := ck_some hp
            refine WO_v (a_ixa (E := e_bool) (z := v) (hO₈.sl 0 rfl : Sl e_bool k₆ v₂ in_) rfl rfl c₃) ?_
            refine WO_v (a_ldE (w := .b (gi in_ (v : Int).toNat)) (hO₈.sl 0 rfl : Sl e_bool k₆ v₂ in_) rfl (toNat_lt c₃) rfl) ?_
            refine WO_v (a_not (t := (gi in_ (v : Int).toNat)) rfl) ?_
            refine WO_v (a_mv (v := .b (!(gi in_ (v : Int).toNat))) rfl) ?_
            refine WO_end ?_
            refine then_n ?_
            refine W_sq ?_
            refine W_sq ?_
            refine W_rg ?_
            refine WO_v (a_mv (v := .i .i64 0) rfl) ?_
            refine WO_end ?_
            refine then_n ?_
            refine W_bl ?_
            obtain ⟨o₅, ho₃, hp⟩ := bd_some hp
            refine W.mono (Q := fun e fr k => match (generalizing := false) o₅ with
                | free1 => e = (.exit 4) ∧ fr 0 = .i .i64 n ∧ fr 1 = v_arcs ∧ fr 7 = v₂ ∧ fr 8 = v₃ ∧ fr 9 = .i .i64 next_ ∧ fr 10 = .i .i64 v ∧ fr 11 = .b free1 ∧ Own B h k [eSl e_bool v₂ in_, eSl eInt v₃ l]) ?_ ?_
            · clear hp
              refine W_loopF (fun st fr k => match st with | (free, i) => fr 0 = .i .i64 n ∧ fr 1 = v_arcs ∧ fr 7 = v₂ ∧ fr 8 = v₃ ∧ fr 9 = .i .i64 next_ ∧ fr 10 = .i .i64 v ∧ fr 11 = .b free ∧ fr 12 = .i .i64 i ∧ Own B h k [eSl e_bool v₂ in_, eSl eInt v₃ l]) ho₃ (s := (!(gi in_ (v : Int).toNat), 0)) (And.intro (q₄_0) (And.intro (q₄_1) (And.intro (q₄_7) (And.intro (q₄_8) (And.intro (q₄_9) (And.intro (q₄_10) (And.intro (rfl) (And.intro (rfl) (hO₈.pick [0, 1] rfl (by decide)))))))))) ?_
              rintro ⟨free, i⟩ q₆ k₈ ⟨q₆_0, q₆_1, q₆_7, q₆_8, q₆_9, q₆_10, q₆_11, q₆_12, hO₁₀⟩ o₆ hp
              dsimp only [p_muntinref03_Order.s2] at hp
              refine W_sq ?_
              refine W_sq ?_
              refine W_rg ?_
              refine WO_v (a_mv (v := .i .i64 i) q₆_12) ?_
              refine WO_v (a_mv (v := v_arcs) q₆_1) ?_
              refine WO_v (a_len (hO₁₀.rd0 s_arcs.rd : Sl e_T_api_Arc k₈ v_arcs arcs) rfl) ?_
              refine WO_v (a_lss (a := i) (b := (arcs.length : Int)) rfl rfl) ?_
              refine WO_v (a_mv (v := .b (decide (i < (arcs.length : Int)))) rfl) ?_
              refine WO_cut 2 (fun fr' k' => k₈ = k' ∧ fr' 41 = .b ((decide (i < (arcs.length : Int))) && free) ∧ fr' 0 = .i .i64 n ∧ fr' 1 = v_arcs ∧ fr' 10 = .i .i64 v ∧ fr' 11 = .b free ∧ fr' 12 = .i .i64 i ∧ fr' 7 = v₂ ∧ fr' 8 = v₃ ∧ fr' 9 = .i .i64 next_) ?_ ?_
              · rcases bc (decide (i < (arcs.length : Int))) with b₄ | b₄
                · skip
                  refine WO_on rfl b₄ ?_
                  refine WO_v (a_mv (v := .b free) q₆_11) ?_
                  refine WO_v (a_pickT (t := (decide (i < (arcs.length : Int)))) (v := .b ((decide (i < (arcs.length : Int))) && free)) rfl b₄ (Eq.trans (b := V.b free) rfl (and_on b₄))) ?_
                  refine WO_end ?_
                  exact ⟨rfl, rfl, q₆_0, q₆_1, q₆_10, q₆_11, q₆_12, q₆_7, q₆_8, q₆_9⟩
                · skip
                  refine WO_off rfl b₄ ?_
                  refine WO_v (a_pickF (t := (decide (i < (arcs.length : Int)))) (v := .b ((decide (i < (arcs.length : Int))) && free)) rfl b₄ (Eq.trans (b := V.b false) rfl (and_off b₄))) ?_
                  refine WO_end ?_
                  exact ⟨rfl, rfl, q₆_0, q₆_1, q₆_10, q₆_11, q₆_12, q₆_7, q₆_8, q₆_9⟩
              rintro frg₁ _ ⟨rfl, g₁_41, g₁_0, g₁_1, g₁_10, g₁_11, g₁_12, g₁_7, g₁_8, g₁_9⟩
              refine WO_end ?_
              refine then_n ?_
              rcases if_some hp with ⟨b₅, hp⟩ | ⟨b₅, hp⟩
              · refine W_cT (t := ((decide (i < (arcs.length : Int))) && free)) g₁_41 b₅ ?_
                refine W_sk ?_
                refine then_n ?_
                refine W_sq ?_
                refine W_bl ?_
                refine W_rg ?_
                refine WO_v (a_mv (v := v_arcs) g₁_1) ?_
                refine WO_v (a_mv (v := .i .i64 i) g₁_12) ?_
                obtain ⟨c₄, hp⟩ := ck_some hp
                refine WO_v (a_ixa (E := e_T_api_Arc) (z := i) (hO₁₀.rd0 s_arcs.rd : Sl e_T_api_Arc k₈ v_arcs arcs) rfl rfl c₄) ?_
                refine WO_v (a_faE (off' := 0) (off2 := 1) (hO₁₀.rd0 s_arcs.rd : Sl e_T_api_Arc k₈ v_arcs arcs) (toNat_lt c₄) rfl rfl) ?_
                refine WO_v (a_ldE (w := .i .i64 ((gi arcs (i : Int).toNat).To)) (hO₁₀.rd0 s_arcs.rd : Sl e_T_api_Arc k₈ v_arcs arcs) rfl (toNat_lt c₄) rfl) ?_
                refine WO_v (a_mv (v := .i .i64 v) g₁_10) ?_
                refine WO_v (a_neI (a := ((gi arcs (i : Int).toNat).To)) (b := v) rfl rfl) ?_
                refine WO_v (a_mv (v := .b (!(decide ((gi arcs (i : Int).toNat).To = v)))) rfl) ?_
                obtain ⟨t, hv₁, hp⟩ := bd_some hp
                refine WO_cut 9 (fun fr' k' => k₈ = k' ∧ fr' 60 = .b t ∧ fr' 0 = .i .i64 n ∧ fr' 1 = v_arcs ∧ fr' 10 = .i .i64 v ∧ fr' 12 = .i .i64 i ∧ fr' 7 = v₂ ∧ fr' 8 = v₃ ∧ fr' 9 = .i .i64 next_) ?_ ?_
                · clear hp; rcases if_some hv₁ with ⟨b₆, hp⟩ | ⟨b₆, hp⟩
                  · skip
                    refine WO_off rfl b₆ ?_
                    refine WO_off rfl b₆ ?_
                    refine WO_off rfl b₆ ?_
                    refine WO_off rfl b₆ ?_
                    refine WO_off rfl b₆ ?_
                    refine WO_off rfl b₆ ?_
                    refine WO_off rfl b₆ ?_
                    refine WO_off rfl b₆ ?_
                    refine WO_v (a_pickT (t := (!(decide ((gi arcs (i : Int).toNat).To = v)))) (v := .b t) rfl b₆ (Eq.trans (b := V.b true) rfl (congrArg V.b (Option.some.inj hp)))) ?_
                    refine WO_end ?_
                    exact ⟨rfl, rfl, g₁_0, g₁_1, g₁_10, g₁_12, g₁_7, g₁_8, g₁_9⟩
                  · skip
                    refine WO_on rfl b₆ ?_
                    refine WO_v (a_mv (v := v₂) g₁_7) ?_
                    refine WO_on rfl b₆ ?_
                    refine WO_v (a_mv (v := v_arcs) g₁_1) ?_
                    refine WO_on rfl b₆ ?_
                    refine WO_v (a_mv (v := .i .i64 i) g₁_12) ?_
                    refine WO_on rfl b₆ ?_
                    refine WO_v (a_ixa (E := e_T_api_Arc) (z := i) (hO₁₀.rd0 s_arcs.rd : Sl e_T_api_Arc k₈ v_arcs arcs) rfl rfl c₄) ?_
                    refine WO_on rfl b₆ ?_
                    refine WO_v (a_faE (off' := 0) (off2 := 0) (hO₁₀.rd0 s_arcs.rd : Sl e_T_api_Arc k₈ v_arcs arcs) (toNat_lt c₄) rfl rfl) ?_
                    refine WO_on rfl b₆ ?_
                    refine WO_v (a_ldE (w := .i .i64 ((gi arcs (i : Int).toNat).From)) (hO₁₀.rd0 s_arcs.rd : Sl e_T_api_Arc k₈ v_arcs arcs) rfl (toNat_lt c₄) rfl) ?_
                    refine WO_on rfl b₆ ?_
                    obtain ⟨c₅, hp⟩ := ck_some hp
                    refine WO_v (a_ixa (E := e_bool) (z := ((gi arcs (i : Int).toNat).From)) (hO₁₀.sl 0 rfl : Sl e_bool k₈ v₂ in_) rfl rfl c₅) ?_
                    refine WO_on rfl b₆ ?_
                    refine WO_v (a_ldE (w := .b (gi in_ ((gi arcs (i : Int).toNat).From : Int).toNat)) (hO₁₀.sl 0 rfl : Sl e_bool k₈ v₂ in_) rfl (toNat_lt c₅) rfl) ?_
                    refine WO_v (a_pickF (t := (!(decide ((gi arcs (i : Int).toNat).To = v)))) (v := .b t) rfl b₆ (Eq.trans (b := V.b (gi in_ ((gi arcs (i : Int).toNat).From : Int).toNat)) rfl (congrArg V.b (Option.some.inj hp)))) ?_
                    refine WO_end ?_
                    exact ⟨rfl, rfl, g₁_0, g₁_1, g₁_10, g₁_12, g₁_7, g₁_8, g₁_9⟩
                rintro frg₂ _ ⟨rfl, g₂_60, g₂_0, g₂_1, g₂_10, g₂_12, g₂_7, g₂_8, g₂_9⟩
                refine WO_v (a_mv (v := .b t) g₂_60) ?_
                refine WO_end ?_
                refine blk_n ?_
                refine then_n ?_
                refine W_rg ?_
                refine WO_v (a_mv (v := .i .i64 i) g₂_12) ?_
                obtain ⟨c₆, hp⟩ := ck_some hp
                refine WO_v (a_add (a := i) (b := 1) rfl rfl c₆) ?_
                refine WO_v (a_mv (v := .i .i64 (i + 1)) rfl) ?_
                refine WO_end ?_
                have hp := Option.some.inj hp; subst hp
                exact (Or.inl (Exists.intro (t, i + 1) (And.intro rfl (And.intro rfl (And.intro (g₂_0) (And.intro (g₂_1) (And.intro (g₂_7) (And.intro (g₂_8) (And.intro (g₂_9) (And.intro (g₂_10) (And.intro (rfl) (And.intro (rfl) (hO₁₀.pick [0, 1] rfl (by decide))))))))))))))
              · refine W_cF (t := ((decide (i < (arcs.length : Int))) && free)) g₁_41 b₅ ?_
                refine W_ex ?_
                refine then_e ?_
                have hp := Option.some.inj hp; subst hp
                refine (Or.inr (Exists.intro free (And.intro rfl (And.intro (fun h => nomatch h) (fun he => ?_)))))
                subst he; exact (And.intro rfl (And.intro (g₁_0) (And.intro (g₁_1) (And.intro (g₁_7) (And.intro (g₁_8) (And.intro (g₁_9) (And.intro (g₁_10) (And.intro (g₁_11) (hO₁₀.pick [0, 1] rfl (by decide))))))))))
            intro e₃ q₅ k₇ hJ₃
            obtain ⟨free1, rfl⟩ : ∃ x, x = o₅ := ⟨_, rfl⟩
            obtain ⟨rfl, q₅_0, q₅_1, q₅_7, q₅_8, q₅_9, q₅_10, q₅_11, hO₉⟩ := hJ₃
            refine blk_i ?_
            refine then_n ?_
            refine W_sq ?_
            refine W_rg ?_
            refine WO_v (a_mv (v := .b free1) q₅_11) ?_
            refine WO_end ?_
            refine then_n ?_
            rcases if_some hp with ⟨b₇, hp⟩ | ⟨b₇, hp⟩
            · refine W_cT (t := free1) rfl b₇ ?_
              refine W_rg ?_
              refine WO_v (a_mv (v := .i .i64 v) q₅_10) ?_
              refine WO_v (a_mv (v := .i .i64 v) rfl) ?_
              refine WO_end ?_
              refine blk_n ?_
              refine then_n ?_
              refine W_rg ?_
              refine WO_v (a_mv (v := .i .i64 v) q₅_10) ?_
              obtain ⟨c₇, hp⟩ := ck_some hp
              refine WO_v (a_sub (a := v) (b := 1) rfl rfl c₇) ?_
              refine WO_v (a_mv (v := .i .i64 (v - 1)) rfl) ?_
              refine WO_end ?_
              have hp := Option.some.inj hp; subst hp
              exact (Or.inl (Exists.intro (v, v - 1) (And.intro rfl (And.intro rfl (And.intro (q₅_0) (And.intro (q₅_1) (And.intro (q₅_7) (And.intro (q₅_8) (And.intro (rfl) (And.intro (rfl) (hO₉.pick [0, 1] rfl (by decide))))))))))))
            · refine W_cF (t := free1) rfl b₇ ?_
              refine W_sk ?_
              refine blk_n ?_
              refine then_n ?_
              refine W_rg ?_
              refine WO_v (a_mv (v := .i .i64 v) q₅_10) ?_
              obtain ⟨c₈, hp⟩ := ck_some hp
              refine WO_v (a_sub (a := v) (b := 1) rfl rfl c₈) ?_
              refine WO_v (a_mv (v := .i .i64 (v - 1)) rfl) ?_
              refine WO_end ?_
              have hp := Option.some.inj hp; subst hp
              exact (Or.inl (Exists.intro (next_, v - 1) (And.intro rfl (And.intro rfl (And.intro (q₅_0) (And.intro (q₅_1) (And.intro (q₅_7) (And.intro (q₅_8) (And.intro (q₅_9) (And.intro (rfl) (hO₉.pick [0, 1] rfl (by decide))))))))))))
          · refine W_cF (t := (decide (0 ≤ v))) rfl b₃ ?_
            refine W_ex ?_
            refine then_e ?_
            have hp := Option.some.inj hp; subst hp
            refine (Or.inr (Exists.intro next_ (And.intro rfl (And.intro (fun h => nomatch h) (fun he => ?_)))))
            subst he; exact (And.intro rfl (And.intro (q₄_0) (And.intro (q₄_1) (And.intro (q₄_7) (And.intro (q₄_8) (And.intro (q₄_9) (hO₈.pick [0, 1] rfl (by decide))))))))
        intro e₂ q₃ k₅ hJ₂
        obtain ⟨next_1, rfl⟩ : ∃ x, x = o₃ := ⟨_, rfl⟩
        obtain ⟨rfl, q₃_0, q₃_1, q₃_7, q₃_8, q₃_9, hO₇⟩ := hJ₂
        refine blk_i ?_
        refine then_n ?_
        refine W_sq ?_
        refine W_sq ?_
        refine W_rg ?_
        refine WO_v (a_mv (v := .i .i64 next_1) q₃_9) ?_
        refine WO_v (a_lss (a := next_1) (b := 0) rfl rfl) ?_
        refine WO_end ?_
        refine then_n ?_
        rcases if_some hp with ⟨b₈, hp⟩ | ⟨b₈, hp⟩
        · refine W_cT (t := (decide (next_1 < 0))) rfl b₈ ?_
          refine W_sq ?_
          refine W_rg ?_
          refine WO_v (a_mv (v := .sn) rfl) ?_
          refine WO_v (a_mv (v := .i .i64 11) rfl) ?_
          refine WO_end ?_
          refine then_n ?_
          refine W_rt ?_
          refine then_r ?_
          refine blk_r ?_
          have hp := Option.some.inj hp; subst hp
          refine (Or.inr (Exists.intro (.inr ()) (And.intro rfl (And.intro (fun h => nomatch h) (fun he => ?_)))))
          subst he; exact (And.intro rfl (And.intro (rfl) (And.intro (rfl) (hO₇.pick [] rfl (by decide)))))
        · refine W_cF (t := (decide (next_1 < 0))) rfl b₈ ?_
          refine W_sk ?_
          refine then_n ?_
          refine W_sq ?_
          refine W_rg ?_
          refine WO_v (a_mv (v := v₂) q₃_7) ?_
          refine WO_v (a_mv (v := .i .i64 next_1) q₃_9) ?_
          obtain ⟨c₉, hp⟩ := ck_some hp
          refine WO_v (a_ixa (E := e_bool) (z := next_1) (hO₇.sl 0 rfl : Sl e_bool k₅ v₂ in_) rfl rfl c₉) ?_
          refine WO_x (hO₇.ste (E := e_bool) (y := true) (ws := [.b true]) 0 rfl rfl (toNat_lt c₉) rfl rfl ⟨rfl, Nat.le_of_ble_eq_true rfl, rfl⟩ rfl) ?_
          rintro _ k₉ ⟨rfl, f₂, m₁, hW⟩
          have hO₁₁ : Own B h k₉ [eSl e_bool v₂ (in_.set (next_1 : Int).toNat true), eSl eInt v₃ l] := hW
          refine WO_end ?_
          refine then_n ?_
          refine W_rg ?_
          refine WO_v (a_mv (v := v₃) q₃_8) ?_
          refine WO_v (a_mv (v := .i .i64 next_1) q₃_9) ?_
          refine WO_x (hO₁₁.bsl (E := eInt) (l := [next_1]) hO₁₁.fr (by rw [(ev_cons (v := .i .i64 next_1) rfl ev_nil)]; rfl) rfl) ?_
          rintro v₅ k₁₀ ⟨r₂, f₃, hW⟩
          have hO₁₂ : Own B h k₁₀ [eSl e_bool v₂ (in_.set (next_1 : Int).toNat true), eSl eInt v₃ l, eSl eInt v₅ [next_1]] := hW
          obtain ⟨c₁₀, hp⟩ := ck_some hp
          refine WO_x (hO₁₂.app (E := eInt) (bytes := 8) 1 hO₁₂.fr rfl (hO₁₂.sl 2 rfl : Sl eInt k₁₀ v₅ [next_1]) rfl rfl (fun _ => rfl) c₁₀ (by decide)) ?_
          rintro v₆ k₁₁ ⟨f₄, hW⟩
          have hO₁₃ : Own B h k₁₁ [eSl e_bool v₂ (in_.set (next_1 : Int).toNat true), eSl eInt v₆ (l ++ [next_1]), eSl eInt v₅ [next_1]] := hW
          refine WO_v (a_mv (v := v₆) rfl) ?_
          refine WO_end ?_
          refine blk_n ?_
          have hp := Option.some.inj hp; subst hp
          exact (Or.inl (Exists.intro (in_.set (next_1 : Int).toNat true, l ++ [next_1]) (And.intro rfl (And.intro rfl (Exists.intro v₆ (And.intro (q₃_0) (And.intro (q₃_1) (And.intro (q₃_7) (And.intro (rfl) (hO₁₃.pick [0, 1] rfl (by decide)))))))))))
      · refine W_cF (t := (decide ((l.length : Int) < n))) rfl b₂ ?_
        refine W_ex ?_
        refine then_e ?_
        have hp := Option.some.inj hp; subst hp
        refine (Or.inr (Exists.intro (.inl l) (And.intro rfl (And.intro (fun h => nomatch h) (fun he => ?_)))))
        subst he; exact (And.intro rfl (Exists.intro v₃ (And.intro (q₂_8) (hO₆.pick [1] rfl (by decide)))))
    intro e₁ q₁ k₃ hJ₁
    rcases o₁ with l1 | _
    · obtain ⟨rfl, v₄, q₁_8, hO₄⟩ := hJ₁
      refine blk_i ?_
      refine then_n ?_
      refine W_sq ?_
      refine W_rg ?_
      refine WO_v (a_mv (v := v₄) q₁_8) ?_
      refine WO_v (a_mv (v := v₄) rfl) ?_
      refine WO_v (a_mv (v := .i .i64 0) rfl) ?_
      refine WO_end ?_
      refine then_n ?_
      refine W_rt ?_
      refine Ret_r (rs_t (n := 4) (v := v₄) rfl (rs_t (n := 5) (v := .i .i64 0) rfl rs_nil)) ?_
      have hp := Option.some.inj hp; subst hp
      exact (Exists.intro v₄ (And.intro rfl (hO₄.pick [0] rfl (by decide))))
    · obtain ⟨rfl, q₁_4, q₁_5, hO₄⟩ := hJ₁
      refine blk_r ?_
      refine then_r ?_
      have hO₁₄ : Own B h k₃ [eSl eInt .sn ([] : List Int)] := hO₄.nil eInt
      refine Ret_r (rs_t (n := 4) (v := .sn) q₁_4 (rs_t (n := 5) (v := .i .i64 11) q₁_5 rs_nil)) ?_
      have hp := Option.some.inj hp; subst hp
      exact (Exists.intro V.sn (And.intro rfl (hO₁₄.pick [0] rfl (by decide))))

theorem p_muntinlaw04_wakes.ok {h : Hp}    {r : Bool} (hp : p_muntinlaw04_wakes  = some r) :
    ∃ u k', Is G 39 [] h u k' ∧ V.b r = u ∧ Own (fun r => r < h.n) h k' [] := by
  refine WC.is (WC_of G_F_muntinlaw04_wakes ?_)
  unfold p_muntinlaw04_wakes at hp
  let B : Nat → Prop := (fun r => r < h.n)
  have hO : Own B h h [] := Own.start0 h
  refine W_sq ?_
  refine W_rg ?_
  refine WO_v (a_mv (v := .b false) rfl) ?_
  refine WO_end ?_
  refine then_n ?_
  refine W_sq ?_
  refine W_rg ?_
  refine WO_v (a_build (cs := e_T_api_Arc.c (⟨0, 1, (0 : Int)⟩ : T_api_Arc)) (by rw [(ev_cons (v := .i .i64 0) rfl (ev_cons (v := .i .i64 1) rfl ev_nil))]; rfl)) ?_
  refine WO_v (a_build (cs := e_T_api_Arc.c (⟨1, 2, (0 : Int)⟩ : T_api_Arc)) (by rw [(ev_cons (v := .i .i64 1) rfl (ev_cons (v := .i .i64 2) rfl ev_nil))]; rfl)) ?_
  refine WO_v (a_build (cs := e_T_api_Arc.c (⟨0, 2, (0 : Int)⟩ : T_api_Arc)) (by rw [(ev_cons (v := .i .i64 0) rfl (ev_cons (v := .i .i64 2) rfl ev_nil))]; rfl)) ?_
  refine WO_x (hO.bsl (E := e_T_api_Arc) (l := [(⟨0, 1, (0 : Int)⟩ : T_api_Arc), (⟨1, 2, (0 : Int)⟩ : T_api_Arc), (⟨0, 2, (0 : Int)⟩ : T_api_Arc)]) hO.fr (by rw [(ev_cons (v := .ag (e_T_api_Arc.c (⟨0, 1, (0 : Int)⟩ : T_api_Arc))) rfl (ev_cons (v := .ag (e_T_api_Arc.c (⟨1, 2, (0 : Int)⟩ : T_api_Arc))) rfl (ev_cons (v := .ag (e_T_api_Arc.c (⟨0, 2, (0 : Int)⟩ : T_api_Arc))) rfl ev_nil)))]; rfl) rfl) ?_
  rintro v₁ k₁ ⟨r₁, f₁, hW⟩
  have hO₁ : Own B h k₁ [eSl e_T_api_Arc v₁ [(⟨0, 1, (0 : Int)⟩ : T_api_Arc), (⟨1, 2, (0 : Int)⟩ : T_api_Arc), (⟨0, 2, (0 : Int)⟩ : T_api_Arc)]] := hW
  obtain ⟨⟨x, x1⟩, hx₁, hp⟩ := bd_some hp
  obtain ⟨u₁, k₂, ca₁, v₂, rfl, hW₁⟩ := p_layer_Layers.ok (h := k₁)  (hO₁.sl 0 rfl : Sl e_T_api_Arc k₁ v₁ [(⟨0, 1, (0 : Int)⟩ : T_api_Arc), (⟨1, 2, (0 : Int)⟩ : T_api_Arc), (⟨0, 2, (0 : Int)⟩ : T_api_Arc)]) hx₁
  refine WO_c (id := 38) (caps := []) rfl (mp_cons (v := .i .i64 3) rfl (mp_cons (v := v₁) rfl mp_nil)) ca₁ ?_
  have hO₂ : Own B h k₂ [eSl e_T_api_Arc v₁ [(⟨0, 1, (0 : Int)⟩ : T_api_Arc), (⟨1, 2, (0 : Int)⟩ : T_api_Arc), (⟨0, 2, (0 : Int)⟩ : T_api_Arc)], eSl eInt v₂ x] := hO₁.call hW₁ rfl
  refine WO_v (a_mv (v := .tu [v₂, .i .i64 x1]) rfl) ?_
  refine WO_v (a_ext (vs := [v₂, .i .i64 x1]) (v := v₂) rfl rfl) ?_
  refine WO_v (a_ext (vs := [v₂, .i .i64 x1]) (v := .i .i64 x1) rfl rfl) ?_
  refine WO_v (a_mv (v := v₂) rfl) ?_
  refine WO_v (a_mv (v := .i .i64 x1) rfl) ?_
  refine WO_end ?_
  refine then_n ?_
  refine W_sq ?_
  refine W_rg ?_
  refine WO_v (a_build (cs := e_T_api_Arc.c (⟨(0 : Int), (0 : Int), (0 : Int)⟩ : T_api_Arc)) (by rw [ev_nil]; rfl)) ?_
  refine WO_x (hO₂.bsl (E := e_T_api_Arc) (l := [(⟨(0 : Int), (0 : Int), (0 : Int)⟩ : T_api_Arc)]) hO₂.fr (by rw [(ev_cons (v := .ag (e_T_api_Arc.c (⟨(0 : Int), (0 : Int), (0 : Int)⟩ : T_api_Arc))) rfl ev_nil)]; rfl) rfl) ?_
  rintro v₃ k₃ ⟨r₂, f₂, hW⟩
  have hO₃ : Own B h k₃ [eSl e_T_api_Arc v₁ [(⟨0, 1, (0 : Int)⟩ : T_api_Arc), (⟨1, 2, (0 : Int)⟩ : T_api_Arc), (⟨0, 2, (0 : Int)⟩ : T_api_Arc)], eSl eInt v₂ x, eSl e_T_api_Arc v₃ [(⟨(0 : Int), (0 : Int), (0 : Int)⟩ : T_api_Arc)]] := hW
  obtain ⟨⟨x2, x3⟩, hx₂, hp⟩ := bd_some hp
  obtain ⟨u₂, k₄, ca₂, v₄, rfl, hW₂⟩ := p_layer_Layers.ok (h := k₃)  (hO₃.sl 2 rfl : Sl e_T_api_Arc k₃ v₃ [(⟨(0 : Int), (0 : Int), (0 : Int)⟩ : T_api_Arc)]) hx₂
  refine WO_c (id := 38) (caps := []) rfl (mp_cons (v := .i .i64 1) rfl (mp_cons (v := v₃) rfl mp_nil)) ca₂ ?_
  have hO₄ : Own B h k₄ [eSl e_T_api_Arc v₁ [(⟨0, 1, (0 : Int)⟩ : T_api_Arc), (⟨1, 2, (0 : Int)⟩ : T_api_Arc), (⟨0, 2, (0 : Int)⟩ : T_api_Arc)], eSl eInt v₂ x, eSl e_T_api_Arc v₃ [(⟨(0 : Int), (0 : Int), (0 : Int)⟩ : T_api_Arc)], eSl eInt v₄ x2] := hO₃.call hW₂ rfl
  refine WO_v (a_mv (v := .tu [v₄, .i .i64 x3]) rfl) ?_
  refine WO_v (a_ext (vs := [v₄, .i .i64 x3]) (v := v₄) rfl rfl) ?_
  refine WO_v (a_ext (vs := [v₄, .i .i64 x3]) (v := .i .i64 x3) rfl rfl) ?_
  refine WO_v (a_mv (v := v₄) rfl) ?_
  refine WO_v (a_mv (v := .i .i64 x3) rfl) ?_
  refine WO_end ?_
  refine then_n ?_
  refine W_sq ?_
  refine W_rg ?_
  refine WO_v (a_mv (v := .i .i64 x1) rfl) ?_
  refine WO_v (a_eqI (a := x1) (b := 0) rfl rfl) ?_
  refine WO_v (a_mv (v := .b (decide (x1 = 0))) rfl) ?_
  obtain ⟨t, hv₁, hp⟩ := bd_some hp
  refine WO_cut 4 (fun fr' k' => Own B h k' [eSl e_T_api_Arc v₁ [(⟨0, 1, (0 : Int)⟩ : T_api_Arc), (⟨1, 2, (0 : Int)⟩ : T_api_Arc), (⟨0, 2, (0 : Int)⟩ : T_api_Arc)], eSl eInt v₂ x, eSl e_T_api_Arc v₃ [(⟨(0 : Int), (0 : Int), (0 : Int)⟩ : T_api_Arc)], eSl eInt v₄ x2] ∧ fr' 25 = .b t ∧ fr' 1 = v₂ ∧ fr' 4 = .i .i64 x3) ?_ ?_
  · clear hp; rcases if_some hv₁ with ⟨b₁, hp⟩ | ⟨b₁, hp⟩
    · skip
      refine WO_on rfl b₁ ?_
      refine WO_v (a_mv (v := v₂) rfl) ?_
      refine WO_on rfl b₁ ?_
      refine WO_x (hO₄.bsl (E := eInt) (l := [0, 1, 2]) hO₄.fr (by rw [(ev_cons (v := .i .i64 0) rfl (ev_cons (v := .i .i64 1) rfl (ev_cons (v := .i .i64 2) rfl ev_nil)))]; rfl) rfl) ?_
      rintro v₅ k₅ ⟨r₃, f₃, hW⟩
      have hO₅ : Own B h k₅ [eSl e_T_api_Arc v₁ [(⟨0, 1, (0 : Int)⟩ : T_api_Arc), (⟨1, 2, (0 : Int)⟩ : T_api_Arc), (⟨0, 2, (0 : Int)⟩ : T_api_Arc)], eSl eInt v₂ x, eSl e_T_api_Arc v₃ [(⟨(0 : Int), (0 : Int), (0 : Int)⟩ : T_api_Arc)], eSl eInt v₄ x2, eSl eInt v₅ [0, 1, 2]] := hW
      refine WO_on rfl b₁ ?_
      obtain ⟨x4, hx₃, hp⟩ := bd_some hp
      obtain ⟨u₃, k₆, ca₃, rfl, hW₃⟩ := p_slices_Equal_int.ok (h := k₅)  (hO₅.sl 1 rfl : Sl eInt k₅ v₂ x) (hO₅.sl 4 rfl : Sl eInt k₅ v₅ [0, 1, 2]) hx₃
      refine WO_c (id := 33) (caps := []) rfl (mp_cons (v := v₂) rfl (mp_cons (v := v₅) rfl mp_nil)) ca₃ ?_
      have hO₆ : Own B h k₆ [eSl e_T_api_Arc v₁ [(⟨0, 1, (0 : Int)⟩ : T_api_Arc), (⟨1, 2, (0 : Int)⟩ : T_api_Arc), (⟨0, 2, (0 : Int)⟩ : T_api_Arc)], eSl eInt v₂ x, eSl e_T_api_Arc v₃ [(⟨(0 : Int), (0 : Int), (0 : Int)⟩ : T_api_Arc)], eSl eInt v₄ x2, eSl eInt v₅ [0, 1, 2]] := hO₅.call hW₃ rfl
      refine WO_v (a_pickT (t := (decide (x1 = 0))) (v := .b t) rfl b₁ (Eq.trans (b := V.b x4) rfl (congrArg V.b (Option.some.inj hp)))) ?_
      refine WO_end ?_
      exact ⟨hO₆.pick [0, 1, 2, 3] rfl (by decide), rfl, rfl, rfl⟩
    · skip
      refine WO_off rfl b₁ ?_
      refine WO_off rfl b₁ ?_
      refine WO_off rfl b₁ ?_
      refine WO_v (a_pickF (t := (decide (x1 = 0))) (v := .b t) rfl b₁ (Eq.trans (b := V.b false) rfl (congrArg V.b (Option.some.inj hp)))) ?_
      refine WO_end ?_
      exact ⟨hO₄.pick [0, 1, 2, 3] rfl (by decide), rfl, rfl, rfl⟩
  rintro frg₁ k₇ ⟨hO₇, g₁_25, g₁_1, g₁_4⟩
  refine WO_v (a_mv (v := .b t) g₁_25) ?_
  refine WO_cut 3 (fun fr' k' => k₇ = k' ∧ fr' 29 = .b (t && (decide (x3 = 11))) ∧ fr' 1 = v₂) ?_ ?_
  · rcases bc t with b₂ | b₂
    · skip
      refine WO_on rfl b₂ ?_
      refine WO_v (a_mv (v := .i .i64 x3) g₁_4) ?_
      refine WO_on rfl b₂ ?_
      refine WO_v (a_eqI (a := x3) (b := 11) rfl rfl) ?_
      refine WO_v (a_pickT (t := t) (v := .b (t && (decide (x3 = 11)))) rfl b₂ (Eq.trans (b := V.b (decide (x3 = 11))) rfl (and_on b₂))) ?_
      refine WO_end ?_
      exact ⟨rfl, rfl, g₁_1⟩
    · skip
      refine WO_off rfl b₂ ?_
      refine WO_off rfl b₂ ?_
      refine WO_v (a_pickF (t := t) (v := .b (t && (decide (x3 = 11)))) rfl b₂ (Eq.trans (b := V.b false) rfl (and_off b₂))) ?_
      refine WO_end ?_
      exact ⟨rfl, rfl, g₁_1⟩
  rintro frg₂ _ ⟨rfl, g₂_29, g₂_1⟩
  refine WO_v (a_mv (v := .b (t && (decide (x3 = 11)))) g₂_29) ?_
  obtain ⟨t1, hv₂, hp⟩ := bd_some hp
  refine WO_cut 4 (fun fr' k' => Own B h k' [eSl e_T_api_Arc v₁ [(⟨0, 1, (0 : Int)⟩ : T_api_Arc), (⟨1, 2, (0 : Int)⟩ : T_api_Arc), (⟨0, 2, (0 : Int)⟩ : T_api_Arc)], eSl eInt v₂ x, eSl e_T_api_Arc v₃ [(⟨(0 : Int), (0 : Int), (0 : Int)⟩ : T_api_Arc)], eSl eInt v₄ x2] ∧ fr' 34 = .b t1) ?_ ?_
  · clear hp; rcases if_some hv₂ with ⟨b₃, hp⟩ | ⟨b₃, hp⟩
    · skip
      refine WO_on rfl b₃ ?_
      refine WO_v (a_mv (v := v₂) g₂_1) ?_
      refine WO_on rfl b₃ ?_
      obtain ⟨x5, hx₄, hp⟩ := bd_some hp
      obtain ⟨u₄, k₈, ca₄, rfl, hW₄⟩ := p_layer_Span.ok (h := k₇)  (hO₇.sl 1 rfl : Sl eInt k₇ v₂ x) hx₄
      refine WO_c (id := 41) (caps := []) rfl (mp_cons (v := v₂) rfl mp_nil) ca₄ ?_
      have hO₈ : Own B h k₈ [eSl e_T_api_Arc v₁ [(⟨0, 1, (0 : Int)⟩ : T_api_Arc), (⟨1, 2, (0 : Int)⟩ : T_api_Arc), (⟨0, 2, (0 : Int)⟩ : T_api_Arc)], eSl eInt v₂ x, eSl e_T_api_Arc v₃ [(⟨(0 : Int), (0 : Int), (0 : Int)⟩ : T_api_Arc)], eSl eInt v₄ x2] := hO₇.call hW₄ rfl
      refine WO_on rfl b₃ ?_
      refine WO_v (a_eqI (a := x5) (b := 2) rfl rfl) ?_
      refine WO_v (a_pickT (t := (t && (decide (x3 = 11)))) (v := .b t1) rfl b₃ (Eq.trans (b := V.b (decide (x5 = 2))) rfl (congrArg V.b (Option.some.inj hp)))) ?_
      refine WO_end ?_
      exact ⟨hO₈.pick [0, 1, 2, 3] rfl (by decide), rfl⟩
    · skip
      refine WO_off rfl b₃ ?_
      refine WO_off rfl b₃ ?_
      refine WO_off rfl b₃ ?_
      refine WO_v (a_pickF (t := (t && (decide (x3 = 11)))) (v := .b t1) rfl b₃ (Eq.trans (b := V.b false) rfl (congrArg V.b (Option.some.inj hp)))) ?_
      refine WO_end ?_
      exact ⟨hO₇.pick [0, 1, 2, 3] rfl (by decide), rfl⟩
  rintro frg₃ k₉ ⟨hO₉, g₃_34⟩
  refine WO_v (a_mv (v := .b t1) g₃_34) ?_
  refine WO_end ?_
  refine then_n ?_
  refine W_rt ?_
  refine Ret_r (rs_t (n := 0) (v := .b t1) rfl rs_nil) ?_
  have hp := Option.some.inj hp; subst hp
  exact (And.intro rfl (hO₉.pick [] rfl (by decide)))

theorem p_muntinlaw04_LayerTells.ok {h : Hp} {z : T_muntinref03_Raw} {back : A2 Int} {v_z_Arcs : V} (s_z_Arcs : Sl e_A3_u8 h v_z_Arcs z.Arcs) {r : Bool} (hp : p_muntinlaw04_LayerTells z back = some r) :
    ∃ u k', Is G 101 [.ag [.i .u8 z.N, v_z_Arcs], .ag (e_A2_u8.c back)] h u k' ∧ V.b r = u ∧ Own (fun r => r < h.n) h k' [] := by
  refine WC.is (WC_of G_F_muntinlaw04_LayerTells ?_)
  unfold p_muntinlaw04_LayerTells at hp
  let B : Nat → Prop := (fun r => r < h.n)
  have hO : Own B h h [] := Own.start0 h
  refine W_sq ?_
  refine W_rg ?_
  refine WO_x (hO.boxd (v := .ag [.i .u8 z.N, v_z_Arcs]) (cs := [.i .u8 z.N, v_z_Arcs]) hO.fr rfl rfl) ?_
  rintro _ k₁ ⟨r₁, rfl, n₁, f₁, hW⟩
  have hO₁ : Own B h k₁ [eBox r₁ [.i .u8 z.N, v_z_Arcs]] := hW
  refine WO_x (hO₁.boxd (v := .ag (e_A2_u8.c back)) (cs := e_A2_u8.c back) hO₁.fr rfl rfl) ?_
  rintro _ k₂ ⟨r₂, rfl, n₂, f₂, hW⟩
  have hO₂ : Own B h k₂ [eBox r₁ [.i .u8 z.N, v_z_Arcs], eBox r₂ (e_A2_u8.c back)] := hW
  refine WO_v (a_mv (v := .b false) rfl) ?_
  refine WO_end ?_
  refine then_n ?_
  refine W_sq ?_
  refine W_rg ?_
  refine WO_v (a_ldbA (cs := [.i .u8 z.N, v_z_Arcs]) (ws := [.i .u8 z.N, v_z_Arcs]) (hO₂.box 0 rfl) rfl rfl) ?_
  obtain ⟨⟨x, x1⟩, hx₁, hp⟩ := bd_some hp
  obtain ⟨u₁, k₃, ca₁, v₁, rfl, hW₁⟩ := p_muntinref03_Make.ok (h := k₂)  (hO₂.rd0 s_z_Arcs.rd : Sl e_A3_u8 k₂ v_z_Arcs z.Arcs) hx₁
  refine WO_c (id := 37) (caps := []) rfl (mp_cons (v := .ag [.i .u8 z.N, v_z_Arcs]) rfl (mp_cons (v := .i .i64 30) rfl mp_nil)) ca₁ ?_
  have hO₃ : Own B h k₃ [eBox r₁ [.i .u8 z.N, v_z_Arcs], eBox r₂ (e_A2_u8.c back), eSl e_T_api_Arc v₁ x1] := hO₂.call hW₁ rfl
  refine WO_v (a_mv (v := .tu [.i .i64 x, v₁]) rfl) ?_
  refine WO_v (a_ext (vs := [.i .i64 x, v₁]) (v := .i .i64 x) rfl rfl) ?_
  refine WO_v (a_ext (vs := [.i .i64 x, v₁]) (v := v₁) rfl rfl) ?_
  refine WO_v (a_mv (v := .i .i64 x) rfl) ?_
  refine WO_v (a_mv (v := v₁) rfl) ?_
  refine WO_end ?_
  refine then_n ?_
  refine W_sq ?_
  refine W_rg ?_
  refine WO_v (a_mv (v := .i .i64 x) rfl) ?_
  refine WO_v (a_mv (v := v₁) rfl) ?_
  obtain ⟨⟨x2, x3⟩, hx₂, hp⟩ := bd_some hp
  obtain ⟨u₂, k₄, ca₂, v₂, rfl, hW₂⟩ := p_layer_Layers.ok (h := k₃)  (hO₃.sl 2 rfl : Sl e_T_api_Arc k₃ v₁ x1) hx₂
  refine WO_c (id := 38) (caps := []) rfl (mp_cons (v := .i .i64 x) rfl (mp_cons (v := v₁) rfl mp_nil)) ca₂ ?_
  have hO₄ : Own B h k₄ [eBox r₁ [.i .u8 z.N, v_z_Arcs], eBox r₂ (e_A2_u8.c back), eSl e_T_api_Arc v₁ x1, eSl eInt v₂ x2] := hO₃.call hW₂ rfl
  refine WO_v (a_mv (v := .tu [v₂, .i .i64 x3]) rfl) ?_
  refine WO_v (a_ext (vs := [v₂, .i .i64 x3]) (v := v₂) rfl rfl) ?_
  refine WO_v (a_ext (vs := [v₂, .i .i64 x3]) (v := .i .i64 x3) rfl rfl) ?_
  refine WO_v (a_mv (v := v₂) rfl) ?_
  refine WO_v (a_mv (v := .i .i64 x3) rfl) ?_
  refine WO_end ?_
  refine then_n ?_
  refine W_sq ?_
  refine W_sq ?_
  refine W_rg ?_
  refine WO_v (a_mv (v := .i .i64 x3) rfl) ?_
  refine WO_v (a_neI (a := x3) (b := 0) rfl rfl) ?_
  refine WO_v (a_mv (v := .b (!(decide (x3 = 0)))) rfl) ?_
  obtain ⟨t, hv₁, hp⟩ := bd_some hp
  refine WO_cut 7 (fun fr' k' => Own B h k' [eBox r₁ [.i .u8 z.N, v_z_Arcs], eBox r₂ (e_A2_u8.c back), eSl e_T_api_Arc v₁ x1, eSl eInt v₂ x2] ∧ fr' 34 = .b t ∧ fr' 3 = .p r₂ 0 ∧ fr' 5 = .i .i64 x ∧ fr' 6 = v₁ ∧ fr' 7 = v₂) ?_ ?_
  · clear hp; rcases if_some hv₁ with ⟨b₁, hp⟩ | ⟨b₁, hp⟩
    · skip
      refine WO_off rfl b₁ ?_
      refine WO_off rfl b₁ ?_
      refine WO_off rfl b₁ ?_
      refine WO_off rfl b₁ ?_
      refine WO_off rfl b₁ ?_
      refine WO_off rfl b₁ ?_
      refine WO_v (a_pickT (t := (!(decide (x3 = 0)))) (v := .b t) rfl b₁ (Eq.trans (b := V.b true) rfl (congrArg V.b (Option.some.inj hp)))) ?_
      refine WO_end ?_
      exact ⟨hO₄.pick [0, 1, 2, 3] rfl (by decide), rfl, rfl, rfl, rfl, rfl⟩
    · skip
      refine WO_on rfl b₁ ?_
      refine WO_v (a_mv (v := v₂) rfl) ?_
      refine WO_on rfl b₁ ?_
      refine WO_v (a_mv (v := .i .i64 x) rfl) ?_
      refine WO_on rfl b₁ ?_
      refine WO_v (a_mv (v := v₁) rfl) ?_
      refine WO_on rfl b₁ ?_
      obtain ⟨x4, hx₃, hp⟩ := bd_some hp
      obtain ⟨u₃, k₅, ca₃, v₃, rfl, hW₃⟩ := p_muntinref04_Layers.ok (h := k₄)  (hO₄.sl 2 rfl : Sl e_T_api_Arc k₄ v₁ x1) hx₃
      refine WO_c (id := 112) (caps := []) rfl (mp_cons (v := .i .i64 x) rfl (mp_cons (v := v₁) rfl mp_nil)) ca₃ ?_
      have hO₅ : Own B h k₅ [eBox r₁ [.i .u8 z.N, v_z_Arcs], eBox r₂ (e_A2_u8.c back), eSl e_T_api_Arc v₁ x1, eSl eInt v₂ x2, eSl eInt v₃ x4] := hO₄.call hW₃ rfl
      refine WO_on rfl b₁ ?_
      obtain ⟨x5, hx₄, hp⟩ := bd_some hp
      obtain ⟨u₄, k₆, ca₄, rfl, hW₄⟩ := p_slices_Equal_int.ok (h := k₅)  (hO₅.sl 3 rfl : Sl eInt k₅ v₂ x2) (hO₅.sl 4 rfl : Sl eInt k₅ v₃ x4) hx₄
      refine WO_c (id := 33) (caps := []) rfl (mp_cons (v := v₂) rfl (mp_cons (v := v₃) rfl mp_nil)) ca₄ ?_
      have hO₆ : Own B h k₆ [eBox r₁ [.i .u8 z.N, v_z_Arcs], eBox r₂ (e_A2_u8.c back), eSl e_T_api_Arc v₁ x1, eSl eInt v₂ x2, eSl eInt v₃ x4] := hO₅.call hW₄ rfl
      refine WO_on rfl b₁ ?_
      refine WO_v (a_not (t := x5) rfl) ?_
      refine WO_v (a_pickF (t := (!(decide (x3 = 0)))) (v := .b t) rfl b₁ (Eq.trans (b := V.b (!x5)) rfl (congrArg V.b (Option.some.inj hp)))) ?_
      refine WO_end ?_
      exact ⟨hO₆.pick [0, 1, 2, 3] rfl (by decide), rfl, rfl, rfl, rfl, rfl⟩
  rintro frg₁ k₇ ⟨hO₇, g₁_34, g₁_3, g₁_5, g₁_6, g₁_7⟩
  refine WO_v (a_mv (v := .b t) g₁_34) ?_
  obtain ⟨t1, hv₂, hp⟩ := bd_some hp
  refine WO_cut 6 (fun fr' k' => Own B h k' [eBox r₁ [.i .u8 z.N, v_z_Arcs], eBox r₂ (e_A2_u8.c back), eSl e_T_api_Arc v₁ x1, eSl eInt v₂ x2] ∧ fr' 41 = .b t1 ∧ fr' 3 = .p r₂ 0 ∧ fr' 5 = .i .i64 x ∧ fr' 6 = v₁) ?_ ?_
  · clear hp; rcases if_some hv₂ with ⟨b₂, hp⟩ | ⟨b₂, hp⟩
    · skip
      refine WO_off rfl b₂ ?_
      refine WO_off rfl b₂ ?_
      refine WO_off rfl b₂ ?_
      refine WO_off rfl b₂ ?_
      refine WO_off rfl b₂ ?_
      refine WO_v (a_pickT (t := t) (v := .b t1) rfl b₂ (Eq.trans (b := V.b true) rfl (congrArg V.b (Option.some.inj hp)))) ?_
      refine WO_end ?_
      exact ⟨hO₇.pick [0, 1, 2, 3] rfl (by decide), rfl, g₁_3, g₁_5, g₁_6⟩
    · skip
      refine WO_on rfl b₂ ?_
      refine WO_v (a_mv (v := v₂) g₁_7) ?_
      refine WO_on rfl b₂ ?_
      obtain ⟨x6, hx₅, hp⟩ := bd_some hp
      obtain ⟨u₅, k₈, ca₅, rfl, hW₅⟩ := p_layer_Span.ok (h := k₇)  (hO₇.sl 3 rfl : Sl eInt k₇ v₂ x2) hx₅
      refine WO_c (id := 41) (caps := []) rfl (mp_cons (v := v₂) rfl mp_nil) ca₅ ?_
      have hO₈ : Own B h k₈ [eBox r₁ [.i .u8 z.N, v_z_Arcs], eBox r₂ (e_A2_u8.c back), eSl e_T_api_Arc v₁ x1, eSl eInt v₂ x2] := hO₇.call hW₅ rfl
      refine WO_on rfl b₂ ?_
      refine WO_v (a_mv (v := v₂) g₁_7) ?_
      refine WO_on rfl b₂ ?_
      obtain ⟨x7, hx₆, hp⟩ := bd_some hp
      obtain ⟨u₆, k₉, ca₆, rfl, hW₆⟩ := p_muntinref04_Span.ok (h := k₈)  (hO₈.sl 3 rfl : Sl eInt k₈ v₂ x2) hx₆
      refine WO_c (id := 113) (caps := []) rfl (mp_cons (v := v₂) rfl mp_nil) ca₆ ?_
      have hO₉ : Own B h k₉ [eBox r₁ [.i .u8 z.N, v_z_Arcs], eBox r₂ (e_A2_u8.c back), eSl e_T_api_Arc v₁ x1, eSl eInt v₂ x2] := hO₈.call hW₆ rfl
      refine WO_on rfl b₂ ?_
      refine WO_v (a_neI (a := x6) (b := x7) rfl rfl) ?_
      refine WO_v (a_pickF (t := t) (v := .b t1) rfl b₂ (Eq.trans (b := V.b (!(decide (x6 = x7)))) rfl (congrArg V.b (Option.some.inj hp)))) ?_
      refine WO_end ?_
      exact ⟨hO₉.pick [0, 1, 2, 3] rfl (by decide), rfl, g₁_3, g₁_5, g₁_6⟩
  rintro frg₂ k₁₀ ⟨hO₁₀, g₂_41, g₂_3, g₂_5, g₂_6⟩
  refine WO_end ?_
  refine then_n ?_
  rcases if_some hp with ⟨b₃, hp⟩ | ⟨b₃, hp⟩
  · refine W_cT (t := t1) g₂_41 b₃ ?_
    refine W_sq ?_
    refine W_rg ?_
    refine WO_v (a_mv (v := .b false) rfl) ?_
    refine WO_end ?_
    refine then_n ?_
    refine W_rt ?_
    refine then_r ?_
    refine Ret_r (rs_t (n := 4) (v := .b false) rfl rs_nil) ?_
    have hp := Option.some.inj hp; subst hp
    exact (And.intro rfl (hO₁₀.pick [] rfl (by decide)))
  · refine W_cF (t := t1) g₂_41 b₃ ?_
    refine W_sk ?_
    refine then_n ?_
    refine W_sq ?_
    refine W_dr ?_
    have hW := hO₁₀.bump 18
    have fr₁ := Fresh.start k₁₀ 18
    have nb₁ : ∀ {i : Nat}, h.n ≤ k₁₀.n + i := Nat.le_trans hO₁₀.n (Nat.le_add_right _ _)
    have hO₁₁ : Own B h (k₁₀.bump 18) [eBox r₁ [.i .u8 z.N, v_z_Arcs], eBox r₂ (e_A2_u8.c back), eSl e_T_api_Arc v₁ x1, eSl eInt v₂ x2] := hW
    refine WD_v (a_mv (v := v₁) g₂_6) ?_
    obtain ⟨x8, hx₇, hp⟩ := bd_some hp
    obtain ⟨u₇, k₁₂, ca₇, v₄, rfl, hW₇⟩ := p_slices_Clone_api_Arc.ok (h := (k₁₀.bump 18))  (hO₁₁.sl 2 rfl : Sl e_T_api_Arc (k₁₀.bump 18) v₁ x1) hx₇
    refine WD_c (id := 114) (caps := []) rfl (mp_cons (v := v₁) rfl mp_nil) ca₇ ?_
    have fr₂ := fr₁.call hW₇
    have hO₁₂ : Own B h k₁₂ [eBox r₁ [.i .u8 z.N, v_z_Arcs], eBox r₂ (e_A2_u8.c back), eSl e_T_api_Arc v₁ x1, eSl eInt v₂ x2, eSl e_T_api_Arc v₄ x8] := hO₁₁.call hW₇ rfl
    refine WD_v (a_ixaa (o := 0) (o' := 0) (z := 0) g₂_3 rfl (by decide) rfl) ?_
    refine WD_v (a_ldb (cs := (e_A2_u8.c back)) (v := .i .u8 (back.get 0)) (hO₁₂.box 1 rfl) rfl rfl) ?_
    obtain ⟨c₁, hp⟩ := ck_some hp
    refine WD_v (a_conv (a := (back.get 0)) rfl c₁) ?_
    refine WD_v (a_mv (v := .i .i64 x) g₂_5) ?_
    obtain ⟨c₂, hp⟩ := ck_some hp
    refine WD_v (a_add (a := x) (b := 1) rfl rfl c₂) ?_
    obtain ⟨c₃, hp⟩ := ck_some hp
    refine WD_v (a_rem (a := (back.get 0)) (b := (x + 1)) rfl rfl c₃) ?_
    refine WD_v (a_ixaa (o := 0) (o' := 1) (z := 1) g₂_3 rfl (by decide) rfl) ?_
    refine WD_v (a_ldb (cs := (e_A2_u8.c back)) (v := .i .u8 (back.get 1)) (hO₁₂.box 1 rfl) rfl rfl) ?_
    obtain ⟨c₄, hp⟩ := ck_some hp
    refine WD_v (a_conv (a := (back.get 1)) rfl c₄) ?_
    refine WD_v (a_mv (v := .i .i64 x) g₂_5) ?_
    refine WD_v (a_add (a := x) (b := 1) rfl rfl c₂) ?_
    refine WD_v (a_rem (a := (back.get 1)) (b := (x + 1)) rfl rfl c₃) ?_
    refine WD_v (a_build (cs := e_T_api_Arc.c (⟨(back.get 0).tmod (x + 1), (back.get 1).tmod (x + 1), (0 : Int)⟩ : T_api_Arc)) (by rw [(ev_cons (v := .i .i64 ((back.get 0).tmod (x + 1))) rfl (ev_cons (v := .i .i64 ((back.get 1).tmod (x + 1))) rfl ev_nil))]; rfl)) ?_
    refine WD_x (hO₁₂.bsl (E := e_T_api_Arc) (l := [(⟨(back.get 0).tmod (x + 1), (back.get 1).tmod (x + 1), (0 : Int)⟩ : T_api_Arc)]) ⟨fr₂.m 15 (by decide) (by decide), nb₁⟩ (by rw [(ev_cons (v := .ag (e_T_api_Arc.c (⟨(back.get 0).tmod (x + 1), (back.get 1).tmod (x + 1), (0 : Int)⟩ : T_api_Arc))) rfl ev_nil)]; rfl) rfl) ?_
    rintro v₅ k₁₃ z₁ ⟨r₃, f₃, hW⟩
    have fr₃ := fr₂.kept f₃ (by decide)
    have hO₁₃ : Own B h k₁₃ [eBox r₁ [.i .u8 z.N, v_z_Arcs], eBox r₂ (e_A2_u8.c back), eSl e_T_api_Arc v₁ x1, eSl eInt v₂ x2, eSl e_T_api_Arc v₄ x8, eSl e_T_api_Arc v₅ [(⟨(back.get 0).tmod (x + 1), (back.get 1).tmod (x + 1), (0 : Int)⟩ : T_api_Arc)]] := hW
    obtain ⟨c₅, hp⟩ := ck_some hp
    refine WD_x (hO₁₃.app (E := e_T_api_Arc) (bytes := 24) 4 ⟨fr₃.m 16 (by decide) (by decide), nb₁⟩ rfl (hO₁₃.sl 5 rfl : Sl e_T_api_Arc k₁₃ v₅ [(⟨(back.get 0).tmod (x + 1), (back.get 1).tmod (x + 1), (0 : Int)⟩ : T_api_Arc)]) rfl rfl (fun _ => rfl) c₅ (by decide)) ?_
    rintro v₆ k₁₄ z₂ ⟨f₄, hW⟩
    have fr₄ := fr₃.kept f₄ (by decide)
    have hO₁₄ : Own B h k₁₄ [eBox r₁ [.i .u8 z.N, v_z_Arcs], eBox r₂ (e_A2_u8.c back), eSl e_T_api_Arc v₁ x1, eSl eInt v₂ x2, eSl e_T_api_Arc v₆ (x8 ++ [(⟨(back.get 0).tmod (x + 1), (back.get 1).tmod (x + 1), (0 : Int)⟩ : T_api_Arc)]), eSl e_T_api_Arc v₅ [(⟨(back.get 0).tmod (x + 1), (back.get 1).tmod (x + 1), (0 : Int)⟩ : T_api_Arc)]] := hW
    refine WD_v (a_mv (v := v₆) rfl) ?_
    refine WD_end ?_
    refine And.intro ?_ ?_
    · intro q hq
      simp only [List.mem_cons, List.not_mem_nil, or_false] at hq
      rcases hq with rfl | rfl | rfl | rfl
      · refine ap_cl rfl ?_
        · exact (fun r hm hc => hc (hW₇.base r (Nat.lt_of_lt_of_le (hO₁₀.ltAt 1 rfl _ (tch (v := V.p r₂ 0) (ld_el hm) rfl)) (Nat.le_trans (Nat.le_add_right _ _) fr₁.n))))
      · refine ap_cl rfl ?_
        · exact (fun r hm hc => hc (hW₇.base r (Nat.lt_of_lt_of_le (hO₁₀.ltAt 1 rfl _ (tch (v := V.p r₂ 1) (ld_el hm) rfl)) (Nat.le_trans (Nat.le_add_right _ _) fr₁.n))))
      · refine ap_ll ?_ ?_
        · exact (fun h => nomatch h)
        · exact (fun h => nomatch h)
      · refine ap_cl rfl ?_
        · exact (fun r hm hc => nomatch hm)
    refine then_n ?_
    refine W_sq ?_
    refine W_rg ?_
    refine WO_v (a_mv (v := .i .i64 x) g₂_5) ?_
    refine WO_v (a_mv (v := v₆) rfl) ?_
    obtain ⟨⟨x9, x10⟩, hx₈, hp⟩ := bd_some hp
    obtain ⟨u₈, k₁₅, ca₈, v₇, rfl, hW₈⟩ := p_muntinref03_Order.ok (h := k₁₄)  (hO₁₄.sl 4 rfl : Sl e_T_api_Arc k₁₄ v₆ (x8 ++ [(⟨(back.get 0).tmod (x + 1), (back.get 1).tmod (x + 1), (0 : Int)⟩ : T_api_Arc)])) hx₈
    refine WO_c (id := 115) (caps := []) rfl (mp_cons (v := .i .i64 x) rfl (mp_cons (v := v₆) rfl mp_nil)) ca₈ ?_
    have hO₁₅ : Own B h k₁₅ [eBox r₁ [.i .u8 z.N, v_z_Arcs], eBox r₂ (e_A2_u8.c back), eSl e_T_api_Arc v₁ x1, eSl eInt v₂ x2, eSl e_T_api_Arc v₆ (x8 ++ [(⟨(back.get 0).tmod (x + 1), (back.get 1).tmod (x + 1), (0 : Int)⟩ : T_api_Arc)]), eSl e_T_api_Arc v₅ [(⟨(back.get 0).tmod (x + 1), (back.get 1).tmod (x + 1), (0 : Int)⟩ : T_api_Arc)], eSl eInt v₇ x9] := hO₁₄.call hW₈ rfl
    refine WO_v (a_mv (v := .tu [v₇, .i .i64 x10]) rfl) ?_
    refine WO_v (a_ext (vs := [v₇, .i .i64 x10]) (v := v₇) rfl rfl) ?_
    refine WO_v (a_ext (vs := [v₇, .i .i64 x10]) (v := .i .i64 x10) rfl rfl) ?_
    refine WO_v (a_mv (v := v₇) rfl) ?_
    refine WO_v (a_mv (v := .i .i64 x10) rfl) ?_
    refine WO_end ?_
    refine then_n ?_
    refine W_sq ?_
    refine W_rg ?_
    refine WO_v (a_mv (v := .i .i64 x) g₂_5) ?_
    refine WO_v (a_mv (v := v₆) rfl) ?_
    obtain ⟨⟨x11, x12⟩, hx₉, hp⟩ := bd_some hp
    obtain ⟨u₉, k₁₆, ca₉, v₈, rfl, hW₉⟩ := p_layer_Layers.ok (h := k₁₅)  (hO₁₅.sl 4 rfl : Sl e_T_api_Arc k₁₅ v₆ (x8 ++ [(⟨(back.get 0).tmod (x + 1), (back.get 1).tmod (x + 1), (0 : Int)⟩ : T_api_Arc)])) hx₉
    refine WO_c (id := 38) (caps := []) rfl (mp_cons (v := .i .i64 x) rfl (mp_cons (v := v₆) rfl mp_nil)) ca₉ ?_
    have hO₁₆ : Own B h k₁₆ [eBox r₁ [.i .u8 z.N, v_z_Arcs], eBox r₂ (e_A2_u8.c back), eSl e_T_api_Arc v₁ x1, eSl eInt v₂ x2, eSl e_T_api_Arc v₆ (x8 ++ [(⟨(back.get 0).tmod (x + 1), (back.get 1).tmod (x + 1), (0 : Int)⟩ : T_api_Arc)]), eSl e_T_api_Arc v₅ [(⟨(back.get 0).tmod (x + 1), (back.get 1).tmod (x + 1), (0 : Int)⟩ : T_api_Arc)], eSl eInt v₇ x9, eSl eInt v₈ x11] := hO₁₅.call hW₉ rfl
    refine WO_v (a_mv (v := .tu [v₈, .i .i64 x12]) rfl) ?_
    refine WO_v (a_ext (vs := [v₈, .i .i64 x12]) (v := v₈) rfl rfl) ?_
    refine WO_v (a_ext (vs := [v₈, .i .i64 x12]) (v := .i .i64 x12) rfl rfl) ?_
    refine WO_v (a_mv (v := v₈) rfl) ?_
    refine WO_v (a_mv (v := .i .i64 x12) rfl) ?_
    refine WO_end ?_
    refine then_n ?_
    refine W_sq ?_
    refine W_rg ?_
    obtain ⟨x13, hx₁₀, hp⟩ := bd_some hp
    obtain ⟨u₁₀, k₁₇, ca₁₀, rfl, hW₁₀⟩ := p_muntinlaw04_wakes.ok (h := k₁₆)   hx₁₀
    refine WO_c (id := 39) (caps := []) rfl mp_nil ca₁₀ ?_
    have hO₁₇ : Own B h k₁₇ [eBox r₁ [.i .u8 z.N, v_z_Arcs], eBox r₂ (e_A2_u8.c back), eSl e_T_api_Arc v₁ x1, eSl eInt v₂ x2, eSl e_T_api_Arc v₆ (x8 ++ [(⟨(back.get 0).tmod (x + 1), (back.get 1).tmod (x + 1), (0 : Int)⟩ : T_api_Arc)]), eSl e_T_api_Arc v₅ [(⟨(back.get 0).tmod (x + 1), (back.get 1).tmod (x + 1), (0 : Int)⟩ : T_api_Arc)], eSl eInt v₇ x9, eSl eInt v₈ x11] := hO₁₆.call hW₁₀ rfl
    refine WO_v (a_mv (v := .b x13) rfl) ?_
    refine WO_cut 4 (fun fr' k' => k₁₇ = k' ∧ fr' 76 = .b (x13 && (decide (x12 = x10))) ∧ fr' 11 = .i .i64 x10 ∧ fr' 12 = v₈) ?_ ?_
    · rcases bc x13 with b₄ | b₄
      · skip
        refine WO_on rfl b₄ ?_
        refine WO_v (a_mv (v := .i .i64 x12) rfl) ?_
        refine WO_on rfl b₄ ?_
        refine WO_v (a_mv (v := .i .i64 x10) rfl) ?_
        refine WO_on rfl b₄ ?_
        refine WO_v (a_eqI (a := x12) (b := x10) rfl rfl) ?_
        refine WO_v (a_pickT (t := x13) (v := .b (x13 && (decide (x12 = x10)))) rfl b₄ (Eq.trans (b := V.b (decide (x12 = x10))) rfl (and_on b₄))) ?_
        refine WO_end ?_
        exact ⟨rfl, rfl, rfl, rfl⟩
      · skip
        refine WO_off rfl b₄ ?_
        refine WO_off rfl b₄ ?_
        refine WO_off rfl b₄ ?_
        refine WO_v (a_pickF (t := x13) (v := .b (x13 && (decide (x12 = x10)))) rfl b₄ (Eq.trans (b := V.b false) rfl (and_off b₄))) ?_
        refine WO_end ?_
        exact ⟨rfl, rfl, rfl, rfl⟩
    rintro frg₃ _ ⟨rfl, g₃_76, g₃_11, g₃_12⟩
    refine WO_v (a_mv (v := .b (x13 && (decide (x12 = x10)))) g₃_76) ?_
    refine WO_cut 7 (fun fr' k' => k₁₇ = k' ∧ fr' 84 = .b ((x13 && (decide (x12 = x10))) && (decide ((!(decide (x10 = 0))) = (decide ((x11.length : Int) = 0)))))) ?_ ?_
    · rcases bc (x13 && (decide (x12 = x10))) with b₅ | b₅
      · skip
        refine WO_on rfl b₅ ?_
        refine WO_v (a_mv (v := .i .i64 x10) g₃_11) ?_
        refine WO_on rfl b₅ ?_
        refine WO_v (a_neI (a := x10) (b := 0) rfl rfl) ?_
        refine WO_on rfl b₅ ?_
        refine WO_v (a_mv (v := v₈) g₃_12) ?_
        refine WO_on rfl b₅ ?_
        refine WO_v (a_len (hO₁₇.sl 7 rfl : Sl eInt k₁₇ v₈ x11) rfl) ?_
        refine WO_on rfl b₅ ?_
        refine WO_v (a_eqI (a := (x11.length : Int)) (b := 0) rfl rfl) ?_
        refine WO_on rfl b₅ ?_
        refine WO_v (a_eqB (a := (!(decide (x10 = 0)))) (b := (decide ((x11.length : Int) = 0))) rfl rfl) ?_
        refine WO_v (a_pickT (t := (x13 && (decide (x12 = x10)))) (v := .b ((x13 && (decide (x12 = x10))) && (decide ((!(decide (x10 = 0))) = (decide ((x11.length : Int) = 0)))))) rfl b₅ (Eq.trans (b := V.b (decide ((!(decide (x10 = 0))) = (decide ((x11.length : Int) = 0))))) rfl (and_on b₅))) ?_
        refine WO_end ?_
        exact ⟨rfl, rfl⟩
      · skip
        refine WO_off rfl b₅ ?_
        refine WO_off rfl b₅ ?_
        refine WO_off rfl b₅ ?_
        refine WO_off rfl b₅ ?_
        refine WO_off rfl b₅ ?_
        refine WO_off rfl b₅ ?_
        refine WO_v (a_pickF (t := (x13 && (decide (x12 = x10)))) (v := .b ((x13 && (decide (x12 = x10))) && (decide ((!(decide (x10 = 0))) = (decide ((x11.length : Int) = 0)))))) rfl b₅ (Eq.trans (b := V.b false) rfl (and_off b₅))) ?_
        refine WO_end ?_
        exact ⟨rfl, rfl⟩
    rintro frg₄ _ ⟨rfl, g₄_84⟩
    refine WO_v (a_mv (v := .b ((x13 && (decide (x12 = x10))) && (decide ((!(decide (x10 = 0))) = (decide ((x11.length : Int) = 0)))))) g₄_84) ?_
    refine WO_end ?_
    refine then_n ?_
    refine W_rt ?_
    refine Ret_r (rs_t (n := 4) (v := .b ((x13 && (decide (x12 = x10))) && (decide ((!(decide (x10 = 0))) = (decide ((x11.length : Int) = 0)))))) rfl rs_nil) ?_
    have hp := Option.some.inj hp; subst hp
    exact (And.intro rfl (hO₁₇.pick [] rfl (by decide)))

end Mu
