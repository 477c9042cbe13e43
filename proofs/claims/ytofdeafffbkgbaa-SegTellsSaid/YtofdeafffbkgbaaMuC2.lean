/- The code comes to what was worked out. -/
import Derived.Test.YtofdeafffbkgbaaMuDf
import Derived.Test.YtofdeafffbkgbaaMuPa
import Derived.Test.YtofdeafffbkgbaaMuC1
set_option linter.unusedVariables false
set_option linter.unnecessarySimpa false
set_option linter.unusedSimpArgs false
set_option maxHeartbeats 2000000
set_option maxRecDepth 10000
namespace Mu
open Go (IntKind BinOp UnOp)
theorem p_muntinref16_Span.ok {h : Hp} {c : T_muntinref16_Chains} {vertical : Bool} {i : Int} {v_c_X : V} {v_c_Y : V} {v_c_Vert : V} {vs_c_Vert : List V} {v_c_Horz : V} {vs_c_Horz : List V} (s_c_X : Sl eInt h v_c_X c.X) (s_c_Y : Sl eInt h v_c_Y c.Y) (sN_c_Vert : Sl eV h v_c_Vert vs_c_Vert) (lN_c_Vert : vs_c_Vert.length = c.Vert.length) (iN_c_Vert : ∀ j, j < c.Vert.length → Sl eInt h (gi vs_c_Vert j) (gi c.Vert j)) (sN_c_Horz : Sl eV h v_c_Horz vs_c_Horz) (lN_c_Horz : vs_c_Horz.length = c.Horz.length) (iN_c_Horz : ∀ j, j < c.Horz.length → Sl eInt h (gi vs_c_Horz j) (gi c.Horz j)) {r : Int × Int} (hp : p_muntinref16_Span c vertical i = some r) :
    ∃ u k', Is G 127 [.ag [v_c_X, v_c_Y, v_c_Vert, v_c_Horz], .b vertical, .i .i64 i] h u k' ∧ V.tu [.i .i64 r.1, .i .i64 r.2] = u ∧ Own (fun r => r < h.n) h k' [] := by
  refine WC.is (WC_of G_F_muntinref16_Span ?_)
  unfold p_muntinref16_Span at hp
  let B : Nat → Prop := (fun r => r < h.n)
  have hO : Own B h h [] := Own.start0 h
  refine W_sq ?_
  refine W_rg ?_
  refine WO_x (hO.boxd (v := .ag [v_c_X, v_c_Y, v_c_Vert, v_c_Horz]) (cs := [v_c_X, v_c_Y, v_c_Vert, v_c_Horz]) hO.fr rfl rfl) ?_
  rintro _ k₁ ⟨r₁, rfl, n₁, f₁, hW⟩
  have hO₁ : Own B h k₁ [eBox r₁ [v_c_X, v_c_Y, v_c_Vert, v_c_Horz]] := hW
  refine WO_v (a_mv (v := .i .i64 0) rfl) ?_
  refine WO_v (a_mv (v := .i .i64 0) rfl) ?_
  refine WO_end ?_
  refine then_n ?_
  refine W_sq ?_
  refine W_rg ?_
  refine WO_v (a_fa (r := r₁) (o := 0) (o' := 3) rfl rfl) ?_
  refine WO_v (a_ldb (cs := [v_c_X, v_c_Y, v_c_Vert, v_c_Horz]) (v := v_c_Horz) (hO₁.box 0 rfl) rfl rfl) ?_
  refine WO_v (a_mv (v := v_c_Horz) rfl) ?_
  refine WO_end ?_
  refine then_n ?_
  refine W_sq ?_
  refine W_rg ?_
  refine WO_v (a_fa (r := r₁) (o := 0) (o' := 0) rfl rfl) ?_
  refine WO_v (a_ldb (cs := [v_c_X, v_c_Y, v_c_Vert, v_c_Horz]) (v := v_c_X) (hO₁.box 0 rfl) rfl rfl) ?_
  refine WO_v (a_mv (v := v_c_X) rfl) ?_
  refine WO_end ?_
  refine then_n ?_
  refine W_sq ?_
  refine W_sq ?_
  refine W_rg ?_
  refine WO_v (a_mv (v := .b vertical) rfl) ?_
  refine WO_end ?_
  refine then_n ?_
  obtain ⟨o₁, ho₁, hp⟩ := bd_some hp
  refine W.mono (Q := fun e fr k => match (generalizing := false) o₁ with
      | (l, of) => e = .normal ∧ ∃ (v₁ : V), ∃ (vs₁ : List V), ∃ (v₂ : V), fr 2 = .i .i64 i ∧ fr 8 = v₁ ∧ fr 9 = v₂ ∧ Rd B h eV v₁ vs₁ ∧ vs₁.length = l.length ∧ (∀ j, j < l.length → Rd B h eInt (gi vs₁ j) (gi l j)) ∧ Rd B h eInt v₂ of ∧ Own B h k []) ?_ ?_
  · clear hp; have hp := ho₁; clear ho₁
    rcases if_some hp with ⟨b₁, hp⟩ | ⟨b₁, hp⟩
    · refine W_cT (t := vertical) rfl b₁ ?_
      refine W_sq ?_
      refine W_rg ?_
      refine WO_v (a_fa (r := r₁) (o := 0) (o' := 2) rfl rfl) ?_
      refine WO_v (a_ldb (cs := [v_c_X, v_c_Y, v_c_Vert, v_c_Horz]) (v := v_c_Vert) (hO₁.box 0 rfl) rfl rfl) ?_
      refine WO_v (a_mv (v := v_c_Vert) rfl) ?_
      refine WO_end ?_
      refine then_n ?_
      refine W_rg ?_
      refine WO_v (a_fa (r := r₁) (o := 0) (o' := 1) rfl rfl) ?_
      refine WO_v (a_ldb (cs := [v_c_X, v_c_Y, v_c_Vert, v_c_Horz]) (v := v_c_Y) (hO₁.box 0 rfl) rfl rfl) ?_
      refine WO_v (a_mv (v := v_c_Y) rfl) ?_
      refine WO_end ?_
      have hp := Option.some.inj hp; subst hp
      exact (And.intro rfl (Exists.intro v_c_Vert (Exists.intro vs_c_Vert (Exists.intro v_c_Y (And.intro (rfl) (And.intro (rfl) (And.intro (rfl) (And.intro sN_c_Vert.rd (And.intro lN_c_Vert (And.intro (fun j hj => (iN_c_Vert j hj).rd) (And.intro s_c_Y.rd (hO₁.pick [] rfl (by decide)))))))))))))
    · refine W_cF (t := vertical) rfl b₁ ?_
      refine W_sk ?_
      have hp := Option.some.inj hp; subst hp
      exact (And.intro rfl (Exists.intro v_c_Horz (Exists.intro vs_c_Horz (Exists.intro v_c_X (And.intro (rfl) (And.intro (rfl) (And.intro (rfl) (And.intro sN_c_Horz.rd (And.intro lN_c_Horz (And.intro (fun j hj => (iN_c_Horz j hj).rd) (And.intro s_c_X.rd (hO₁.pick [] rfl (by decide)))))))))))))
  intro e₁ q₁ k₂ hJ₁
  obtain ⟨l, of⟩ := o₁
  obtain ⟨rfl, v₁, vs₁, v₂, q₁_2, q₁_8, q₁_9, s₁, sl₁, si₁, s₂, hO₂⟩ := hJ₁
  refine then_n ?_
  refine W_sq ?_
  refine W_sq ?_
  refine W_rg ?_
  refine WO_v (a_mv (v := .i .i64 i) q₁_2) ?_
  refine WO_v (a_lss (a := i) (b := 0) rfl rfl) ?_
  refine WO_v (a_mv (v := .b (decide (i < 0))) rfl) ?_
  refine WO_cut 5 (fun fr' k' => k₂ = k' ∧ fr' 26 = .b ((decide (i < 0)) || (decide ((l.length : Int) ≤ i))) ∧ fr' 2 = .i .i64 i ∧ fr' 8 = v₁ ∧ fr' 9 = v₂) ?_ ?_
  · rcases bc (decide (i < 0)) with b₂ | b₂
    · skip
      refine WO_off rfl b₂ ?_
      refine WO_off rfl b₂ ?_
      refine WO_off rfl b₂ ?_
      refine WO_off rfl b₂ ?_
      refine WO_v (a_pickT (t := (decide (i < 0))) (v := .b ((decide (i < 0)) || (decide ((l.length : Int) ≤ i)))) rfl b₂ (Eq.trans (b := V.b true) rfl (or_off b₂))) ?_
      refine WO_end ?_
      exact ⟨rfl, rfl, q₁_2, q₁_8, q₁_9⟩
    · skip
      refine WO_on rfl b₂ ?_
      refine WO_v (a_mv (v := .i .i64 i) q₁_2) ?_
      refine WO_on rfl b₂ ?_
      refine WO_v (a_mv (v := v₁) q₁_8) ?_
      refine WO_on rfl b₂ ?_
      refine WO_v (a_lenN (n := (l).length) (hO₂.rd0 s₁ : Sl eV k₂ v₁ vs₁) sl₁ rfl) ?_
      refine WO_on rfl b₂ ?_
      refine WO_v (a_geq (a := i) (b := (l.length : Int)) rfl rfl) ?_
      refine WO_v (a_pickF (t := (decide (i < 0))) (v := .b ((decide (i < 0)) || (decide ((l.length : Int) ≤ i)))) rfl b₂ (Eq.trans (b := V.b (decide ((l.length : Int) ≤ i))) rfl (or_on b₂))) ?_
      refine WO_end ?_
      exact ⟨rfl, rfl, q₁_2, q₁_8, q₁_9⟩
  rintro frg₁ _ ⟨rfl, g₁_26, g₁_2, g₁_8, g₁_9⟩
  refine WO_end ?_
  refine then_n ?_
  rcases if_some hp with ⟨b₃, hp⟩ | ⟨b₃, hp⟩
  · refine W_cT (t := ((decide (i < 0)) || (decide ((l.length : Int) ≤ i)))) g₁_26 b₃ ?_
    refine W_sq ?_
    refine W_rg ?_
    refine WO_v (a_mv (v := .i .i64 0) rfl) ?_
    refine WO_v (a_mv (v := .i .i64 0) rfl) ?_
    refine WO_end ?_
    refine then_n ?_
    refine W_rt ?_
    refine then_r ?_
    refine Ret_r (rs_t (n := 6) (v := .i .i64 0) rfl (rs_t (n := 7) (v := .i .i64 0) rfl rs_nil)) ?_
    have hp := Option.some.inj hp; subst hp
    exact (And.intro rfl (hO₂.pick [] rfl (by decide)))
  · refine W_cF (t := ((decide (i < 0)) || (decide ((l.length : Int) ≤ i)))) g₁_26 b₃ ?_
    refine W_sk ?_
    refine then_n ?_
    refine W_sq ?_
    refine W_qd ?_
    have hW := hO₂.bump 26
    have hO₃ : Own B h (k₂.bump 26) [] := hW
    refine WQ_v rfl (a_mv (v := v₂) g₁_9) ?_
    refine WQ_v rfl (a_mv (v := v₁) g₁_8) ?_
    refine WQ_v rfl (a_mv (v := .i .i64 i) g₁_2) ?_
    obtain ⟨c₁, hp⟩ := ck_some hp
    refine WQ_v rfl (a_ixa (E := eV) (z := i) (hO₃.rd0 s₁ : Sl eV (k₂.bump 26) v₁ vs₁) rfl rfl (by rw [sl₁]; exact c₁)) ?_
    refine WQ_v rfl (a_ldE (w := (gi vs₁ (i : Int).toNat)) (hO₃.rd0 s₁ : Sl eV (k₂.bump 26) v₁ vs₁) rfl (by rw [sl₁]; exact toNat_lt c₁) rfl) ?_
    obtain ⟨c₂, hp⟩ := ck_some hp
    refine WQ_v rfl (a_ixa (E := eInt) (z := 0) (hO₃.rd0 ((fun j hj => (si₁ j hj)) _ (toNat_lt c₁)) : Sl eInt (k₂.bump 26) (gi vs₁ (i : Int).toNat) (gi l (i : Int).toNat)) rfl rfl c₂) ?_
    refine WQ_v rfl (a_ldE (w := .i .i64 (gi (gi l (i : Int).toNat) (0 : Int).toNat)) (hO₃.rd0 ((fun j hj => (si₁ j hj)) _ (toNat_lt c₁)) : Sl eInt (k₂.bump 26) (gi vs₁ (i : Int).toNat) (gi l (i : Int).toNat)) rfl (toNat_lt c₂) rfl) ?_
    obtain ⟨c₃, hp⟩ := ck_some hp
    refine WQ_v rfl (a_ixa (E := eInt) (z := (gi (gi l (i : Int).toNat) (0 : Int).toNat)) (hO₃.rd0 s₂ : Sl eInt (k₂.bump 26) v₂ of) rfl rfl c₃) ?_
    refine WQ_v rfl (a_ldE (w := .i .i64 (gi of (gi (gi l (i : Int).toNat) (0 : Int).toNat : Int).toNat)) (hO₃.rd0 s₂ : Sl eInt (k₂.bump 26) v₂ of) rfl (toNat_lt c₃) rfl) ?_
    refine WQ_v rfl (a_mv (v := v₂) g₁_9) ?_
    refine WQ_v rfl (a_mv (v := v₁) g₁_8) ?_
    refine WQ_v rfl (a_mv (v := .i .i64 i) g₁_2) ?_
    refine WQ_v rfl (a_ixa (E := eV) (z := i) (hO₃.rd0 s₁ : Sl eV (k₂.bump 26) v₁ vs₁) rfl rfl (by rw [sl₁]; exact c₁)) ?_
    refine WQ_v rfl (a_ldE (w := (gi vs₁ (i : Int).toNat)) (hO₃.rd0 s₁ : Sl eV (k₂.bump 26) v₁ vs₁) rfl (by rw [sl₁]; exact toNat_lt c₁) rfl) ?_
    refine WQ_v rfl (a_mv (v := v₁) g₁_8) ?_
    refine WQ_v rfl (a_mv (v := .i .i64 i) g₁_2) ?_
    refine WQ_v rfl (a_ixa (E := eV) (z := i) (hO₃.rd0 s₁ : Sl eV (k₂.bump 26) v₁ vs₁) rfl rfl (by rw [sl₁]; exact c₁)) ?_
    refine WQ_v rfl (a_ldE (w := (gi vs₁ (i : Int).toNat)) (hO₃.rd0 s₁ : Sl eV (k₂.bump 26) v₁ vs₁) rfl (by rw [sl₁]; exact toNat_lt c₁) rfl) ?_
    refine WQ_v rfl (a_len (hO₃.rd0 ((fun j hj => (si₁ j hj)) _ (toNat_lt c₁)) : Sl eInt (k₂.bump 26) (gi vs₁ (i : Int).toNat) (gi l (i : Int).toNat)) rfl) ?_
    obtain ⟨c₄, hp⟩ := ck_some hp
    refine WQ_v rfl (a_sub (a := ((gi l (i : Int).toNat).length : Int)) (b := 1) rfl rfl c₄) ?_
    obtain ⟨c₅, hp⟩ := ck_some hp
    refine WQ_v rfl (a_ixa (E := eInt) (z := (((gi l (i : Int).toNat).length : Int) - 1)) (hO₃.rd0 ((fun j hj => (si₁ j hj)) _ (toNat_lt c₁)) : Sl eInt (k₂.bump 26) (gi vs₁ (i : Int).toNat) (gi l (i : Int).toNat)) rfl rfl c₅) ?_
    refine WQ_v rfl (a_ldE (w := .i .i64 (gi (gi l (i : Int).toNat) (((gi l (i : Int).toNat).length : Int) - 1 : Int).toNat)) (hO₃.rd0 ((fun j hj => (si₁ j hj)) _ (toNat_lt c₁)) : Sl eInt (k₂.bump 26) (gi vs₁ (i : Int).toNat) (gi l (i : Int).toNat)) rfl (toNat_lt c₅) rfl) ?_
    obtain ⟨c₆, hp⟩ := ck_some hp
    refine WQ_v rfl (a_ixa (E := eInt) (z := (gi (gi l (i : Int).toNat) (((gi l (i : Int).toNat).length : Int) - 1 : Int).toNat)) (hO₃.rd0 s₂ : Sl eInt (k₂.bump 26) v₂ of) rfl rfl c₆) ?_
    refine WQ_v rfl (a_ldE (w := .i .i64 (gi of (gi (gi l (i : Int).toNat) (((gi l (i : Int).toNat).length : Int) - 1 : Int).toNat : Int).toNat)) (hO₃.rd0 s₂ : Sl eInt (k₂.bump 26) v₂ of) rfl (toNat_lt c₆) rfl) ?_
    refine WQ_v rfl (a_mv (v := .i .i64 (gi of (gi (gi l (i : Int).toNat) (0 : Int).toNat : Int).toNat)) rfl) ?_
    refine WQ_v rfl (a_mv (v := .i .i64 (gi of (gi (gi l (i : Int).toNat) (((gi l (i : Int).toNat).length : Int) - 1 : Int).toNat : Int).toNat)) rfl) ?_
    refine WQ_end ?_
    refine then_n ?_
    refine W_rt ?_
    refine Ret_r (rs_t (n := 6) (v := .i .i64 (gi of (gi (gi l (i : Int).toNat) (0 : Int).toNat : Int).toNat)) rfl (rs_t (n := 7) (v := .i .i64 (gi of (gi (gi l (i : Int).toNat) (((gi l (i : Int).toNat).length : Int) - 1 : Int).toNat : Int).toNat)) rfl rs_nil)) ?_
    have hp := Option.some.inj hp; subst hp
    exact (And.intro rfl (hO₃.pick [] rfl (by decide)))

theorem p_muntinref10_Check.ok {h : Hp} {l : List T_api_Cell} {v_l : V} (s_l : Sl e_T_api_Cell h v_l l) {r : Int} (hp : p_muntinref10_Check l = some r) :
    ∃ u k', Is G 34 [v_l] h u k' ∧ V.i .i64 r = u ∧ Own (fun r => r < h.n) h k' [] := by
  refine WC.is (WC_of G_F_muntinref10_Check ?_)
  unfold p_muntinref10_Check at hp
  let B : Nat → Prop := (fun r => r < h.n)
  have hO : Own B h h [] := Own.start0 h
  refine W_sq ?_
  refine W_rg ?_
  refine WO_v (a_mv (v := .i .i64 0) rfl) ?_
  refine WO_end ?_
  refine then_n ?_
  refine W_sq ?_
  refine W_sq ?_
  refine W_rg ?_
  refine WO_v (a_mv (v := v_l) rfl) ?_
  refine WO_v (a_len (hO.rd0 s_l.rd : Sl e_T_api_Cell h v_l l) rfl) ?_
  refine WO_v (a_gtr (a := (l.length : Int)) (b := 4096) rfl rfl) ?_
  refine WO_end ?_
  refine then_n ?_
  rcases if_some hp with ⟨b₁, hp⟩ | ⟨b₁, hp⟩
  · refine W_cT (t := (decide (4096 < (l.length : Int)))) rfl b₁ ?_
    refine W_sq ?_
    refine W_rg ?_
    refine WO_v (a_mv (v := .i .i64 6) rfl) ?_
    refine WO_end ?_
    refine then_n ?_
    refine W_rt ?_
    refine then_r ?_
    refine Ret_r (rs_t (n := 2) (v := .i .i64 6) rfl rs_nil) ?_
    have hp := Option.some.inj hp; subst hp
    exact (And.intro rfl (hO.pick [] rfl (by decide)))
  · refine W_cF (t := (decide (4096 < (l.length : Int)))) rfl b₁ ?_
    refine W_sk ?_
    refine then_n ?_
    refine W_sq ?_
    refine W_sq ?_
    refine W_rg ?_
    refine WO_v (a_mv (v := .i .i64 0) rfl) ?_
    refine WO_end ?_
    refine then_n ?_
    refine W_bl ?_
    obtain ⟨o₁, ho₁, hp⟩ := bd_some hp
    refine W.mono (Q := fun e fr k => match (generalizing := false) o₁ with
        | .inl _ => e = (.exit 0) ∧ Own B h k []
        | .inr x => e = .ret ∧ fr 2 = .i .i64 x ∧ Own B h k []) ?_ ?_
    · clear hp
      refine W_loopF (fun st fr k => match st with | v => fr 0 = v_l ∧ fr 3 = .i .i64 v ∧ Own B h k []) ho₁ (s := 0) (And.intro (rfl) (And.intro (rfl) (hO.pick [] rfl (by decide)))) ?_
      rintro v q₂ k₂ ⟨q₂_0, q₂_3, hO₂⟩ o₂ hp
      dsimp only [p_muntinref10_Check.s0] at hp
      refine W_sq ?_
      refine W_sq ?_
      refine W_rg ?_
      refine WO_v (a_mv (v := .i .i64 v) q₂_3) ?_
      refine WO_v (a_mv (v := v_l) q₂_0) ?_
      refine WO_v (a_len (hO₂.rd0 s_l.rd : Sl e_T_api_Cell k₂ v_l l) rfl) ?_
      refine WO_v (a_lss (a := v) (b := (l.length : Int)) rfl rfl) ?_
      refine WO_end ?_
      refine then_n ?_
      rcases if_some hp with ⟨b₂, hp⟩ | ⟨b₂, hp⟩
      · refine W_cT (t := (decide (v < (l.length : Int)))) rfl b₂ ?_
        refine W_sk ?_
        refine then_n ?_
        refine W_sq ?_
        refine W_bl ?_
        refine W_sq ?_
        refine W_rg ?_
        refine WO_v (a_mv (v := .i .i64 0) rfl) ?_
        refine WO_end ?_
        refine then_n ?_
        refine W_bl ?_
        obtain ⟨o₃, ho₂, hp⟩ := bd_some hp
        refine W.mono (Q := fun e fr k => match (generalizing := false) o₃ with
            | .inl _ => e = (.exit 2) ∧ fr 0 = v_l ∧ fr 3 = .i .i64 v ∧ Own B h k []
            | .inr x1 => e = .ret ∧ fr 2 = .i .i64 x1 ∧ Own B h k []) ?_ ?_
        · clear hp
          refine W_loopF (fun st fr k => match st with | d => fr 0 = v_l ∧ fr 3 = .i .i64 v ∧ fr 4 = .i .i64 d ∧ Own B h k []) ho₂ (s := 0) (And.intro (q₂_0) (And.intro (q₂_3) (And.intro (rfl) (hO₂.pick [] rfl (by decide))))) ?_
          rintro d q₄ k₄ ⟨q₄_0, q₄_3, q₄_4, hO₄⟩ o₄ hp
          dsimp only [p_muntinref10_Check.s1] at hp
          refine W_sq ?_
          refine W_sq ?_
          refine W_rg ?_
          refine WO_v (a_mv (v := .i .i64 d) q₄_4) ?_
          refine WO_v (a_lss (a := d) (b := 4) rfl rfl) ?_
          refine WO_end ?_
          refine then_n ?_
          rcases if_some hp with ⟨b₃, hp⟩ | ⟨b₃, hp⟩
          · refine W_cT (t := (decide (d < 4))) rfl b₃ ?_
            refine W_sk ?_
            refine then_n ?_
            refine W_sq ?_
            refine W_bl ?_
            refine W_sq ?_
            refine W_rg ?_
            refine WO_v (a_mv (v := v_l) q₄_0) ?_
            refine WO_v (a_mv (v := .i .i64 v) q₄_3) ?_
            refine WO_v (a_mv (v := .i .i64 d) q₄_4) ?_
            obtain ⟨c₁, hp⟩ := ck_some hp
            refine WO_v (a_ixa (E := e_T_api_Cell) (z := v) (hO₄.rd0 s_l.rd : Sl e_T_api_Cell k₄ v_l l) rfl rfl c₁) ?_
            refine WO_v (a_faE (off' := 0) (off2 := 0) (hO₄.rd0 s_l.rd : Sl e_T_api_Cell k₄ v_l l) (toNat_lt c₁) rfl rfl) ?_
            obtain ⟨c₂, hp⟩ := ck_some hp
            refine WO_v (a_ixaaE (off := 0) (off2 := (0 + (d : Int).toNat * 1)) (z := d) (hO₄.rd0 s_l.rd : Sl e_T_api_Cell k₄ v_l l) (toNat_lt c₁) rfl rfl c₂ rfl) ?_
            refine WO_v (a_ldE (w := .i .i64 (((gi l (v : Int).toNat).Next).get d)) (hO₄.rd0 s_l.rd : Sl e_T_api_Cell k₄ v_l l) rfl (toNat_lt c₁) (ld_T_api_Cell_Next c₂)) ?_
            refine WO_v (a_mv (v := .i .i64 (((gi l (v : Int).toNat).Next).get d)) rfl) ?_
            refine WO_end ?_
            refine then_n ?_
            refine W_sq ?_
            refine W_rg ?_
            refine WO_v (a_mv (v := v_l) q₄_0) ?_
            refine WO_v (a_mv (v := .i .i64 v) q₄_3) ?_
            refine WO_v (a_mv (v := .i .i64 d) q₄_4) ?_
            refine WO_v (a_ixa (E := e_T_api_Cell) (z := v) (hO₄.rd0 s_l.rd : Sl e_T_api_Cell k₄ v_l l) rfl rfl c₁) ?_
            refine WO_v (a_faE (off' := 0) (off2 := 4) (hO₄.rd0 s_l.rd : Sl e_T_api_Cell k₄ v_l l) (toNat_lt c₁) rfl rfl) ?_
            refine WO_v (a_ixaaE (off := 4) (off2 := (4 + (d : Int).toNat * 1)) (z := d) (hO₄.rd0 s_l.rd : Sl e_T_api_Cell k₄ v_l l) (toNat_lt c₁) rfl rfl c₂ rfl) ?_
            refine WO_v (a_ldE (w := .i .i64 (((gi l (v : Int).toNat).Owner).get d)) (hO₄.rd0 s_l.rd : Sl e_T_api_Cell k₄ v_l l) rfl (toNat_lt c₁) (ld_T_api_Cell_Owner c₂)) ?_
            refine WO_v (a_mv (v := .i .i64 (((gi l (v : Int).toNat).Owner).get d)) rfl) ?_
            refine WO_end ?_
            refine then_n ?_
            refine W_sq ?_
            refine W_sq ?_
            refine W_rg ?_
            refine WO_v (a_mv (v := .i .i64 (((gi l (v : Int).toNat).Next).get d)) rfl) ?_
            refine WO_v (a_eqI (a := (((gi l (v : Int).toNat).Next).get d)) (b := (-1)) rfl rfl) ?_
            refine WO_end ?_
            refine then_n ?_
            rcases if_some hp with ⟨b₄, hp⟩ | ⟨b₄, hp⟩
            · refine W_cT (t := (decide (((gi l (v : Int).toNat).Next).get d = (-1)))) rfl b₄ ?_
              refine W_sq ?_
              refine W_sq ?_
              refine W_rg ?_
              refine WO_v (a_mv (v := .i .i64 (((gi l (v : Int).toNat).Owner).get d)) rfl) ?_
              refine WO_v (a_neI (a := (((gi l (v : Int).toNat).Owner).get d)) (b := 0) rfl rfl) ?_
              refine WO_end ?_
              refine then_n ?_
              rcases if_some hp with ⟨b₅, hp⟩ | ⟨b₅, hp⟩
              · refine W_cT (t := (!(decide (((gi l (v : Int).toNat).Owner).get d = 0)))) rfl b₅ ?_
                refine W_sq ?_
                refine W_rg ?_
                refine WO_v (a_mv (v := .i .i64 9) rfl) ?_
                refine WO_end ?_
                refine then_n ?_
                refine W_rt ?_
                refine then_r ?_
                refine then_r ?_
                refine blk_r ?_
                refine then_r ?_
                have hp := Option.some.inj hp; subst hp
                refine (Or.inr (Exists.intro (.inr 9) (And.intro rfl (And.intro (fun h => nomatch h) (fun he => ?_)))))
                subst he; exact (And.intro rfl (And.intro (rfl) (hO₄.pick [] rfl (by decide))))
              · refine W_cF (t := (!(decide (((gi l (v : Int).toNat).Owner).get d = 0)))) rfl b₅ ?_
                refine W_sk ?_
                refine then_n ?_
                refine W_ex ?_
                refine then_e ?_
                refine blk_i ?_
                refine then_n ?_
                refine W_rg ?_
                refine WO_v (a_mv (v := .i .i64 d) q₄_4) ?_
                obtain ⟨c₃, hp⟩ := ck_some hp
                refine WO_v (a_add (a := d) (b := 1) rfl rfl c₃) ?_
                refine WO_v (a_mv (v := .i .i64 (d + 1)) rfl) ?_
                refine WO_end ?_
                have hp := Option.some.inj hp; subst hp
                exact (Or.inl (Exists.intro (d + 1) (And.intro rfl (And.intro rfl (And.intro (q₄_0) (And.intro (q₄_3) (And.intro (rfl) (hO₄.pick [] rfl (by decide)))))))))
            · refine W_cF (t := (decide (((gi l (v : Int).toNat).Next).get d = (-1)))) rfl b₄ ?_
              refine W_sk ?_
              refine then_n ?_
              refine W_sq ?_
              refine W_sq ?_
              refine W_rg ?_
              refine WO_v (a_mv (v := .i .i64 (((gi l (v : Int).toNat).Next).get d)) rfl) ?_
              refine WO_v (a_lss (a := (((gi l (v : Int).toNat).Next).get d)) (b := 0) rfl rfl) ?_
              refine WO_v (a_mv (v := .b (decide ((((gi l (v : Int).toNat).Next).get d) < 0))) rfl) ?_
              refine WO_cut 5 (fun fr' k' => k₄ = k' ∧ fr' 45 = .b ((decide ((((gi l (v : Int).toNat).Next).get d) < 0)) || (decide ((l.length : Int) ≤ (((gi l (v : Int).toNat).Next).get d)))) ∧ fr' 0 = v_l ∧ fr' 3 = .i .i64 v ∧ fr' 4 = .i .i64 d ∧ fr' 5 = .i .i64 (((gi l (v : Int).toNat).Next).get d) ∧ fr' 6 = .i .i64 (((gi l (v : Int).toNat).Owner).get d)) ?_ ?_
              · rcases bc (decide ((((gi l (v : Int).toNat).Next).get d) < 0)) with b₆ | b₆
                · skip
                  refine WO_off rfl b₆ ?_
                  refine WO_off rfl b₆ ?_
                  refine WO_off rfl b₆ ?_
                  refine WO_off rfl b₆ ?_
                  refine WO_v (a_pickT (t := (decide ((((gi l (v : Int).toNat).Next).get d) < 0))) (v := .b ((decide ((((gi l (v : Int).toNat).Next).get d) < 0)) || (decide ((l.length : Int) ≤ (((gi l (v : Int).toNat).Next).get d))))) rfl b₆ (Eq.trans (b := V.b true) rfl (or_off b₆))) ?_
                  refine WO_end ?_
                  exact ⟨rfl, rfl, q₄_0, q₄_3, q₄_4, rfl, rfl⟩
                · skip
                  refine WO_on rfl b₆ ?_
                  refine WO_v (a_mv (v := .i .i64 (((gi l (v : Int).toNat).Next).get d)) rfl) ?_
                  refine WO_on rfl b₆ ?_
                  refine WO_v (a_mv (v := v_l) q₄_0) ?_
                  refine WO_on rfl b₆ ?_
                  refine WO_v (a_len (hO₄.rd0 s_l.rd : Sl e_T_api_Cell k₄ v_l l) rfl) ?_
                  refine WO_on rfl b₆ ?_
                  refine WO_v (a_geq (a := (((gi l (v : Int).toNat).Next).get d)) (b := (l.length : Int)) rfl rfl) ?_
                  refine WO_v (a_pickF (t := (decide ((((gi l (v : Int).toNat).Next).get d) < 0))) (v := .b ((decide ((((gi l (v : Int).toNat).Next).get d) < 0)) || (decide ((l.length : Int) ≤ (((gi l (v : Int).toNat).Next).get d))))) rfl b₆ (Eq.trans (b := V.b (decide ((l.length : Int) ≤ (((gi l (v : Int).toNat).Next).get d)))) rfl (or_on b₆))) ?_
                  refine WO_end ?_
                  exact ⟨rfl, rfl, q₄_0, q₄_3, q₄_4, rfl, rfl⟩
              rintro frg₁ _ ⟨rfl, g₁_45, g₁_0, g₁_3, g₁_4, g₁_5, g₁_6⟩
              refine WO_v (a_mv (v := .b ((decide ((((gi l (v : Int).toNat).Next).get d) < 0)) || (decide ((l.length : Int) ≤ (((gi l (v : Int).toNat).Next).get d))))) g₁_45) ?_
              refine WO_cut 4 (fun fr' k' => k₄ = k' ∧ fr' 50 = .b (((decide ((((gi l (v : Int).toNat).Next).get d) < 0)) || (decide ((l.length : Int) ≤ (((gi l (v : Int).toNat).Next).get d)))) || (decide (((gi l (v : Int).toNat).Next).get d = v))) ∧ fr' 0 = v_l ∧ fr' 3 = .i .i64 v ∧ fr' 4 = .i .i64 d ∧ fr' 5 = .i .i64 (((gi l (v : Int).toNat).Next).get d) ∧ fr' 6 = .i .i64 (((gi l (v : Int).toNat).Owner).get d)) ?_ ?_
              · rcases bc ((decide ((((gi l (v : Int).toNat).Next).get d) < 0)) || (decide ((l.length : Int) ≤ (((gi l (v : Int).toNat).Next).get d)))) with b₇ | b₇
                · skip
                  refine WO_off rfl b₇ ?_
                  refine WO_off rfl b₇ ?_
                  refine WO_off rfl b₇ ?_
                  refine WO_v (a_pickT (t := ((decide ((((gi l (v : Int).toNat).Next).get d) < 0)) || (decide ((l.length : Int) ≤ (((gi l (v : Int).toNat).Next).get d))))) (v := .b (((decide ((((gi l (v : Int).toNat).Next).get d) < 0)) || (decide ((l.length : Int) ≤ (((gi l (v : Int).toNat).Next).get d)))) || (decide (((gi l (v : Int).toNat).Next).get d = v)))) rfl b₇ (Eq.trans (b := V.b true) rfl (or_off b₇))) ?_
                  refine WO_end ?_
                  exact ⟨rfl, rfl, g₁_0, g₁_3, g₁_4, g₁_5, g₁_6⟩
                · skip
                  refine WO_on rfl b₇ ?_
                  refine WO_v (a_mv (v := .i .i64 (((gi l (v : Int).toNat).Next).get d)) g₁_5) ?_
                  refine WO_on rfl b₇ ?_
                  refine WO_v (a_mv (v := .i .i64 v) g₁_3) ?_
                  refine WO_on rfl b₇ ?_
                  refine WO_v (a_eqI (a := (((gi l (v : Int).toNat).Next).get d)) (b := v) rfl rfl) ?_
                  refine WO_v (a_pickF (t := ((decide ((((gi l (v : Int).toNat).Next).get d) < 0)) || (decide ((l.length : Int) ≤ (((gi l (v : Int).toNat).Next).get d))))) (v := .b (((decide ((((gi l (v : Int).toNat).Next).get d) < 0)) || (decide ((l.length : Int) ≤ (((gi l (v : Int).toNat).Next).get d)))) || (decide (((gi l (v : Int).toNat).Next).get d = v)))) rfl b₇ (Eq.trans (b := V.b (decide (((gi l (v : Int).toNat).Next).get d = v))) rfl (or_on b₇))) ?_
                  refine WO_end ?_
                  exact ⟨rfl, rfl, g₁_0, g₁_3, g₁_4, g₁_5, g₁_6⟩
              rintro frg₂ _ ⟨rfl, g₂_50, g₂_0, g₂_3, g₂_4, g₂_5, g₂_6⟩
              refine WO_end ?_
              refine then_n ?_
              rcases if_some hp with ⟨b₈, hp⟩ | ⟨b₈, hp⟩
              · refine W_cT (t := (((decide ((((gi l (v : Int).toNat).Next).get d) < 0)) || (decide ((l.length : Int) ≤ (((gi l (v : Int).toNat).Next).get d)))) || (decide (((gi l (v : Int).toNat).Next).get d = v)))) g₂_50 b₈ ?_
                refine W_sq ?_
                refine W_rg ?_
                refine WO_v (a_mv (v := .i .i64 3) rfl) ?_
                refine WO_end ?_
                refine then_n ?_
                refine W_rt ?_
                refine then_r ?_
                refine blk_r ?_
                refine then_r ?_
                have hp := Option.some.inj hp; subst hp
                refine (Or.inr (Exists.intro (.inr 3) (And.intro rfl (And.intro (fun h => nomatch h) (fun he => ?_)))))
                subst he; exact (And.intro rfl (And.intro (rfl) (hO₄.pick [] rfl (by decide))))
              · refine W_cF (t := (((decide ((((gi l (v : Int).toNat).Next).get d) < 0)) || (decide ((l.length : Int) ≤ (((gi l (v : Int).toNat).Next).get d)))) || (decide (((gi l (v : Int).toNat).Next).get d = v)))) g₂_50 b₈ ?_
                refine W_sk ?_
                refine then_n ?_
                refine W_sq ?_
                refine W_rg ?_
                refine WO_v (a_mv (v := v_l) g₂_0) ?_
                refine WO_v (a_mv (v := .i .i64 (((gi l (v : Int).toNat).Next).get d)) g₂_5) ?_
                refine WO_v (a_mv (v := .i .i64 d) g₂_4) ?_
                obtain ⟨c₄, hp⟩ := ck_some hp
                refine WO_v (a_add (a := d) (b := 2) rfl rfl c₄) ?_
                refine WO_v (a_rem (a := (d + 2)) (b := 4) rfl rfl (by decide)) ?_
                obtain ⟨c₅, hp⟩ := ck_some hp
                refine WO_v (a_ixa (E := e_T_api_Cell) (z := (((gi l (v : Int).toNat).Next).get d)) (hO₄.rd0 s_l.rd : Sl e_T_api_Cell k₄ v_l l) rfl rfl c₅) ?_
                refine WO_v (a_faE (off' := 0) (off2 := 0) (hO₄.rd0 s_l.rd : Sl e_T_api_Cell k₄ v_l l) (toNat_lt c₅) rfl rfl) ?_
                obtain ⟨c₆, hp⟩ := ck_some hp
                refine WO_v (a_ixaaE (off := 0) (off2 := (0 + ((d + 2).tmod 4 : Int).toNat * 1)) (z := ((d + 2).tmod 4)) (hO₄.rd0 s_l.rd : Sl e_T_api_Cell k₄ v_l l) (toNat_lt c₅) rfl rfl c₆ rfl) ?_
                refine WO_v (a_ldE (w := .i .i64 (((gi l (((gi l (v : Int).toNat).Next).get d : Int).toNat).Next).get ((d + 2).tmod 4))) (hO₄.rd0 s_l.rd : Sl e_T_api_Cell k₄ v_l l) rfl (toNat_lt c₅) (ld_T_api_Cell_Next c₆)) ?_
                refine WO_v (a_mv (v := .i .i64 v) g₂_3) ?_
                refine WO_v (a_neI (a := (((gi l (((gi l (v : Int).toNat).Next).get d : Int).toNat).Next).get ((d + 2).tmod 4))) (b := v) rfl rfl) ?_
                refine WO_v (a_mv (v := .b (!(decide (((gi l (((gi l (v : Int).toNat).Next).get d : Int).toNat).Next).get ((d + 2).tmod 4) = v)))) rfl) ?_
                refine WO_cut 12 (fun fr' k' => k₄ = k' ∧ fr' 74 = .b ((!(decide (((gi l (((gi l (v : Int).toNat).Next).get d : Int).toNat).Next).get ((d + 2).tmod 4) = v))) || (!(decide (((gi l (((gi l (v : Int).toNat).Next).get d : Int).toNat).Owner).get ((d + 2).tmod 4) = ((gi l (v : Int).toNat).Owner).get d)))) ∧ fr' 0 = v_l ∧ fr' 3 = .i .i64 v ∧ fr' 4 = .i .i64 d ∧ fr' 6 = .i .i64 (((gi l (v : Int).toNat).Owner).get d)) ?_ ?_
                · rcases bc (!(decide (((gi l (((gi l (v : Int).toNat).Next).get d : Int).toNat).Next).get ((d + 2).tmod 4) = v))) with b₉ | b₉
                  · skip
                    refine WO_off rfl b₉ ?_
                    refine WO_off rfl b₉ ?_
                    refine WO_off rfl b₉ ?_
                    refine WO_off rfl b₉ ?_
                    refine WO_off rfl b₉ ?_
                    refine WO_off rfl b₉ ?_
                    refine WO_off rfl b₉ ?_
                    refine WO_off rfl b₉ ?_
                    refine WO_off rfl b₉ ?_
                    refine WO_off rfl b₉ ?_
                    refine WO_off rfl b₉ ?_
                    refine WO_v (a_pickT (t := (!(decide (((gi l (((gi l (v : Int).toNat).Next).get d : Int).toNat).Next).get ((d + 2).tmod 4) = v)))) (v := .b ((!(decide (((gi l (((gi l (v : Int).toNat).Next).get d : Int).toNat).Next).get ((d + 2).tmod 4) = v))) || (!(decide (((gi l (((gi l (v : Int).toNat).Next).get d : Int).toNat).Owner).get ((d + 2).tmod 4) = ((gi l (v : Int).toNat).Owner).get d))))) rfl b₉ (Eq.trans (b := V.b true) rfl (or_off b₉))) ?_
                    refine WO_end ?_
                    exact ⟨rfl, rfl, g₂_0, g₂_3, g₂_4, g₂_6⟩
                  · skip
                    refine WO_on rfl b₉ ?_
                    refine WO_v (a_mv (v := v_l) g₂_0) ?_
                    refine WO_on rfl b₉ ?_
                    refine WO_v (a_mv (v := .i .i64 (((gi l (v : Int).toNat).Next).get d)) g₂_5) ?_
                    refine WO_on rfl b₉ ?_
                    refine WO_v (a_mv (v := .i .i64 d) g₂_4) ?_
                    refine WO_on rfl b₉ ?_
                    refine WO_v (a_add (a := d) (b := 2) rfl rfl c₄) ?_
                    refine WO_on rfl b₉ ?_
                    refine WO_v (a_rem (a := (d + 2)) (b := 4) rfl rfl (by decide)) ?_
                    refine WO_on rfl b₉ ?_
                    refine WO_v (a_ixa (E := e_T_api_Cell) (z := (((gi l (v : Int).toNat).Next).get d)) (hO₄.rd0 s_l.rd : Sl e_T_api_Cell k₄ v_l l) rfl rfl c₅) ?_
                    refine WO_on rfl b₉ ?_
                    refine WO_v (a_faE (off' := 0) (off2 := 4) (hO₄.rd0 s_l.rd : Sl e_T_api_Cell k₄ v_l l) (toNat_lt c₅) rfl rfl) ?_
                    refine WO_on rfl b₉ ?_
                    refine WO_v (a_ixaaE (off := 4) (off2 := (4 + ((d + 2).tmod 4 : Int).toNat * 1)) (z := ((d + 2).tmod 4)) (hO₄.rd0 s_l.rd : Sl e_T_api_Cell k₄ v_l l) (toNat_lt c₅) rfl rfl c₆ rfl) ?_
                    refine WO_on rfl b₉ ?_
                    refine WO_v (a_ldE (w := .i .i64 (((gi l (((gi l (v : Int).toNat).Next).get d : Int).toNat).Owner).get ((d + 2).tmod 4))) (hO₄.rd0 s_l.rd : Sl e_T_api_Cell k₄ v_l l) rfl (toNat_lt c₅) (ld_T_api_Cell_Owner c₆)) ?_
                    refine WO_on rfl b₉ ?_
                    refine WO_v (a_mv (v := .i .i64 (((gi l (v : Int).toNat).Owner).get d)) g₂_6) ?_
                    refine WO_on rfl b₉ ?_
                    refine WO_v (a_neI (a := (((gi l (((gi l (v : Int).toNat).Next).get d : Int).toNat).Owner).get ((d + 2).tmod 4))) (b := (((gi l (v : Int).toNat).Owner).get d)) rfl rfl) ?_
                    refine WO_v (a_pickF (t := (!(decide (((gi l (((gi l (v : Int).toNat).Next).get d : Int).toNat).Next).get ((d + 2).tmod 4) = v)))) (v := .b ((!(decide (((gi l (((gi l (v : Int).toNat).Next).get d : Int).toNat).Next).get ((d + 2).tmod 4) = v))) || (!(decide (((gi l (((gi l (v : Int).toNat).Next).get d : Int).toNat).Owner).get ((d + 2).tmod 4) = ((gi l (v : Int).toNat).Owner).get d))))) rfl b₉ (Eq.trans (b := V.b (!(decide (((gi l (((gi l (v : Int).toNat).Next).get d : Int).toNat).Owner).get ((d + 2).tmod 4) = ((gi l (v : Int).toNat).Owner).get d)))) rfl (or_on b₉))) ?_
                    refine WO_end ?_
                    exact ⟨rfl, rfl, g₂_0, g₂_3, g₂_4, g₂_6⟩
                rintro frg₃ _ ⟨rfl, g₃_74, g₃_0, g₃_3, g₃_4, g₃_6⟩
                refine WO_v (a_mv (v := .b ((!(decide (((gi l (((gi l (v : Int).toNat).Next).get d : Int).toNat).Next).get ((d + 2).tmod 4) = v))) || (!(decide (((gi l (((gi l (v : Int).toNat).Next).get d : Int).toNat).Owner).get ((d + 2).tmod 4) = ((gi l (v : Int).toNat).Owner).get d))))) g₃_74) ?_
                refine WO_cut 3 (fun fr' k' => k₄ = k' ∧ fr' 78 = .b (((!(decide (((gi l (((gi l (v : Int).toNat).Next).get d : Int).toNat).Next).get ((d + 2).tmod 4) = v))) || (!(decide (((gi l (((gi l (v : Int).toNat).Next).get d : Int).toNat).Owner).get ((d + 2).tmod 4) = ((gi l (v : Int).toNat).Owner).get d)))) || (decide ((((gi l (v : Int).toNat).Owner).get d) < (-2)))) ∧ fr' 0 = v_l ∧ fr' 3 = .i .i64 v ∧ fr' 4 = .i .i64 d) ?_ ?_
                · rcases bc ((!(decide (((gi l (((gi l (v : Int).toNat).Next).get d : Int).toNat).Next).get ((d + 2).tmod 4) = v))) || (!(decide (((gi l (((gi l (v : Int).toNat).Next).get d : Int).toNat).Owner).get ((d + 2).tmod 4) = ((gi l (v : Int).toNat).Owner).get d)))) with b₁₀ | b₁₀
                  · skip
                    refine WO_off rfl b₁₀ ?_
                    refine WO_off rfl b₁₀ ?_
                    refine WO_v (a_pickT (t := ((!(decide (((gi l (((gi l (v : Int).toNat).Next).get d : Int).toNat).Next).get ((d + 2).tmod 4) = v))) || (!(decide (((gi l (((gi l (v : Int).toNat).Next).get d : Int).toNat).Owner).get ((d + 2).tmod 4) = ((gi l (v : Int).toNat).Owner).get d))))) (v := .b (((!(decide (((gi l (((gi l (v : Int).toNat).Next).get d : Int).toNat).Next).get ((d + 2).tmod 4) = v))) || (!(decide (((gi l (((gi l (v : Int).toNat).Next).get d : Int).toNat).Owner).get ((d + 2).tmod 4) = ((gi l (v : Int).toNat).Owner).get d)))) || (decide ((((gi l (v : Int).toNat).Owner).get d) < (-2))))) rfl b₁₀ (Eq.trans (b := V.b true) rfl (or_off b₁₀))) ?_
                    refine WO_end ?_
                    exact ⟨rfl, rfl, g₃_0, g₃_3, g₃_4⟩
                  · skip
                    refine WO_on rfl b₁₀ ?_
                    refine WO_v (a_mv (v := .i .i64 (((gi l (v : Int).toNat).Owner).get d)) g₃_6) ?_
                    refine WO_on rfl b₁₀ ?_
                    refine WO_v (a_lss (a := (((gi l (v : Int).toNat).Owner).get d)) (b := (-2)) rfl rfl) ?_
                    refine WO_v (a_pickF (t := ((!(decide (((gi l (((gi l (v : Int).toNat).Next).get d : Int).toNat).Next).get ((d + 2).tmod 4) = v))) || (!(decide (((gi l (((gi l (v : Int).toNat).Next).get d : Int).toNat).Owner).get ((d + 2).tmod 4) = ((gi l (v : Int).toNat).Owner).get d))))) (v := .b (((!(decide (((gi l (((gi l (v : Int).toNat).Next).get d : Int).toNat).Next).get ((d + 2).tmod 4) = v))) || (!(decide (((gi l (((gi l (v : Int).toNat).Next).get d : Int).toNat).Owner).get ((d + 2).tmod 4) = ((gi l (v : Int).toNat).Owner).get d)))) || (decide ((((gi l (v : Int).toNat).Owner).get d) < (-2))))) rfl b₁₀ (Eq.trans (b := V.b (decide ((((gi l (v : Int).toNat).Owner).get d) < (-2)))) rfl (or_on b₁₀))) ?_
                    refine WO_end ?_
                    exact ⟨rfl, rfl, g₃_0, g₃_3, g₃_4⟩
                rintro frg₄ _ ⟨rfl, g₄_78, g₄_0, g₄_3, g₄_4⟩
                refine WO_end ?_
                refine then_n ?_
                rcases if_some hp with ⟨b₁₁, hp⟩ | ⟨b₁₁, hp⟩
                · refine W_cT (t := (((!(decide (((gi l (((gi l (v : Int).toNat).Next).get d : Int).toNat).Next).get ((d + 2).tmod 4) = v))) || (!(decide (((gi l (((gi l (v : Int).toNat).Next).get d : Int).toNat).Owner).get ((d + 2).tmod 4) = ((gi l (v : Int).toNat).Owner).get d)))) || (decide ((((gi l (v : Int).toNat).Owner).get d) < (-2))))) g₄_78 b₁₁ ?_
                  refine W_sq ?_
                  refine W_rg ?_
                  refine WO_v (a_mv (v := .i .i64 9) rfl) ?_
                  refine WO_end ?_
                  refine then_n ?_
                  refine W_rt ?_
                  refine blk_r ?_
                  refine then_r ?_
                  have hp := Option.some.inj hp; subst hp
                  refine (Or.inr (Exists.intro (.inr 9) (And.intro rfl (And.intro (fun h => nomatch h) (fun he => ?_)))))
                  subst he; exact (And.intro rfl (And.intro (rfl) (hO₄.pick [] rfl (by decide))))
                · refine W_cF (t := (((!(decide (((gi l (((gi l (v : Int).toNat).Next).get d : Int).toNat).Next).get ((d + 2).tmod 4) = v))) || (!(decide (((gi l (((gi l (v : Int).toNat).Next).get d : Int).toNat).Owner).get ((d + 2).tmod 4) = ((gi l (v : Int).toNat).Owner).get d)))) || (decide ((((gi l (v : Int).toNat).Owner).get d) < (-2))))) g₄_78 b₁₁ ?_
                  refine W_sk ?_
                  refine blk_n ?_
                  refine then_n ?_
                  refine W_rg ?_
                  refine WO_v (a_mv (v := .i .i64 d) g₄_4) ?_
                  obtain ⟨c₇, hp⟩ := ck_some hp
                  refine WO_v (a_add (a := d) (b := 1) rfl rfl c₇) ?_
                  refine WO_v (a_mv (v := .i .i64 (d + 1)) rfl) ?_
                  refine WO_end ?_
                  have hp := Option.some.inj hp; subst hp
                  exact (Or.inl (Exists.intro (d + 1) (And.intro rfl (And.intro rfl (And.intro (g₄_0) (And.intro (g₄_3) (And.intro (rfl) (hO₄.pick [] rfl (by decide)))))))))
          · refine W_cF (t := (decide (d < 4))) rfl b₃ ?_
            refine W_ex ?_
            refine then_e ?_
            have hp := Option.some.inj hp; subst hp
            refine (Or.inr (Exists.intro (.inl ()) (And.intro rfl (And.intro (fun h => nomatch h) (fun he => ?_)))))
            subst he; exact (And.intro rfl (And.intro (q₄_0) (And.intro (q₄_3) (hO₄.pick [] rfl (by decide)))))
        intro e₂ q₃ k₃ hJ₂
        rcases o₃ with _ | x1
        · obtain ⟨rfl, q₃_0, q₃_3, hO₃⟩ := hJ₂
          refine blk_i ?_
          refine blk_n ?_
          refine then_n ?_
          refine W_rg ?_
          refine WO_v (a_mv (v := .i .i64 v) q₃_3) ?_
          obtain ⟨c₈, hp⟩ := ck_some hp
          refine WO_v (a_add (a := v) (b := 1) rfl rfl c₈) ?_
          refine WO_v (a_mv (v := .i .i64 (v + 1)) rfl) ?_
          refine WO_end ?_
          have hp := Option.some.inj hp; subst hp
          exact (Or.inl (Exists.intro (v + 1) (And.intro rfl (And.intro rfl (And.intro (q₃_0) (And.intro (rfl) (hO₃.pick [] rfl (by decide))))))))
        · obtain ⟨rfl, q₃_2, hO₃⟩ := hJ₂
          refine blk_r ?_
          refine blk_r ?_
          refine then_r ?_
          have hp := Option.some.inj hp; subst hp
          refine (Or.inr (Exists.intro (.inr x1) (And.intro rfl (And.intro (fun h => nomatch h) (fun he => ?_)))))
          subst he; exact (And.intro rfl (And.intro (q₃_2) (hO₃.pick [] rfl (by decide))))
      · refine W_cF (t := (decide (v < (l.length : Int)))) rfl b₂ ?_
        refine W_ex ?_
        refine then_e ?_
        have hp := Option.some.inj hp; subst hp
        refine (Or.inr (Exists.intro (.inl ()) (And.intro rfl (And.intro (fun h => nomatch h) (fun he => ?_)))))
        subst he; exact (And.intro rfl (hO₂.pick [] rfl (by decide)))
    intro e₁ q₁ k₁ hJ₁
    rcases o₁ with _ | x
    · obtain ⟨rfl, hO₁⟩ := hJ₁
      refine blk_i ?_
      refine then_n ?_
      refine W_sq ?_
      refine W_rg ?_
      refine WO_v (a_mv (v := .i .i64 0) rfl) ?_
      refine WO_end ?_
      refine then_n ?_
      refine W_rt ?_
      refine Ret_r (rs_t (n := 2) (v := .i .i64 0) rfl rs_nil) ?_
      have hp := Option.some.inj hp; subst hp
      exact (And.intro rfl (hO₁.pick [] rfl (by decide)))
    · obtain ⟨rfl, q₁_2, hO₁⟩ := hJ₁
      refine blk_r ?_
      refine then_r ?_
      refine Ret_r (rs_t (n := 2) (v := .i .i64 x) q₁_2 rs_nil) ?_
      have hp := Option.some.inj hp; subst hp
      exact (And.intro rfl (hO₁.pick [] rfl (by decide)))

theorem p_muntinlaw16_SegTells.ok {h : Hp} {z : T_muntinref10_Places} {raw : List T_api_Cell} {i : Int} {v_z_At : V} {v_z_Bits : V} {v_z_Own : V} {v_raw : V} (s_z_At : Sl e_u8 h v_z_At z.At) (s_z_Bits : Sl e_u8 h v_z_Bits z.Bits) (s_z_Own : Sl e_i8 h v_z_Own z.Own) (s_raw : Sl e_T_api_Cell h v_raw raw) {r : Bool} (hp : p_muntinlaw16_SegTells z raw i = some r) :
    ∃ u k', Is G 109 [.ag [v_z_At, v_z_Bits, v_z_Own], v_raw, .i .i64 i] h u k' ∧ V.b r = u ∧ Own (fun r => r < h.n) h k' [] := by
  refine WC.is (WC_of G_F_muntinlaw16_SegTells ?_)
  unfold p_muntinlaw16_SegTells at hp
  let B : Nat → Prop := (fun r => r < h.n)
  have hO : Own B h h [] := Own.start0 h
  refine W_sq ?_
  refine W_rg ?_
  refine WO_x (hO.boxd (v := .ag [v_z_At, v_z_Bits, v_z_Own]) (cs := [v_z_At, v_z_Bits, v_z_Own]) hO.fr rfl rfl) ?_
  rintro _ k₁ ⟨r₁, rfl, n₁, f₁, hW⟩
  have hO₁ : Own B h k₁ [eBox r₁ [v_z_At, v_z_Bits, v_z_Own]] := hW
  refine WO_v (a_mv (v := .b false) rfl) ?_
  refine WO_end ?_
  refine then_n ?_
  refine W_sq ?_
  refine W_rg ?_
  refine WO_v (a_ldbA (cs := [v_z_At, v_z_Bits, v_z_Own]) (ws := [v_z_At, v_z_Bits, v_z_Own]) (hO₁.box 0 rfl) rfl rfl) ?_
  obtain ⟨⟨x, x1⟩, hx₁, hp⟩ := bd_some hp
  obtain ⟨u₁, k₂, ca₁, v₁, v₂, rfl, hW₁⟩ := p_muntinref10_Make.ok (h := k₁)  (hO₁.rd0 s_z_At.rd : Sl e_u8 k₁ v_z_At z.At) (hO₁.rd0 s_z_Bits.rd : Sl e_u8 k₁ v_z_Bits z.Bits) (hO₁.rd0 s_z_Own.rd : Sl e_i8 k₁ v_z_Own z.Own) hx₁
  refine WO_c (id := 28) (caps := []) rfl (mp_cons (v := .ag [v_z_At, v_z_Bits, v_z_Own]) rfl (mp_cons (v := .i .i64 20) rfl mp_nil)) ca₁ ?_
  have hO₂ : Own B h k₂ [eBox r₁ [v_z_At, v_z_Bits, v_z_Own], eSl e_T_api_Cell v₁ x, eSl e_T_api_Point v₂ x1] := hO₁.call hW₁ rfl
  refine WO_v (a_mv (v := .tu [v₁, v₂]) rfl) ?_
  refine WO_v (a_ext (vs := [v₁, v₂]) (v := v₁) rfl rfl) ?_
  refine WO_v (a_ext (vs := [v₁, v₂]) (v := v₂) rfl rfl) ?_
  refine WO_v (a_mv (v := v₁) rfl) ?_
  refine WO_v (a_mv (v := v₂) rfl) ?_
  refine WO_end ?_
  refine then_n ?_
  refine W_sq ?_
  refine W_rg ?_
  refine WO_v (a_mv (v := v₁) rfl) ?_
  obtain ⟨⟨x2, x3⟩, hx₂, hp⟩ := bd_some hp
  obtain ⟨u₂, k₃, ca₂, v₃, v₄, v₅, vs₁, v₆, vs₂, rfl, hW₂⟩ := p_seg_Of.ok (h := k₂)  (hO₂.sl 1 rfl : Sl e_T_api_Cell k₂ v₁ x) hx₂
  refine WO_c (id := 120) (caps := []) rfl (mp_cons (v := v₁) rfl mp_nil) ca₂ ?_
  have hO₃ : Own B h k₃ [eBox r₁ [v_z_At, v_z_Bits, v_z_Own], eSl e_T_api_Cell v₁ x, eSl e_T_api_Point v₂ x1, eSl eInt v₃ x2.X, eSl eInt v₄ x2.Y, eSl eV v₅ vs₁, eAll eInt vs₁ x2.Vert, eSl eV v₆ vs₂, eAll eInt vs₂ x2.Horz] := hO₂.call hW₂ rfl
  refine WO_v (a_mv (v := .tu [.ag [v₃, v₄, v₅, v₆], .i .i64 x3]) rfl) ?_
  refine WO_v (a_ext (vs := [.ag [v₃, v₄, v₅, v₆], .i .i64 x3]) (v := .ag [v₃, v₄, v₅, v₆]) rfl rfl) ?_
  refine WO_v (a_ext (vs := [.ag [v₃, v₄, v₅, v₆], .i .i64 x3]) (v := .i .i64 x3) rfl rfl) ?_
  refine WO_x (hO₃.alloc (cs := [.sn, .sn, .sn, .sn]) hO₃.fr) ?_
  rintro _ k₄ ⟨r₂, rfl, n₂, f₂, hW⟩
  have hO₄ : Own B h k₄ [eBox r₁ [v_z_At, v_z_Bits, v_z_Own], eSl e_T_api_Cell v₁ x, eSl e_T_api_Point v₂ x1, eSl eInt v₃ x2.X, eSl eInt v₄ x2.Y, eSl eV v₅ vs₁, eAll eInt vs₁ x2.Vert, eSl eV v₆ vs₂, eAll eInt vs₂ x2.Horz, eBox r₂ [.sn, .sn, .sn, .sn]] := hW
  refine WO_x (hO₄.stb (ws := [v₃, v₄, v₅, v₆]) (cs' := [v₃, v₄, v₅, v₆]) (v := .ag [v₃, v₄, v₅, v₆]) 9 rfl rfl rfl rfl ⟨rfl, Nat.le_of_ble_eq_true rfl, (all_cons (hO₄.sl 3 rfl : Sl eInt k₄ v₃ x2.X).oneV (all_cons (hO₄.sl 4 rfl : Sl eInt k₄ v₄ x2.Y).oneV (all_cons (hO₄.sl 5 rfl : Sl eV k₄ v₅ vs₁).oneV (all_cons (hO₄.sl 7 rfl : Sl eV k₄ v₆ vs₂).oneV all_nil))))⟩ rfl) ?_
  rintro _ k₅ ⟨rfl, f₃, m₁, hW⟩
  have hO₅ : Own B h k₅ [eBox r₁ [v_z_At, v_z_Bits, v_z_Own], eSl e_T_api_Cell v₁ x, eSl e_T_api_Point v₂ x1, eSl eInt v₃ x2.X, eSl eInt v₄ x2.Y, eSl eV v₅ vs₁, eAll eInt vs₁ x2.Vert, eSl eV v₆ vs₂, eAll eInt vs₂ x2.Horz, eBox r₂ [v₃, v₄, v₅, v₆]] := hW
  refine WO_v (a_mv (v := .i .i64 x3) rfl) ?_
  refine WO_end ?_
  refine then_n ?_
  refine W_sq ?_
  refine W_rg ?_
  refine WO_v (a_mv (v := v₁) rfl) ?_
  obtain ⟨⟨x4, x5⟩, hx₃, hp⟩ := bd_some hp
  obtain ⟨u₃, k₆, ca₃, v₇, v₈, v₉, vs₃, v₁₀, vs₄, rfl, hW₃⟩ := p_muntinref16_Of.ok (h := k₅)  (hO₅.sl 1 rfl : Sl e_T_api_Cell k₅ v₁ x) hx₃
  refine WO_c (id := 121) (caps := []) rfl (mp_cons (v := v₁) rfl mp_nil) ca₃ ?_
  have hO₆ : Own B h k₆ [eBox r₁ [v_z_At, v_z_Bits, v_z_Own], eSl e_T_api_Cell v₁ x, eSl e_T_api_Point v₂ x1, eSl eInt v₃ x2.X, eSl eInt v₄ x2.Y, eSl eV v₅ vs₁, eAll eInt vs₁ x2.Vert, eSl eV v₆ vs₂, eAll eInt vs₂ x2.Horz, eBox r₂ [v₃, v₄, v₅, v₆], eSl eInt v₇ x4.X, eSl eInt v₈ x4.Y, eSl eV v₉ vs₃, eAll eInt vs₃ x4.Vert, eSl eV v₁₀ vs₄, eAll eInt vs₄ x4.Horz] := hO₅.call hW₃ rfl
  refine WO_v (a_mv (v := .tu [.ag [v₇, v₈, v₉, v₁₀], .b x5]) rfl) ?_
  refine WO_v (a_ext (vs := [.ag [v₇, v₈, v₉, v₁₀], .b x5]) (v := .ag [v₇, v₈, v₉, v₁₀]) rfl rfl) ?_
  refine WO_v (a_ext (vs := [.ag [v₇, v₈, v₉, v₁₀], .b x5]) (v := .b x5) rfl rfl) ?_
  refine WO_x (hO₆.alloc (cs := [.sn, .sn, .sn, .sn]) hO₆.fr) ?_
  rintro _ k₇ ⟨r₃, rfl, n₃, f₄, hW⟩
  have hO₇ : Own B h k₇ [eBox r₁ [v_z_At, v_z_Bits, v_z_Own], eSl e_T_api_Cell v₁ x, eSl e_T_api_Point v₂ x1, eSl eInt v₃ x2.X, eSl eInt v₄ x2.Y, eSl eV v₅ vs₁, eAll eInt vs₁ x2.Vert, eSl eV v₆ vs₂, eAll eInt vs₂ x2.Horz, eBox r₂ [v₃, v₄, v₅, v₆], eSl eInt v₇ x4.X, eSl eInt v₈ x4.Y, eSl eV v₉ vs₃, eAll eInt vs₃ x4.Vert, eSl eV v₁₀ vs₄, eAll eInt vs₄ x4.Horz, eBox r₃ [.sn, .sn, .sn, .sn]] := hW
  refine WO_x (hO₇.stb (ws := [v₇, v₈, v₉, v₁₀]) (cs' := [v₇, v₈, v₉, v₁₀]) (v := .ag [v₇, v₈, v₉, v₁₀]) 16 rfl rfl rfl rfl ⟨rfl, Nat.le_of_ble_eq_true rfl, (all_cons (hO₇.sl 10 rfl : Sl eInt k₇ v₇ x4.X).oneV (all_cons (hO₇.sl 11 rfl : Sl eInt k₇ v₈ x4.Y).oneV (all_cons (hO₇.sl 12 rfl : Sl eV k₇ v₉ vs₃).oneV (all_cons (hO₇.sl 14 rfl : Sl eV k₇ v₁₀ vs₄).oneV all_nil))))⟩ rfl) ?_
  rintro _ k₈ ⟨rfl, f₅, m₂, hW⟩
  have hO₈ : Own B h k₈ [eBox r₁ [v_z_At, v_z_Bits, v_z_Own], eSl e_T_api_Cell v₁ x, eSl e_T_api_Point v₂ x1, eSl eInt v₃ x2.X, eSl eInt v₄ x2.Y, eSl eV v₅ vs₁, eAll eInt vs₁ x2.Vert, eSl eV v₆ vs₂, eAll eInt vs₂ x2.Horz, eBox r₂ [v₃, v₄, v₅, v₆], eSl eInt v₇ x4.X, eSl eInt v₈ x4.Y, eSl eV v₉ vs₃, eAll eInt vs₃ x4.Vert, eSl eV v₁₀ vs₄, eAll eInt vs₄ x4.Horz, eBox r₃ [v₇, v₈, v₉, v₁₀]] := hW
  refine WO_v (a_mv (v := .b x5) rfl) ?_
  refine WO_end ?_
  refine then_n ?_
  refine W_sq ?_
  refine W_sq ?_
  refine W_rg ?_
  obtain ⟨x6, hx₄, hp⟩ := bd_some hp
  obtain ⟨u₄, k₉, ca₄, rfl, hW₄⟩ := p_muntinlaw16_wakes.ok (h := k₈)   hx₄
  refine WO_c (id := 122) (caps := []) rfl mp_nil ca₄ ?_
  have hO₉ : Own B h k₉ [eBox r₁ [v_z_At, v_z_Bits, v_z_Own], eSl e_T_api_Cell v₁ x, eSl e_T_api_Point v₂ x1, eSl eInt v₃ x2.X, eSl eInt v₄ x2.Y, eSl eV v₅ vs₁, eAll eInt vs₁ x2.Vert, eSl eV v₆ vs₂, eAll eInt vs₂ x2.Horz, eBox r₂ [v₃, v₄, v₅, v₆], eSl eInt v₇ x4.X, eSl eInt v₈ x4.Y, eSl eV v₉ vs₃, eAll eInt vs₃ x4.Vert, eSl eV v₁₀ vs₄, eAll eInt vs₄ x4.Horz, eBox r₃ [v₇, v₈, v₉, v₁₀]] := hO₈.call hW₄ rfl
  refine WO_v (a_not (t := x6) rfl) ?_
  refine WO_v (a_mv (v := .b (!x6)) rfl) ?_
  refine WO_cut 3 (fun fr' k' => k₉ = k' ∧ fr' 46 = .b ((!x6) || (!(decide (x3 = 0)))) ∧ fr' 1 = v_raw ∧ fr' 11 = .p r₃ 0 ∧ fr' 12 = .b x5 ∧ fr' 2 = .i .i64 i ∧ fr' 9 = .p r₂ 0) ?_ ?_
  · rcases bc (!x6) with b₁ | b₁
    · skip
      refine WO_off rfl b₁ ?_
      refine WO_off rfl b₁ ?_
      refine WO_v (a_pickT (t := (!x6)) (v := .b ((!x6) || (!(decide (x3 = 0))))) rfl b₁ (Eq.trans (b := V.b true) rfl (or_off b₁))) ?_
      refine WO_end ?_
      exact ⟨rfl, rfl, rfl, rfl, rfl, rfl, rfl⟩
    · skip
      refine WO_on rfl b₁ ?_
      refine WO_v (a_mv (v := .i .i64 x3) rfl) ?_
      refine WO_on rfl b₁ ?_
      refine WO_v (a_neI (a := x3) (b := 0) rfl rfl) ?_
      refine WO_v (a_pickF (t := (!x6)) (v := .b ((!x6) || (!(decide (x3 = 0))))) rfl b₁ (Eq.trans (b := V.b (!(decide (x3 = 0)))) rfl (or_on b₁))) ?_
      refine WO_end ?_
      exact ⟨rfl, rfl, rfl, rfl, rfl, rfl, rfl⟩
  rintro frg₁ _ ⟨rfl, g₁_46, g₁_1, g₁_11, g₁_12, g₁_2, g₁_9⟩
  refine WO_v (a_mv (v := .b ((!x6) || (!(decide (x3 = 0))))) g₁_46) ?_
  refine WO_cut 3 (fun fr' k' => k₉ = k' ∧ fr' 50 = .b (((!x6) || (!(decide (x3 = 0)))) || (!x5)) ∧ fr' 1 = v_raw ∧ fr' 11 = .p r₃ 0 ∧ fr' 2 = .i .i64 i ∧ fr' 9 = .p r₂ 0) ?_ ?_
  · rcases bc ((!x6) || (!(decide (x3 = 0)))) with b₂ | b₂
    · skip
      refine WO_off rfl b₂ ?_
      refine WO_off rfl b₂ ?_
      refine WO_v (a_pickT (t := ((!x6) || (!(decide (x3 = 0))))) (v := .b (((!x6) || (!(decide (x3 = 0)))) || (!x5))) rfl b₂ (Eq.trans (b := V.b true) rfl (or_off b₂))) ?_
      refine WO_end ?_
      exact ⟨rfl, rfl, g₁_1, g₁_11, g₁_2, g₁_9⟩
    · skip
      refine WO_on rfl b₂ ?_
      refine WO_v (a_mv (v := .b x5) g₁_12) ?_
      refine WO_on rfl b₂ ?_
      refine WO_v (a_not (t := x5) rfl) ?_
      refine WO_v (a_pickF (t := ((!x6) || (!(decide (x3 = 0))))) (v := .b (((!x6) || (!(decide (x3 = 0)))) || (!x5))) rfl b₂ (Eq.trans (b := V.b (!x5)) rfl (or_on b₂))) ?_
      refine WO_end ?_
      exact ⟨rfl, rfl, g₁_1, g₁_11, g₁_2, g₁_9⟩
  rintro frg₂ _ ⟨rfl, g₂_50, g₂_1, g₂_11, g₂_2, g₂_9⟩
  refine WO_v (a_mv (v := .b (((!x6) || (!(decide (x3 = 0)))) || (!x5))) g₂_50) ?_
  obtain ⟨t, hv₁, hp⟩ := bd_some hp
  refine WO_cut 5 (fun fr' k' => Own B h k' [eBox r₁ [v_z_At, v_z_Bits, v_z_Own], eSl e_T_api_Cell v₁ x, eSl e_T_api_Point v₂ x1, eSl eInt v₃ x2.X, eSl eInt v₄ x2.Y, eSl eV v₅ vs₁, eAll eInt vs₁ x2.Vert, eSl eV v₆ vs₂, eAll eInt vs₂ x2.Horz, eBox r₂ [v₃, v₄, v₅, v₆], eSl eInt v₇ x4.X, eSl eInt v₈ x4.Y, eSl eV v₉ vs₃, eAll eInt vs₃ x4.Vert, eSl eV v₁₀ vs₄, eAll eInt vs₄ x4.Horz, eBox r₃ [v₇, v₈, v₉, v₁₀]] ∧ fr' 56 = .b t ∧ fr' 1 = v_raw ∧ fr' 11 = .p r₃ 0 ∧ fr' 2 = .i .i64 i ∧ fr' 9 = .p r₂ 0) ?_ ?_
  · clear hp; rcases if_some hv₁ with ⟨b₃, hp⟩ | ⟨b₃, hp⟩
    · skip
      refine WO_off rfl b₃ ?_
      refine WO_off rfl b₃ ?_
      refine WO_off rfl b₃ ?_
      refine WO_off rfl b₃ ?_
      refine WO_v (a_pickT (t := (((!x6) || (!(decide (x3 = 0)))) || (!x5))) (v := .b t) rfl b₃ (Eq.trans (b := V.b true) rfl (congrArg V.b (Option.some.inj hp)))) ?_
      refine WO_end ?_
      exact ⟨hO₉.pick [0, 1, 2, 3, 4, 5, 6, 7, 8, 9, 10, 11, 12, 13, 14, 15, 16] rfl (by decide), rfl, g₂_1, g₂_11, g₂_2, g₂_9⟩
    · skip
      refine WO_on rfl b₃ ?_
      refine WO_v (a_ldbA (cs := [v₃, v₄, v₅, v₆]) (ws := [v₃, v₄, v₅, v₆]) (hO₉.box 9 rfl) g₂_9 rfl) ?_
      refine WO_on rfl b₃ ?_
      refine WO_v (a_ldbA (cs := [v₇, v₈, v₉, v₁₀]) (ws := [v₇, v₈, v₉, v₁₀]) (hO₉.box 16 rfl) g₂_11 rfl) ?_
      refine WO_on rfl b₃ ?_
      obtain ⟨x7, hx₅, hp⟩ := bd_some hp
      obtain ⟨u₅, k₁₀, ca₅, rfl, hW₅⟩ := p_muntinlaw16_same.ok (h := k₉)  (hO₉.sl 3 rfl : Sl eInt k₉ v₃ x2.X) (hO₉.sl 4 rfl : Sl eInt k₉ v₄ x2.Y) (hO₉.sl 5 rfl : Sl eV k₉ v₅ vs₁) (hO₉.allLen 6 rfl : (vs₁).length = (x2.Vert).length) (fun j hj => hO₉.inn 6 rfl hj) (hO₉.sl 7 rfl : Sl eV k₉ v₆ vs₂) (hO₉.allLen 8 rfl : (vs₂).length = (x2.Horz).length) (fun j hj => hO₉.inn 8 rfl hj) (hO₉.sl 10 rfl : Sl eInt k₉ v₇ x4.X) (hO₉.sl 11 rfl : Sl eInt k₉ v₈ x4.Y) (hO₉.sl 12 rfl : Sl eV k₉ v₉ vs₃) (hO₉.allLen 13 rfl : (vs₃).length = (x4.Vert).length) (fun j hj => hO₉.inn 13 rfl hj) (hO₉.sl 14 rfl : Sl eV k₉ v₁₀ vs₄) (hO₉.allLen 15 rfl : (vs₄).length = (x4.Horz).length) (fun j hj => hO₉.inn 15 rfl hj) hx₅
      refine WO_c (id := 125) (caps := []) rfl (mp_cons (v := .ag [v₃, v₄, v₅, v₆]) rfl (mp_cons (v := .ag [v₇, v₈, v₉, v₁₀]) rfl mp_nil)) ca₅ ?_
      have hO₁₀ : Own B h k₁₀ [eBox r₁ [v_z_At, v_z_Bits, v_z_Own], eSl e_T_api_Cell v₁ x, eSl e_T_api_Point v₂ x1, eSl eInt v₃ x2.X, eSl eInt v₄ x2.Y, eSl eV v₅ vs₁, eAll eInt vs₁ x2.Vert, eSl eV v₆ vs₂, eAll eInt vs₂ x2.Horz, eBox r₂ [v₃, v₄, v₅, v₆], eSl eInt v₇ x4.X, eSl eInt v₈ x4.Y, eSl eV v₉ vs₃, eAll eInt vs₃ x4.Vert, eSl eV v₁₀ vs₄, eAll eInt vs₄ x4.Horz, eBox r₃ [v₇, v₈, v₉, v₁₀]] := hO₉.call hW₅ rfl
      refine WO_on rfl b₃ ?_
      refine WO_v (a_not (t := x7) rfl) ?_
      refine WO_v (a_pickF (t := (((!x6) || (!(decide (x3 = 0)))) || (!x5))) (v := .b t) rfl b₃ (Eq.trans (b := V.b (!x7)) rfl (congrArg V.b (Option.some.inj hp)))) ?_
      refine WO_end ?_
      exact ⟨hO₁₀.pick [0, 1, 2, 3, 4, 5, 6, 7, 8, 9, 10, 11, 12, 13, 14, 15, 16] rfl (by decide), rfl, g₂_1, g₂_11, g₂_2, g₂_9⟩
  rintro frg₃ k₁₁ ⟨hO₁₁, g₃_56, g₃_1, g₃_11, g₃_2, g₃_9⟩
  refine WO_end ?_
  refine then_n ?_
  rcases if_some hp with ⟨b₄, hp⟩ | ⟨b₄, hp⟩
  · refine W_cT (t := t) g₃_56 b₄ ?_
    refine W_sq ?_
    refine W_rg ?_
    refine WO_v (a_mv (v := .b false) rfl) ?_
    refine WO_end ?_
    refine then_n ?_
    refine W_rt ?_
    refine then_r ?_
    refine Ret_r (rs_t (n := 6) (v := .b false) rfl rs_nil) ?_
    have hp := Option.some.inj hp; subst hp
    exact (And.intro rfl (hO₁₁.pick [] rfl (by decide)))
  · refine W_cF (t := t) g₃_56 b₄ ?_
    refine W_sk ?_
    refine then_n ?_
    refine W_sq ?_
    refine W_sq ?_
    refine W_rg ?_
    refine WO_x (hO₁₁.bsl (E := e_bool) (l := [true, false]) hO₁₁.fr (by rw [(ev_cons (v := .b true) rfl (ev_cons (v := .b false) rfl ev_nil))]; rfl) rfl) ?_
    rintro v₁₁ k₁₂ ⟨r₄, f₆, hW⟩
    have hO₁₂ : Own B h k₁₂ [eBox r₁ [v_z_At, v_z_Bits, v_z_Own], eSl e_T_api_Cell v₁ x, eSl e_T_api_Point v₂ x1, eSl eInt v₃ x2.X, eSl eInt v₄ x2.Y, eSl eV v₅ vs₁, eAll eInt vs₁ x2.Vert, eSl eV v₆ vs₂, eAll eInt vs₂ x2.Horz, eBox r₂ [v₃, v₄, v₅, v₆], eSl eInt v₇ x4.X, eSl eInt v₈ x4.Y, eSl eV v₉ vs₃, eAll eInt vs₃ x4.Vert, eSl eV v₁₀ vs₄, eAll eInt vs₄ x4.Horz, eBox r₃ [v₇, v₈, v₉, v₁₀], eSl e_bool v₁₁ [true, false]] := hW
    refine WO_v (a_len (hO₁₂.sl 17 rfl : Sl e_bool k₁₂ v₁₁ [true, false]) rfl) ?_
    refine WO_v (a_mv (v := .i .i64 0) rfl) ?_
    refine WO_end ?_
    refine then_n ?_
    refine W_bl ?_
    obtain ⟨o₁, ho₁, hp⟩ := bd_some hp
    refine W.mono (Q := fun e fr k => match (generalizing := false) o₁ with
        | .inl _ => e = (.exit 0) ∧ fr 1 = v_raw ∧ Own B h k []
        | .inr _ => e = .ret ∧ fr 6 = .b false ∧ Own B h k []) ?_ ?_
    · clear hp
      refine W_loopF (fun st fr k => match st with | x8 => fr 1 = v_raw ∧ fr 2 = .i .i64 i ∧ fr 9 = .p r₂ 0 ∧ fr 11 = .p r₃ 0 ∧ fr 57 = v₁₁ ∧ fr 58 = .i .i64 ([true, false].length : Int) ∧ fr 59 = .i .i64 x8 ∧ Own B h k [eBox r₂ [v₃, v₄, v₅, v₆], eSl eInt v₃ x2.X, eSl eInt v₄ x2.Y, eSl eV v₅ vs₁, eAll eInt vs₁ x2.Vert, eSl eV v₆ vs₂, eAll eInt vs₂ x2.Horz, eBox r₃ [v₇, v₈, v₉, v₁₀], eSl eInt v₇ x4.X, eSl eInt v₈ x4.Y, eSl eV v₉ vs₃, eAll eInt vs₃ x4.Vert, eSl eV v₁₀ vs₄, eAll eInt vs₄ x4.Horz, eSl e_bool v₁₁ [true, false]]) ho₁ (s := 0) (And.intro (g₃_1) (And.intro (g₃_2) (And.intro (g₃_9) (And.intro (g₃_11) (And.intro (rfl) (And.intro (rfl) (And.intro (rfl) (hO₁₂.pick [9, 3, 4, 5, 6, 7, 8, 16, 10, 11, 12, 13, 14, 15, 17] rfl (by decide))))))))) ?_
      rintro x8 q₂ k₁₄ ⟨q₂_1, q₂_2, q₂_9, q₂_11, q₂_57, q₂_58, q₂_59, hO₁₄⟩ o₂ hp
      dsimp only [p_muntinlaw16_SegTells.s0] at hp
      refine W_sq ?_
      refine W_rg ?_
      refine WO_v (a_lss (a := x8) (b := ([true, false].length : Int)) q₂_59 q₂_58) ?_
      refine WO_end ?_
      refine then_n ?_
      refine W_sq ?_
      rcases if_some hp with ⟨b₅, hp⟩ | ⟨b₅, hp⟩
      · refine W_cT (t := (decide (x8 < ([true, false].length : Int)))) rfl b₅ ?_
        refine W_sk ?_
        refine then_n ?_
        refine W_sq ?_
        refine W_bl ?_
        refine W_sq ?_
        refine W_rg ?_
        obtain ⟨c₁, hp⟩ := ck_some hp
        refine WO_v (a_ixa (E := e_bool) (z := x8) (hO₁₄.sl 14 rfl : Sl e_bool k₁₄ v₁₁ [true, false]) q₂_57 q₂_59 c₁) ?_
        refine WO_v (a_ldE (w := .b (gi [true, false] (x8 : Int).toNat)) (hO₁₄.sl 14 rfl : Sl e_bool k₁₄ v₁₁ [true, false]) rfl (toNat_lt c₁) rfl) ?_
        refine WO_v (a_mv (v := .b (gi [true, false] (x8 : Int).toNat)) rfl) ?_
        refine WO_end ?_
        refine then_n ?_
        refine W_sq ?_
        refine W_rg ?_
        refine WO_v (a_mv (v := .i .i64 i) q₂_2) ?_
        refine WO_v (a_mv (v := .i .i64 i) q₂_2) ?_
        refine WO_v (a_mx (a := 0) (b := i) rfl rfl) ?_
        refine WO_v (a_rem (a := (max 0 i)) (b := 9) rfl rfl (by decide)) ?_
        refine WO_x (hO₁₄.bsl (E := eInt) (l := [i, (max 0 i).tmod 9]) hO₁₄.fr (by rw [(ev_cons (v := .i .i64 i) rfl (ev_cons (v := .i .i64 ((max 0 i).tmod 9)) rfl ev_nil))]; rfl) rfl) ?_
        rintro v₁₂ k₁₅ ⟨r₅, f₇, hW⟩
        have hO₁₅ : Own B h k₁₅ [eBox r₂ [v₃, v₄, v₅, v₆], eSl eInt v₃ x2.X, eSl eInt v₄ x2.Y, eSl eV v₅ vs₁, eAll eInt vs₁ x2.Vert, eSl eV v₆ vs₂, eAll eInt vs₂ x2.Horz, eBox r₃ [v₇, v₈, v₉, v₁₀], eSl eInt v₇ x4.X, eSl eInt v₈ x4.Y, eSl eV v₉ vs₃, eAll eInt vs₃ x4.Vert, eSl eV v₁₀ vs₄, eAll eInt vs₄ x4.Horz, eSl e_bool v₁₁ [true, false], eSl eInt v₁₂ [i, (max 0 i).tmod 9]] := hW
        refine WO_v (a_len (hO₁₅.sl 15 rfl : Sl eInt k₁₅ v₁₂ [i, (max 0 i).tmod 9]) rfl) ?_
        refine WO_v (a_mv (v := .i .i64 0) rfl) ?_
        refine WO_end ?_
        refine then_n ?_
        refine W_bl ?_
        obtain ⟨o₃, ho₂, hp⟩ := bd_some hp
        refine W.mono (Q := fun e fr k => match (generalizing := false) o₃ with
            | .inl _ => e = (.exit 2) ∧ fr 1 = v_raw ∧ fr 2 = .i .i64 i ∧ fr 9 = .p r₂ 0 ∧ fr 11 = .p r₃ 0 ∧ fr 57 = v₁₁ ∧ fr 58 = .i .i64 ([true, false].length : Int) ∧ fr 59 = .i .i64 x8 ∧ Own B h k [eBox r₂ [v₃, v₄, v₅, v₆], eSl eInt v₃ x2.X, eSl eInt v₄ x2.Y, eSl eV v₅ vs₁, eAll eInt vs₁ x2.Vert, eSl eV v₆ vs₂, eAll eInt vs₂ x2.Horz, eBox r₃ [v₇, v₈, v₉, v₁₀], eSl eInt v₇ x4.X, eSl eInt v₈ x4.Y, eSl eV v₉ vs₃, eAll eInt vs₃ x4.Vert, eSl eV v₁₀ vs₄, eAll eInt vs₄ x4.Horz, eSl e_bool v₁₁ [true, false]]
            | .inr _ => e = .ret ∧ fr 6 = .b false ∧ Own B h k []) ?_ ?_
        · clear hp
          refine W_loopF (fun st fr k => match st with | x9 => fr 1 = v_raw ∧ fr 2 = .i .i64 i ∧ fr 9 = .p r₂ 0 ∧ fr 11 = .p r₃ 0 ∧ fr 14 = .b (gi [true, false] (x8 : Int).toNat) ∧ fr 57 = v₁₁ ∧ fr 58 = .i .i64 ([true, false].length : Int) ∧ fr 59 = .i .i64 x8 ∧ fr 67 = v₁₂ ∧ fr 68 = .i .i64 ([i, (max 0 i).tmod 9].length : Int) ∧ fr 69 = .i .i64 x9 ∧ Own B h k [eBox r₂ [v₃, v₄, v₅, v₆], eSl eInt v₃ x2.X, eSl eInt v₄ x2.Y, eSl eV v₅ vs₁, eAll eInt vs₁ x2.Vert, eSl eV v₆ vs₂, eAll eInt vs₂ x2.Horz, eBox r₃ [v₇, v₈, v₉, v₁₀], eSl eInt v₇ x4.X, eSl eInt v₈ x4.Y, eSl eV v₉ vs₃, eAll eInt vs₃ x4.Vert, eSl eV v₁₀ vs₄, eAll eInt vs₄ x4.Horz, eSl e_bool v₁₁ [true, false], eSl eInt v₁₂ [i, (max 0 i).tmod 9]]) ho₂ (s := 0) (And.intro (q₂_1) (And.intro (q₂_2) (And.intro (q₂_9) (And.intro (q₂_11) (And.intro (rfl) (And.intro (q₂_57) (And.intro (q₂_58) (And.intro (q₂_59) (And.intro (rfl) (And.intro (rfl) (And.intro (rfl) (hO₁₅.pick [0, 1, 2, 3, 4, 5, 6, 7, 8, 9, 10, 11, 12, 13, 14, 15] rfl (by decide))))))))))))) ?_
          rintro x9 q₄ k₁₇ ⟨q₄_1, q₄_2, q₄_9, q₄_11, q₄_14, q₄_57, q₄_58, q₄_59, q₄_67, q₄_68, q₄_69, hO₁₇⟩ o₄ hp
          dsimp only [p_muntinlaw16_SegTells.s1] at hp
          refine W_sq ?_
          refine W_rg ?_
          refine WO_v (a_lss (a := x9) (b := ([i, (max 0 i).tmod 9].length : Int)) q₄_69 q₄_68) ?_
          refine WO_end ?_
          refine then_n ?_
          refine W_sq ?_
          rcases if_some hp with ⟨b₆, hp⟩ | ⟨b₆, hp⟩
          · refine W_cT (t := (decide (x9 < ([i, (max 0 i).tmod 9].length : Int)))) rfl b₆ ?_
            refine W_sk ?_
            refine then_n ?_
            refine W_sq ?_
            refine W_bl ?_
            refine W_sq ?_
            refine W_rg ?_
            obtain ⟨c₂, hp⟩ := ck_some hp
            refine WO_v (a_ixa (E := eInt) (z := x9) (hO₁₇.sl 15 rfl : Sl eInt k₁₇ v₁₂ [i, (max 0 i).tmod 9]) q₄_67 q₄_69 c₂) ?_
            refine WO_v (a_ldE (w := .i .i64 (gi [i, (max 0 i).tmod 9] (x9 : Int).toNat)) (hO₁₇.sl 15 rfl : Sl eInt k₁₇ v₁₂ [i, (max 0 i).tmod 9]) rfl (toNat_lt c₂) rfl) ?_
            refine WO_v (a_mv (v := .i .i64 (gi [i, (max 0 i).tmod 9] (x9 : Int).toNat)) rfl) ?_
            refine WO_end ?_
            refine then_n ?_
            refine W_sq ?_
            refine W_rg ?_
            refine WO_v (a_ldbA (cs := [v₃, v₄, v₅, v₆]) (ws := [v₃, v₄, v₅, v₆]) (hO₁₇.box 0 rfl) q₄_9 rfl) ?_
            refine WO_v (a_mv (v := .b (gi [true, false] (x8 : Int).toNat)) q₄_14) ?_
            refine WO_v (a_mv (v := .i .i64 (gi [i, (max 0 i).tmod 9] (x9 : Int).toNat)) rfl) ?_
            obtain ⟨⟨x10, x11⟩, hx₆, hp⟩ := bd_some hp
            obtain ⟨u₆, k₁₈, ca₆, rfl, hW₆⟩ := p_seg_Chains_Span.ok (h := k₁₇)  (hO₁₇.sl 1 rfl : Sl eInt k₁₇ v₃ x2.X) (hO₁₇.sl 2 rfl : Sl eInt k₁₇ v₄ x2.Y) (hO₁₇.sl 3 rfl : Sl eV k₁₇ v₅ vs₁) (hO₁₇.allLen 4 rfl : (vs₁).length = (x2.Vert).length) (fun j hj => hO₁₇.inn 4 rfl hj) (hO₁₇.sl 5 rfl : Sl eV k₁₇ v₆ vs₂) (hO₁₇.allLen 6 rfl : (vs₂).length = (x2.Horz).length) (fun j hj => hO₁₇.inn 6 rfl hj) hx₆
            refine WO_c (id := 126) (caps := []) rfl (mp_cons (v := .ag [v₃, v₄, v₅, v₆]) rfl (mp_cons (v := .b (gi [true, false] (x8 : Int).toNat)) rfl (mp_cons (v := .i .i64 (gi [i, (max 0 i).tmod 9] (x9 : Int).toNat)) rfl mp_nil))) ca₆ ?_
            have hO₁₈ : Own B h k₁₈ [eBox r₂ [v₃, v₄, v₅, v₆], eSl eInt v₃ x2.X, eSl eInt v₄ x2.Y, eSl eV v₅ vs₁, eAll eInt vs₁ x2.Vert, eSl eV v₆ vs₂, eAll eInt vs₂ x2.Horz, eBox r₃ [v₇, v₈, v₉, v₁₀], eSl eInt v₇ x4.X, eSl eInt v₈ x4.Y, eSl eV v₉ vs₃, eAll eInt vs₃ x4.Vert, eSl eV v₁₀ vs₄, eAll eInt vs₄ x4.Horz, eSl e_bool v₁₁ [true, false], eSl eInt v₁₂ [i, (max 0 i).tmod 9]] := hO₁₇.call hW₆ rfl
            refine WO_v (a_mv (v := .tu [.i .i64 x10, .i .i64 x11]) rfl) ?_
            refine WO_v (a_ext (vs := [.i .i64 x10, .i .i64 x11]) (v := .i .i64 x10) rfl rfl) ?_
            refine WO_v (a_ext (vs := [.i .i64 x10, .i .i64 x11]) (v := .i .i64 x11) rfl rfl) ?_
            refine WO_v (a_mv (v := .i .i64 x10) rfl) ?_
            refine WO_v (a_mv (v := .i .i64 x11) rfl) ?_
            refine WO_end ?_
            refine then_n ?_
            refine W_sq ?_
            refine W_rg ?_
            refine WO_v (a_ldbA (cs := [v₇, v₈, v₉, v₁₀]) (ws := [v₇, v₈, v₉, v₁₀]) (hO₁₈.box 7 rfl) q₄_11 rfl) ?_
            refine WO_v (a_mv (v := .b (gi [true, false] (x8 : Int).toNat)) q₄_14) ?_
            refine WO_v (a_mv (v := .i .i64 (gi [i, (max 0 i).tmod 9] (x9 : Int).toNat)) rfl) ?_
            obtain ⟨⟨x12, x13⟩, hx₇, hp⟩ := bd_some hp
            obtain ⟨u₇, k₁₉, ca₇, rfl, hW₇⟩ := p_muntinref16_Span.ok (h := k₁₈)  (hO₁₈.sl 8 rfl : Sl eInt k₁₈ v₇ x4.X) (hO₁₈.sl 9 rfl : Sl eInt k₁₈ v₈ x4.Y) (hO₁₈.sl 10 rfl : Sl eV k₁₈ v₉ vs₃) (hO₁₈.allLen 11 rfl : (vs₃).length = (x4.Vert).length) (fun j hj => hO₁₈.inn 11 rfl hj) (hO₁₈.sl 12 rfl : Sl eV k₁₈ v₁₀ vs₄) (hO₁₈.allLen 13 rfl : (vs₄).length = (x4.Horz).length) (fun j hj => hO₁₈.inn 13 rfl hj) hx₇
            refine WO_c (id := 127) (caps := []) rfl (mp_cons (v := .ag [v₇, v₈, v₉, v₁₀]) rfl (mp_cons (v := .b (gi [true, false] (x8 : Int).toNat)) rfl (mp_cons (v := .i .i64 (gi [i, (max 0 i).tmod 9] (x9 : Int).toNat)) rfl mp_nil))) ca₇ ?_
            have hO₁₉ : Own B h k₁₉ [eBox r₂ [v₃, v₄, v₅, v₆], eSl eInt v₃ x2.X, eSl eInt v₄ x2.Y, eSl eV v₅ vs₁, eAll eInt vs₁ x2.Vert, eSl eV v₆ vs₂, eAll eInt vs₂ x2.Horz, eBox r₃ [v₇, v₈, v₉, v₁₀], eSl eInt v₇ x4.X, eSl eInt v₈ x4.Y, eSl eV v₉ vs₃, eAll eInt vs₃ x4.Vert, eSl eV v₁₀ vs₄, eAll eInt vs₄ x4.Horz, eSl e_bool v₁₁ [true, false], eSl eInt v₁₂ [i, (max 0 i).tmod 9]] := hO₁₈.call hW₇ rfl
            refine WO_v (a_mv (v := .tu [.i .i64 x12, .i .i64 x13]) rfl) ?_
            refine WO_v (a_ext (vs := [.i .i64 x12, .i .i64 x13]) (v := .i .i64 x12) rfl rfl) ?_
            refine WO_v (a_ext (vs := [.i .i64 x12, .i .i64 x13]) (v := .i .i64 x13) rfl rfl) ?_
            refine WO_v (a_mv (v := .i .i64 x12) rfl) ?_
            refine WO_v (a_mv (v := .i .i64 x13) rfl) ?_
            refine WO_end ?_
            refine then_n ?_
            refine W_sq ?_
            refine W_rg ?_
            refine WO_v (a_mv (v := .i .i64 x10) rfl) ?_
            refine WO_v (a_mv (v := .i .i64 x12) rfl) ?_
            refine WO_v (a_neI (a := x10) (b := x12) rfl rfl) ?_
            refine WO_v (a_mv (v := .b (!(decide (x10 = x12)))) rfl) ?_
            refine WO_cut 4 (fun fr' k' => k₁₉ = k' ∧ fr' 94 = .b ((!(decide (x10 = x12))) || (!(decide (x11 = x13)))) ∧ fr' 1 = v_raw ∧ fr' 11 = .p r₃ 0 ∧ fr' 14 = .b (gi [true, false] (x8 : Int).toNat) ∧ fr' 2 = .i .i64 i ∧ fr' 57 = v₁₁ ∧ fr' 58 = .i .i64 ([true, false].length : Int) ∧ fr' 59 = .i .i64 x8 ∧ fr' 67 = v₁₂ ∧ fr' 68 = .i .i64 ([i, (max 0 i).tmod 9].length : Int) ∧ fr' 69 = .i .i64 x9 ∧ fr' 9 = .p r₂ 0) ?_ ?_
            · rcases bc (!(decide (x10 = x12))) with b₇ | b₇
              · skip
                refine WO_off rfl b₇ ?_
                refine WO_off rfl b₇ ?_
                refine WO_off rfl b₇ ?_
                refine WO_v (a_pickT (t := (!(decide (x10 = x12)))) (v := .b ((!(decide (x10 = x12))) || (!(decide (x11 = x13))))) rfl b₇ (Eq.trans (b := V.b true) rfl (or_off b₇))) ?_
                refine WO_end ?_
                exact ⟨rfl, rfl, q₄_1, q₄_11, q₄_14, q₄_2, q₄_57, q₄_58, q₄_59, q₄_67, q₄_68, q₄_69, q₄_9⟩
              · skip
                refine WO_on rfl b₇ ?_
                refine WO_v (a_mv (v := .i .i64 x11) rfl) ?_
                refine WO_on rfl b₇ ?_
                refine WO_v (a_mv (v := .i .i64 x13) rfl) ?_
                refine WO_on rfl b₇ ?_
                refine WO_v (a_neI (a := x11) (b := x13) rfl rfl) ?_
                refine WO_v (a_pickF (t := (!(decide (x10 = x12)))) (v := .b ((!(decide (x10 = x12))) || (!(decide (x11 = x13))))) rfl b₇ (Eq.trans (b := V.b (!(decide (x11 = x13)))) rfl (or_on b₇))) ?_
                refine WO_end ?_
                exact ⟨rfl, rfl, q₄_1, q₄_11, q₄_14, q₄_2, q₄_57, q₄_58, q₄_59, q₄_67, q₄_68, q₄_69, q₄_9⟩
            rintro frg₄ _ ⟨rfl, g₄_94, g₄_1, g₄_11, g₄_14, g₄_2, g₄_57, g₄_58, g₄_59, g₄_67, g₄_68, g₄_69, g₄_9⟩
            refine WO_end ?_
            refine then_n ?_
            rcases if_some hp with ⟨b₈, hp⟩ | ⟨b₈, hp⟩
            · refine W_cT (t := ((!(decide (x10 = x12))) || (!(decide (x11 = x13))))) g₄_94 b₈ ?_
              refine W_sq ?_
              refine W_rg ?_
              refine WO_v (a_mv (v := .b false) rfl) ?_
              refine WO_end ?_
              refine then_n ?_
              refine W_rt ?_
              refine blk_r ?_
              refine then_r ?_
              have hp := Option.some.inj hp; subst hp
              refine (Or.inr (Exists.intro (.inr ()) (And.intro rfl (And.intro (fun h => nomatch h) (fun he => ?_)))))
              subst he; exact (And.intro rfl (And.intro (rfl) (hO₁₉.pick [] rfl (by decide))))
            · refine W_cF (t := ((!(decide (x10 = x12))) || (!(decide (x11 = x13))))) g₄_94 b₈ ?_
              refine W_sk ?_
              refine blk_n ?_
              refine then_n ?_
              refine W_rg ?_
              obtain ⟨c₃, hp⟩ := ck_some hp
              refine WO_v (a_add (a := x9) (b := 1) g₄_69 rfl c₃) ?_
              refine WO_v (a_mv (v := .i .i64 (x9 + 1)) rfl) ?_
              refine WO_end ?_
              have hp := Option.some.inj hp; subst hp
              exact (Or.inl (Exists.intro (x9 + 1) (And.intro rfl (And.intro rfl (And.intro (g₄_1) (And.intro (g₄_2) (And.intro (g₄_9) (And.intro (g₄_11) (And.intro (g₄_14) (And.intro (g₄_57) (And.intro (g₄_58) (And.intro (g₄_59) (And.intro (g₄_67) (And.intro (g₄_68) (And.intro (rfl) (hO₁₉.pick [0, 1, 2, 3, 4, 5, 6, 7, 8, 9, 10, 11, 12, 13, 14, 15] rfl (by decide)))))))))))))))))
          · refine W_cF (t := (decide (x9 < ([i, (max 0 i).tmod 9].length : Int)))) rfl b₆ ?_
            refine W_ex ?_
            refine then_e ?_
            have hp := Option.some.inj hp; subst hp
            refine (Or.inr (Exists.intro (.inl ()) (And.intro rfl (And.intro (fun h => nomatch h) (fun he => ?_)))))
            subst he; exact (And.intro rfl (And.intro (q₄_1) (And.intro (q₄_2) (And.intro (q₄_9) (And.intro (q₄_11) (And.intro (q₄_57) (And.intro (q₄_58) (And.intro (q₄_59) (hO₁₇.pick [0, 1, 2, 3, 4, 5, 6, 7, 8, 9, 10, 11, 12, 13, 14] rfl (by decide))))))))))
        intro e₂ q₃ k₁₆ hJ₂
        rcases o₃ with _ | _
        · obtain ⟨rfl, q₃_1, q₃_2, q₃_9, q₃_11, q₃_57, q₃_58, q₃_59, hO₁₆⟩ := hJ₂
          refine blk_i ?_
          refine blk_n ?_
          refine then_n ?_
          refine W_rg ?_
          obtain ⟨c₄, hp⟩ := ck_some hp
          refine WO_v (a_add (a := x8) (b := 1) q₃_59 rfl c₄) ?_
          refine WO_v (a_mv (v := .i .i64 (x8 + 1)) rfl) ?_
          refine WO_end ?_
          have hp := Option.some.inj hp; subst hp
          exact (Or.inl (Exists.intro (x8 + 1) (And.intro rfl (And.intro rfl (And.intro (q₃_1) (And.intro (q₃_2) (And.intro (q₃_9) (And.intro (q₃_11) (And.intro (q₃_57) (And.intro (q₃_58) (And.intro (rfl) (hO₁₆.pick [0, 1, 2, 3, 4, 5, 6, 7, 8, 9, 10, 11, 12, 13, 14] rfl (by decide)))))))))))))
        · obtain ⟨rfl, q₃_6, hO₁₆⟩ := hJ₂
          refine blk_r ?_
          refine blk_r ?_
          refine then_r ?_
          have hp := Option.some.inj hp; subst hp
          refine (Or.inr (Exists.intro (.inr ()) (And.intro rfl (And.intro (fun h => nomatch h) (fun he => ?_)))))
          subst he; exact (And.intro rfl (And.intro (q₃_6) (hO₁₆.pick [] rfl (by decide))))
      · refine W_cF (t := (decide (x8 < ([true, false].length : Int)))) rfl b₅ ?_
        refine W_ex ?_
        refine then_e ?_
        have hp := Option.some.inj hp; subst hp
        refine (Or.inr (Exists.intro (.inl ()) (And.intro rfl (And.intro (fun h => nomatch h) (fun he => ?_)))))
        subst he; exact (And.intro rfl (And.intro (q₂_1) (hO₁₄.pick [] rfl (by decide))))
    intro e₁ q₁ k₁₃ hJ₁
    rcases o₁ with _ | _
    · obtain ⟨rfl, q₁_1, hO₁₃⟩ := hJ₁
      refine blk_i ?_
      refine then_n ?_
      refine W_sq ?_
      refine W_rg ?_
      refine WO_v (a_mv (v := v_raw) q₁_1) ?_
      refine WO_v (a_mv (v := v_raw) q₁_1) ?_
      refine WO_v (a_len (hO₁₃.rd0 s_raw.rd : Sl e_T_api_Cell k₁₃ v_raw raw) rfl) ?_
      refine WO_v (a_mn (a := (raw.length : Int)) (b := 5) rfl rfl) ?_
      obtain ⟨c₅, hp⟩ := ck_some hp
      refine WO_v (a_slcU (E := e_T_api_Cell) (z := (min (raw.length : Int) 5)) (hO₁₃.rd0 s_raw.rd : Sl e_T_api_Cell k₁₃ v_raw raw) rfl rfl c₅) ?_
      refine WO_v (a_mv (v := (V.cut v_raw 0 (min (raw.length : Int) 5 : Int).toNat)) rfl) ?_
      refine WO_end ?_
      refine then_n ?_
      refine W_sq ?_
      refine W_rg ?_
      refine WO_v (a_mv (v := (V.cut v_raw 0 (min (raw.length : Int) 5 : Int).toNat)) rfl) ?_
      obtain ⟨⟨x14, x15⟩, hx₈, hp⟩ := bd_some hp
      obtain ⟨u₈, k₂₀, ca₈, v₁₃, v₁₄, v₁₅, vs₅, v₁₆, vs₆, rfl, hW₈⟩ := p_seg_Of.ok (h := k₁₃)  (Sl.cutU (hO₁₃.rd0 s_raw.rd : Sl e_T_api_Cell k₁₃ v_raw raw) c₅ : Sl e_T_api_Cell k₁₃ (V.cut v_raw 0 (min (raw.length : Int) 5 : Int).toNat) (raw.take (min (raw.length : Int) 5 : Int).toNat)) hx₈
      refine WO_c (id := 120) (caps := []) rfl (mp_cons (v := (V.cut v_raw 0 (min (raw.length : Int) 5 : Int).toNat)) rfl mp_nil) ca₈ ?_
      have hO₂₀ : Own B h k₂₀ [eSl eInt v₁₃ x14.X, eSl eInt v₁₄ x14.Y, eSl eV v₁₅ vs₅, eAll eInt vs₅ x14.Vert, eSl eV v₁₆ vs₆, eAll eInt vs₆ x14.Horz] := hO₁₃.call hW₈ rfl
      refine WO_v (a_mv (v := .tu [.ag [v₁₃, v₁₄, v₁₅, v₁₆], .i .i64 x15]) rfl) ?_
      refine WO_v (a_ext (vs := [.ag [v₁₃, v₁₄, v₁₅, v₁₆], .i .i64 x15]) (v := .ag [v₁₃, v₁₄, v₁₅, v₁₆]) rfl rfl) ?_
      refine WO_v (a_ext (vs := [.ag [v₁₃, v₁₄, v₁₅, v₁₆], .i .i64 x15]) (v := .i .i64 x15) rfl rfl) ?_
      refine WO_x (hO₂₀.alloc (cs := [.sn, .sn, .sn, .sn]) hO₂₀.fr) ?_
      rintro _ k₂₁ ⟨r₆, rfl, n₄, f₈, hW⟩
      have hO₂₁ : Own B h k₂₁ [eSl eInt v₁₃ x14.X, eSl eInt v₁₄ x14.Y, eSl eV v₁₅ vs₅, eAll eInt vs₅ x14.Vert, eSl eV v₁₆ vs₆, eAll eInt vs₆ x14.Horz, eBox r₆ [.sn, .sn, .sn, .sn]] := hW
      refine WO_x (hO₂₁.stb (ws := [v₁₃, v₁₄, v₁₅, v₁₆]) (cs' := [v₁₃, v₁₄, v₁₅, v₁₆]) (v := .ag [v₁₃, v₁₄, v₁₅, v₁₆]) 6 rfl rfl rfl rfl ⟨rfl, Nat.le_of_ble_eq_true rfl, (all_cons (hO₂₁.sl 0 rfl : Sl eInt k₂₁ v₁₃ x14.X).oneV (all_cons (hO₂₁.sl 1 rfl : Sl eInt k₂₁ v₁₄ x14.Y).oneV (all_cons (hO₂₁.sl 2 rfl : Sl eV k₂₁ v₁₅ vs₅).oneV (all_cons (hO₂₁.sl 4 rfl : Sl eV k₂₁ v₁₆ vs₆).oneV all_nil))))⟩ rfl) ?_
      rintro _ k₂₂ ⟨rfl, f₉, m₃, hW⟩
      have hO₂₂ : Own B h k₂₂ [eSl eInt v₁₃ x14.X, eSl eInt v₁₄ x14.Y, eSl eV v₁₅ vs₅, eAll eInt vs₅ x14.Vert, eSl eV v₁₆ vs₆, eAll eInt vs₆ x14.Horz, eBox r₆ [v₁₃, v₁₄, v₁₅, v₁₆]] := hW
      refine WO_v (a_mv (v := .i .i64 x15) rfl) ?_
      refine WO_end ?_
      refine then_n ?_
      refine W_sq ?_
      refine W_sq ?_
      refine W_rg ?_
      refine WO_v (a_mv (v := (V.cut v_raw 0 (min (raw.length : Int) 5 : Int).toNat)) rfl) ?_
      obtain ⟨x16, hx₉, hp⟩ := bd_some hp
      obtain ⟨u₉, k₂₃, ca₉, rfl, hW₉⟩ := p_muntinref10_Check.ok (h := k₂₂)  (Sl.cutU (hO₂₂.rd0 s_raw.rd : Sl e_T_api_Cell k₂₂ v_raw raw) c₅ : Sl e_T_api_Cell k₂₂ (V.cut v_raw 0 (min (raw.length : Int) 5 : Int).toNat) (raw.take (min (raw.length : Int) 5 : Int).toNat)) hx₉
      refine WO_c (id := 34) (caps := []) rfl (mp_cons (v := (V.cut v_raw 0 (min (raw.length : Int) 5 : Int).toNat)) rfl mp_nil) ca₉ ?_
      have hO₂₃ : Own B h k₂₃ [eSl eInt v₁₃ x14.X, eSl eInt v₁₄ x14.Y, eSl eV v₁₅ vs₅, eAll eInt vs₅ x14.Vert, eSl eV v₁₆ vs₆, eAll eInt vs₆ x14.Horz, eBox r₆ [v₁₃, v₁₄, v₁₅, v₁₆]] := hO₂₂.call hW₉ rfl
      refine WO_v (a_mv (v := .i .i64 x16) rfl) ?_
      refine WO_end ?_
      refine then_n ?_
      refine W_sq ?_
      refine W_rg ?_
      refine WO_v (a_mv (v := .i .i64 x16) rfl) ?_
      refine WO_v (a_neI (a := x16) (b := 0) rfl rfl) ?_
      refine WO_end ?_
      refine then_n ?_
      rcases if_some hp with ⟨b₉, hp⟩ | ⟨b₉, hp⟩
      · refine W_cT (t := (!(decide (x16 = 0)))) rfl b₉ ?_
        refine W_sq ?_
        refine W_rg ?_
        refine WO_v (a_mv (v := .i .i64 x15) rfl) ?_
        refine WO_v (a_mv (v := .i .i64 x16) rfl) ?_
        refine WO_v (a_eqI (a := x15) (b := x16) rfl rfl) ?_
        refine WO_v (a_mv (v := .b (decide (x15 = x16))) rfl) ?_
        obtain ⟨t1, hv₂, hp⟩ := bd_some hp
        refine WO_cut 17 (fun fr' k' => k₂₃ = k' ∧ fr' 131 = .b t1) ?_ ?_
        · clear hp; rcases if_some hv₂ with ⟨b₁₀, hp⟩ | ⟨b₁₀, hp⟩
          · skip
            refine WO_on rfl b₁₀ ?_
            refine WO_v (a_fa (r := r₆) (o := 0) (o' := 0) rfl rfl) ?_
            refine WO_on rfl b₁₀ ?_
            refine WO_v (a_ldb (cs := [v₁₃, v₁₄, v₁₅, v₁₆]) (v := v₁₃) (hO₂₃.box 6 rfl) rfl rfl) ?_
            refine WO_on rfl b₁₀ ?_
            refine WO_v (a_len (hO₂₃.sl 0 rfl : Sl eInt k₂₃ v₁₃ x14.X) rfl) ?_
            refine WO_on rfl b₁₀ ?_
            refine WO_v (a_fa (r := r₆) (o := 0) (o' := 1) rfl rfl) ?_
            refine WO_on rfl b₁₀ ?_
            refine WO_v (a_ldb (cs := [v₁₃, v₁₄, v₁₅, v₁₆]) (v := v₁₄) (hO₂₃.box 6 rfl) rfl rfl) ?_
            refine WO_on rfl b₁₀ ?_
            refine WO_v (a_len (hO₂₃.sl 1 rfl : Sl eInt k₂₃ v₁₄ x14.Y) rfl) ?_
            refine WO_on rfl b₁₀ ?_
            obtain ⟨c₆, hp⟩ := ck_some hp
            refine WO_v (a_add (a := (x14.X.length : Int)) (b := (x14.Y.length : Int)) rfl rfl c₆) ?_
            refine WO_on rfl b₁₀ ?_
            refine WO_v (a_fa (r := r₆) (o := 0) (o' := 2) rfl rfl) ?_
            refine WO_on rfl b₁₀ ?_
            refine WO_v (a_ldb (cs := [v₁₃, v₁₄, v₁₅, v₁₆]) (v := v₁₅) (hO₂₃.box 6 rfl) rfl rfl) ?_
            refine WO_on rfl b₁₀ ?_
            refine WO_v (a_lenN (n := (x14.Vert).length) (hO₂₃.sl 2 rfl : Sl eV k₂₃ v₁₅ vs₅) (hO₂₃.allLen 3 rfl : (vs₅).length = (x14.Vert).length) rfl) ?_
            refine WO_on rfl b₁₀ ?_
            obtain ⟨c₇, hp⟩ := ck_some hp
            refine WO_v (a_add (a := ((x14.X.length : Int) + (x14.Y.length : Int))) (b := (x14.Vert.length : Int)) rfl rfl c₇) ?_
            refine WO_on rfl b₁₀ ?_
            refine WO_v (a_fa (r := r₆) (o := 0) (o' := 3) rfl rfl) ?_
            refine WO_on rfl b₁₀ ?_
            refine WO_v (a_ldb (cs := [v₁₃, v₁₄, v₁₅, v₁₆]) (v := v₁₆) (hO₂₃.box 6 rfl) rfl rfl) ?_
            refine WO_on rfl b₁₀ ?_
            refine WO_v (a_lenN (n := (x14.Horz).length) (hO₂₃.sl 4 rfl : Sl eV k₂₃ v₁₆ vs₆) (hO₂₃.allLen 5 rfl : (vs₆).length = (x14.Horz).length) rfl) ?_
            refine WO_on rfl b₁₀ ?_
            obtain ⟨c₈, hp⟩ := ck_some hp
            refine WO_v (a_add (a := (((x14.X.length : Int) + (x14.Y.length : Int)) + (x14.Vert.length : Int))) (b := (x14.Horz.length : Int)) rfl rfl c₈) ?_
            refine WO_on rfl b₁₀ ?_
            refine WO_v (a_eqI (a := ((((x14.X.length : Int) + (x14.Y.length : Int)) + (x14.Vert.length : Int)) + (x14.Horz.length : Int))) (b := 0) rfl rfl) ?_
            refine WO_v (a_pickT (t := (decide (x15 = x16))) (v := .b t1) rfl b₁₀ (Eq.trans (b := V.b (decide ((((x14.X.length : Int) + (x14.Y.length : Int)) + (x14.Vert.length : Int)) + (x14.Horz.length : Int) = 0))) rfl (congrArg V.b (Option.some.inj hp)))) ?_
            refine WO_end ?_
            exact ⟨rfl, rfl⟩
          · skip
            refine WO_off rfl b₁₀ ?_
            refine WO_off rfl b₁₀ ?_
            refine WO_off rfl b₁₀ ?_
            refine WO_off rfl b₁₀ ?_
            refine WO_off rfl b₁₀ ?_
            refine WO_off rfl b₁₀ ?_
            refine WO_off rfl b₁₀ ?_
            refine WO_off rfl b₁₀ ?_
            refine WO_off rfl b₁₀ ?_
            refine WO_off rfl b₁₀ ?_
            refine WO_off rfl b₁₀ ?_
            refine WO_off rfl b₁₀ ?_
            refine WO_off rfl b₁₀ ?_
            refine WO_off rfl b₁₀ ?_
            refine WO_off rfl b₁₀ ?_
            refine WO_off rfl b₁₀ ?_
            refine WO_v (a_pickF (t := (decide (x15 = x16))) (v := .b t1) rfl b₁₀ (Eq.trans (b := V.b false) rfl (congrArg V.b (Option.some.inj hp)))) ?_
            refine WO_end ?_
            exact ⟨rfl, rfl⟩
        rintro frg₅ _ ⟨rfl, g₅_131⟩
        refine WO_v (a_mv (v := .b t1) g₅_131) ?_
        refine WO_end ?_
        refine then_n ?_
        refine W_rt ?_
        refine then_r ?_
        refine Ret_r (rs_t (n := 6) (v := .b t1) rfl rs_nil) ?_
        have hp := Option.some.inj hp; subst hp
        exact (And.intro rfl (hO₂₃.pick [] rfl (by decide)))
      · refine W_cF (t := (!(decide (x16 = 0)))) rfl b₉ ?_
        refine W_sk ?_
        refine then_n ?_
        refine W_sq ?_
        refine W_rg ?_
        refine WO_v (a_mv (v := (V.cut v_raw 0 (min (raw.length : Int) 5 : Int).toNat)) rfl) ?_
        obtain ⟨⟨x17, x18⟩, hx₁₀, hp⟩ := bd_some hp
        obtain ⟨u₁₀, k₂₄, ca₁₀, v₁₇, v₁₈, v₁₉, vs₇, v₂₀, vs₈, rfl, hW₁₀⟩ := p_muntinref16_Of.ok (h := k₂₃)  (Sl.cutU (hO₂₃.rd0 s_raw.rd : Sl e_T_api_Cell k₂₃ v_raw raw) c₅ : Sl e_T_api_Cell k₂₃ (V.cut v_raw 0 (min (raw.length : Int) 5 : Int).toNat) (raw.take (min (raw.length : Int) 5 : Int).toNat)) hx₁₀
        refine WO_c (id := 121) (caps := []) rfl (mp_cons (v := (V.cut v_raw 0 (min (raw.length : Int) 5 : Int).toNat)) rfl mp_nil) ca₁₀ ?_
        have hO₂₄ : Own B h k₂₄ [eSl eInt v₁₃ x14.X, eSl eInt v₁₄ x14.Y, eSl eV v₁₅ vs₅, eAll eInt vs₅ x14.Vert, eSl eV v₁₆ vs₆, eAll eInt vs₆ x14.Horz, eBox r₆ [v₁₃, v₁₄, v₁₅, v₁₆], eSl eInt v₁₇ x17.X, eSl eInt v₁₈ x17.Y, eSl eV v₁₉ vs₇, eAll eInt vs₇ x17.Vert, eSl eV v₂₀ vs₈, eAll eInt vs₈ x17.Horz] := hO₂₃.call hW₁₀ rfl
        refine WO_v (a_mv (v := .tu [.ag [v₁₇, v₁₈, v₁₉, v₂₀], .b x18]) rfl) ?_
        refine WO_v (a_ext (vs := [.ag [v₁₇, v₁₈, v₁₉, v₂₀], .b x18]) (v := .ag [v₁₇, v₁₈, v₁₉, v₂₀]) rfl rfl) ?_
        refine WO_v (a_ext (vs := [.ag [v₁₇, v₁₈, v₁₉, v₂₀], .b x18]) (v := .b x18) rfl rfl) ?_
        refine WO_x (hO₂₄.alloc (cs := [.sn, .sn, .sn, .sn]) hO₂₄.fr) ?_
        rintro _ k₂₅ ⟨r₇, rfl, n₅, f₁₀, hW⟩
        have hO₂₅ : Own B h k₂₅ [eSl eInt v₁₃ x14.X, eSl eInt v₁₄ x14.Y, eSl eV v₁₅ vs₅, eAll eInt vs₅ x14.Vert, eSl eV v₁₆ vs₆, eAll eInt vs₆ x14.Horz, eBox r₆ [v₁₃, v₁₄, v₁₅, v₁₆], eSl eInt v₁₇ x17.X, eSl eInt v₁₈ x17.Y, eSl eV v₁₉ vs₇, eAll eInt vs₇ x17.Vert, eSl eV v₂₀ vs₈, eAll eInt vs₈ x17.Horz, eBox r₇ [.sn, .sn, .sn, .sn]] := hW
        refine WO_x (hO₂₅.stb (ws := [v₁₇, v₁₈, v₁₉, v₂₀]) (cs' := [v₁₇, v₁₈, v₁₉, v₂₀]) (v := .ag [v₁₇, v₁₈, v₁₉, v₂₀]) 13 rfl rfl rfl rfl ⟨rfl, Nat.le_of_ble_eq_true rfl, (all_cons (hO₂₅.sl 7 rfl : Sl eInt k₂₅ v₁₇ x17.X).oneV (all_cons (hO₂₅.sl 8 rfl : Sl eInt k₂₅ v₁₈ x17.Y).oneV (all_cons (hO₂₅.sl 9 rfl : Sl eV k₂₅ v₁₉ vs₇).oneV (all_cons (hO₂₅.sl 11 rfl : Sl eV k₂₅ v₂₀ vs₈).oneV all_nil))))⟩ rfl) ?_
        rintro _ k₂₆ ⟨rfl, f₁₁, m₄, hW⟩
        have hO₂₆ : Own B h k₂₆ [eSl eInt v₁₃ x14.X, eSl eInt v₁₄ x14.Y, eSl eV v₁₅ vs₅, eAll eInt vs₅ x14.Vert, eSl eV v₁₆ vs₆, eAll eInt vs₆ x14.Horz, eBox r₆ [v₁₃, v₁₄, v₁₅, v₁₆], eSl eInt v₁₇ x17.X, eSl eInt v₁₈ x17.Y, eSl eV v₁₉ vs₇, eAll eInt vs₇ x17.Vert, eSl eV v₂₀ vs₈, eAll eInt vs₈ x17.Horz, eBox r₇ [v₁₇, v₁₈, v₁₉, v₂₀]] := hW
        refine WO_v (a_mv (v := .b x18) rfl) ?_
        refine WO_end ?_
        refine then_n ?_
        refine W_sq ?_
        refine W_rg ?_
        refine WO_v (a_mv (v := .b x18) rfl) ?_
        refine WO_v (a_mv (v := .i .i64 x15) rfl) ?_
        refine WO_v (a_eqI (a := x15) (b := 0) rfl rfl) ?_
        refine WO_v (a_eqB (a := x18) (b := (decide (x15 = 0))) rfl rfl) ?_
        refine WO_v (a_mv (v := .b (decide (x18 = (decide (x15 = 0))))) rfl) ?_
        refine WO_cut 6 (fun fr' k' => k₂₆ = k' ∧ fr' 147 = .b ((decide (x18 = (decide (x15 = 0)))) && (x18 || (decide (x15 = 10)))) ∧ fr' 21 = .p r₆ 0 ∧ fr' 24 = .p r₇ 0) ?_ ?_
        · rcases bc (decide (x18 = (decide (x15 = 0)))) with b₁₁ | b₁₁
          · skip
            refine WO_on rfl b₁₁ ?_
            refine WO_v (a_mv (v := .b x18) rfl) ?_
            refine WO_on rfl b₁₁ ?_
            refine WO_v (a_mv (v := .b x18) rfl) ?_
            refine WO_cut 3 (fun fr' k' => k₂₆ = k' ∧ fr' 146 = .b (x18 || (decide (x15 = 10))) ∧ fr' 141 = .b (decide (x18 = (decide (x15 = 0)))) ∧ fr' 21 = .p r₆ 0 ∧ fr' 24 = .p r₇ 0) ?_ ?_
            · rcases bc x18 with b₁₂ | b₁₂
              · skip
                refine WO_off rfl b₁₂ ?_
                refine WO_off rfl b₁₂ ?_
                refine WO_on rfl b₁₁ ?_
                refine WO_v (a_pickT (t := x18) (v := .b (x18 || (decide (x15 = 10)))) rfl b₁₂ (Eq.trans (b := V.b true) rfl (or_off b₁₂))) ?_
                refine WO_end ?_
                exact ⟨rfl, rfl, rfl, rfl, rfl⟩
              · skip
                refine WO_on rfl b₁₂ ?_
                refine WO_v (a_mv (v := .i .i64 x15) rfl) ?_
                refine WO_on rfl b₁₂ ?_
                refine WO_v (a_eqI (a := x15) (b := 10) rfl rfl) ?_
                refine WO_on rfl b₁₁ ?_
                refine WO_v (a_pickF (t := x18) (v := .b (x18 || (decide (x15 = 10)))) rfl b₁₂ (Eq.trans (b := V.b (decide (x15 = 10))) rfl (or_on b₁₂))) ?_
                refine WO_end ?_
                exact ⟨rfl, rfl, rfl, rfl, rfl⟩
            rintro frg₆ _ ⟨rfl, g₆_146, g₆_141, g₆_21, g₆_24⟩
            refine WO_v (a_pickT (t := (decide (x18 = (decide (x15 = 0))))) (v := .b ((decide (x18 = (decide (x15 = 0)))) && (x18 || (decide (x15 = 10))))) g₆_141 b₁₁ (Eq.trans (b := V.b (x18 || (decide (x15 = 10)))) g₆_146 (and_on b₁₁))) ?_
            refine WO_end ?_
            exact ⟨rfl, rfl, g₆_21, g₆_24⟩
          · skip
            refine WO_off rfl b₁₁ ?_
            refine WO_off rfl b₁₁ ?_
            refine WO_un rfl ?_
            refine WO_un rfl ?_
            refine WO_off rfl b₁₁ ?_
            refine WO_v (a_pickF (t := (decide (x18 = (decide (x15 = 0))))) (v := .b ((decide (x18 = (decide (x15 = 0)))) && (x18 || (decide (x15 = 10))))) rfl b₁₁ (Eq.trans (b := V.b false) rfl (and_off b₁₁))) ?_
            refine WO_end ?_
            exact ⟨rfl, rfl, rfl, rfl⟩
        rintro frg₇ _ ⟨rfl, g₇_147, g₇_21, g₇_24⟩
        refine WO_v (a_mv (v := .b ((decide (x18 = (decide (x15 = 0)))) && (x18 || (decide (x15 = 10))))) g₇_147) ?_
        obtain ⟨t2, hv₃, hp⟩ := bd_some hp
        refine WO_cut 4 (fun fr' k' => Own B h k' [eSl eInt v₁₃ x14.X, eSl eInt v₁₄ x14.Y, eSl eV v₁₅ vs₅, eAll eInt vs₅ x14.Vert, eSl eV v₁₆ vs₆, eAll eInt vs₆ x14.Horz, eBox r₆ [v₁₃, v₁₄, v₁₅, v₁₆], eSl eInt v₁₇ x17.X, eSl eInt v₁₈ x17.Y, eSl eV v₁₉ vs₇, eAll eInt vs₇ x17.Vert, eSl eV v₂₀ vs₈, eAll eInt vs₈ x17.Horz, eBox r₇ [v₁₇, v₁₈, v₁₉, v₂₀]] ∧ fr' 152 = .b t2) ?_ ?_
        · clear hp; rcases if_some hv₃ with ⟨b₁₃, hp⟩ | ⟨b₁₃, hp⟩
          · skip
            refine WO_on rfl b₁₃ ?_
            refine WO_v (a_ldbA (cs := [v₁₃, v₁₄, v₁₅, v₁₆]) (ws := [v₁₃, v₁₄, v₁₅, v₁₆]) (hO₂₆.box 6 rfl) g₇_21 rfl) ?_
            refine WO_on rfl b₁₃ ?_
            refine WO_v (a_ldbA (cs := [v₁₇, v₁₈, v₁₉, v₂₀]) (ws := [v₁₇, v₁₈, v₁₉, v₂₀]) (hO₂₆.box 13 rfl) g₇_24 rfl) ?_
            refine WO_on rfl b₁₃ ?_
            obtain ⟨x19, hx₁₁, hp⟩ := bd_some hp
            obtain ⟨u₁₁, k₂₇, ca₁₁, rfl, hW₁₁⟩ := p_muntinlaw16_same.ok (h := k₂₆)  (hO₂₆.sl 0 rfl : Sl eInt k₂₆ v₁₃ x14.X) (hO₂₆.sl 1 rfl : Sl eInt k₂₆ v₁₄ x14.Y) (hO₂₆.sl 2 rfl : Sl eV k₂₆ v₁₅ vs₅) (hO₂₆.allLen 3 rfl : (vs₅).length = (x14.Vert).length) (fun j hj => hO₂₆.inn 3 rfl hj) (hO₂₆.sl 4 rfl : Sl eV k₂₆ v₁₆ vs₆) (hO₂₆.allLen 5 rfl : (vs₆).length = (x14.Horz).length) (fun j hj => hO₂₆.inn 5 rfl hj) (hO₂₆.sl 7 rfl : Sl eInt k₂₆ v₁₇ x17.X) (hO₂₆.sl 8 rfl : Sl eInt k₂₆ v₁₈ x17.Y) (hO₂₆.sl 9 rfl : Sl eV k₂₆ v₁₉ vs₇) (hO₂₆.allLen 10 rfl : (vs₇).length = (x17.Vert).length) (fun j hj => hO₂₆.inn 10 rfl hj) (hO₂₆.sl 11 rfl : Sl eV k₂₆ v₂₀ vs₈) (hO₂₆.allLen 12 rfl : (vs₈).length = (x17.Horz).length) (fun j hj => hO₂₆.inn 12 rfl hj) hx₁₁
            refine WO_c (id := 125) (caps := []) rfl (mp_cons (v := .ag [v₁₃, v₁₄, v₁₅, v₁₆]) rfl (mp_cons (v := .ag [v₁₇, v₁₈, v₁₉, v₂₀]) rfl mp_nil)) ca₁₁ ?_
            have hO₂₇ : Own B h k₂₇ [eSl eInt v₁₃ x14.X, eSl eInt v₁₄ x14.Y, eSl eV v₁₅ vs₅, eAll eInt vs₅ x14.Vert, eSl eV v₁₆ vs₆, eAll eInt vs₆ x14.Horz, eBox r₆ [v₁₃, v₁₄, v₁₅, v₁₆], eSl eInt v₁₇ x17.X, eSl eInt v₁₈ x17.Y, eSl eV v₁₉ vs₇, eAll eInt vs₇ x17.Vert, eSl eV v₂₀ vs₈, eAll eInt vs₈ x17.Horz, eBox r₇ [v₁₇, v₁₈, v₁₉, v₂₀]] := hO₂₆.call hW₁₁ rfl
            refine WO_v (a_pickT (t := ((decide (x18 = (decide (x15 = 0)))) && (x18 || (decide (x15 = 10))))) (v := .b t2) rfl b₁₃ (Eq.trans (b := V.b x19) rfl (congrArg V.b (Option.some.inj hp)))) ?_
            refine WO_end ?_
            exact ⟨hO₂₇.pick [0, 1, 2, 3, 4, 5, 6, 7, 8, 9, 10, 11, 12, 13] rfl (by decide), rfl⟩
          · skip
            refine WO_off rfl b₁₃ ?_
            refine WO_off rfl b₁₃ ?_
            refine WO_off rfl b₁₃ ?_
            refine WO_v (a_pickF (t := ((decide (x18 = (decide (x15 = 0)))) && (x18 || (decide (x15 = 10))))) (v := .b t2) rfl b₁₃ (Eq.trans (b := V.b false) rfl (congrArg V.b (Option.some.inj hp)))) ?_
            refine WO_end ?_
            exact ⟨hO₂₆.pick [0, 1, 2, 3, 4, 5, 6, 7, 8, 9, 10, 11, 12, 13] rfl (by decide), rfl⟩
        rintro frg₈ k₂₈ ⟨hO₂₈, g₈_152⟩
        refine WO_v (a_mv (v := .b t2) g₈_152) ?_
        refine WO_end ?_
        refine then_n ?_
        refine W_rt ?_
        refine Ret_r (rs_t (n := 6) (v := .b t2) rfl rs_nil) ?_
        have hp := Option.some.inj hp; subst hp
        exact (And.intro rfl (hO₂₈.pick [] rfl (by decide)))
    · obtain ⟨rfl, q₁_6, hO₁₃⟩ := hJ₁
      refine blk_r ?_
      refine then_r ?_
      refine Ret_r (rs_t (n := 6) (v := .b false) q₁_6 rs_nil) ?_
      have hp := Option.some.inj hp; subst hp
      exact (And.intro rfl (hO₁₃.pick [] rfl (by decide)))

end Mu
