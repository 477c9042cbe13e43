/- The code comes to what was worked out. -/
import Derived.Test.YtofdeafffbkgbaaMuDf
import Derived.Test.YtofdeafffbkgbaaMuPa
import Derived.Test.YtofdeafffbkgbaaMuC1
set_option linter.unusedVariables false
set_option linter.unnecessarySimpa false
set_option linter.unusedSimpArgs false
set_option maxHeartbeats 2000000
set_option maxRecDepth 10000
namespace Mu
open Go (IntKind BinOp UnOp)
theorem p_muntinref03_Fit.ok {h : Hp} {arcs : List T_api_Arc} {x : List Int} {v_arcs : V} {v_x : V} (s_arcs : Sl e_T_api_Arc h v_arcs arcs) (s_x : Sl eInt h v_x x) {r : Bool} (hp : p_muntinref03_Fit arcs x = some r) :
    ∃ u k', Is G 40 [v_arcs, v_x] h u k' ∧ V.b r = u ∧ Own (fun r => r < h.n) h k' [] := by
  refine WC.is (WC_of G_F_muntinref03_Fit ?_)
  unfold p_muntinref03_Fit at hp
  let B : Nat → Prop := (fun r => r < h.n)
  have hO : Own B h h [] := Own.start0 h
  refine W_sq ?_
  refine W_rg ?_
  refine WO_v (a_mv (v := .b false) rfl) ?_
  refine WO_end ?_
  refine then_n ?_
  refine W_sq ?_
  refine W_sq ?_
  refine W_rg ?_
  refine WO_v (a_mv (v := .i .i64 0) rfl) ?_
  refine WO_end ?_
  refine then_n ?_
  refine W_bl ?_
  obtain ⟨o₁, ho₁, hp⟩ := bd_some hp
  refine W.mono (Q := fun e fr k => match (generalizing := false) o₁ with
      | .inl _ => e = (.exit 0) ∧ Own B h k []
      | .inr _ => e = .ret ∧ fr 4 = .b false ∧ Own B h k []) ?_ ?_
  · clear hp
    refine W_loopF (fun st fr k => match st with | i => fr 0 = v_arcs ∧ fr 1 = v_x ∧ fr 5 = .i .i64 i ∧ Own B h k []) ho₁ (s := 0) (And.intro (rfl) (And.intro (rfl) (And.intro (rfl) (hO.pick [] rfl (by decide))))) ?_
    rintro i q₂ k₂ ⟨q₂_0, q₂_1, q₂_5, hO₂⟩ o₂ hp
    dsimp only [p_muntinref03_Fit.s0] at hp
    refine W_sq ?_
    refine W_sq ?_
    refine W_rg ?_
    refine WO_v (a_mv (v := .i .i64 i) q₂_5) ?_
    refine WO_v (a_mv (v := v_arcs) q₂_0) ?_
    refine WO_v (a_len (hO₂.rd0 s_arcs.rd : Sl e_T_api_Arc k₂ v_arcs arcs) rfl) ?_
    refine WO_v (a_lss (a := i) (b := (arcs.length : Int)) rfl rfl) ?_
    refine WO_end ?_
    refine then_n ?_
    rcases if_some hp with ⟨b₁, hp⟩ | ⟨b₁, hp⟩
    · refine W_cT (t := (decide (i < (arcs.length : Int)))) rfl b₁ ?_
      refine W_sk ?_
      refine then_n ?_
      refine W_sq ?_
      refine W_bl ?_
      refine W_sq ?_
      refine W_qd ?_
      have hW := hO₂.bump 17
      have hO₃ : Own B h (k₂.bump 17) [] := hW
      refine WQ_v rfl (a_mv (v := v_x) q₂_1) ?_
      refine WQ_v rfl (a_mv (v := v_arcs) q₂_0) ?_
      refine WQ_v rfl (a_mv (v := .i .i64 i) q₂_5) ?_
      obtain ⟨c₁, hp⟩ := ck_some hp
      refine WQ_v rfl (a_ixa (E := e_T_api_Arc) (z := i) (hO₃.rd0 s_arcs.rd : Sl e_T_api_Arc (k₂.bump 17) v_arcs arcs) rfl rfl c₁) ?_
      refine WQ_v rfl (a_faE (off' := 0) (off2 := 1) (hO₃.rd0 s_arcs.rd : Sl e_T_api_Arc (k₂.bump 17) v_arcs arcs) (toNat_lt c₁) rfl rfl) ?_
      refine WQ_v rfl (a_ldE (w := .i .i64 ((gi arcs (i : Int).toNat).To)) (hO₃.rd0 s_arcs.rd : Sl e_T_api_Arc (k₂.bump 17) v_arcs arcs) rfl (toNat_lt c₁) rfl) ?_
      obtain ⟨c₂, hp⟩ := ck_some hp
      refine WQ_v rfl (a_ixa (E := eInt) (z := ((gi arcs (i : Int).toNat).To)) (hO₃.rd0 s_x.rd : Sl eInt (k₂.bump 17) v_x x) rfl rfl c₂) ?_
      refine WQ_v rfl (a_ldE (w := .i .i64 (gi x ((gi arcs (i : Int).toNat).To : Int).toNat)) (hO₃.rd0 s_x.rd : Sl eInt (k₂.bump 17) v_x x) rfl (toNat_lt c₂) rfl) ?_
      refine WQ_v rfl (a_mv (v := v_x) q₂_1) ?_
      refine WQ_v rfl (a_mv (v := v_arcs) q₂_0) ?_
      refine WQ_v rfl (a_mv (v := .i .i64 i) q₂_5) ?_
      refine WQ_v rfl (a_ixa (E := e_T_api_Arc) (z := i) (hO₃.rd0 s_arcs.rd : Sl e_T_api_Arc (k₂.bump 17) v_arcs arcs) rfl rfl c₁) ?_
      refine WQ_v rfl (a_faE (off' := 0) (off2 := 0) (hO₃.rd0 s_arcs.rd : Sl e_T_api_Arc (k₂.bump 17) v_arcs arcs) (toNat_lt c₁) rfl rfl) ?_
      refine WQ_v rfl (a_ldE (w := .i .i64 ((gi arcs (i : Int).toNat).From)) (hO₃.rd0 s_arcs.rd : Sl e_T_api_Arc (k₂.bump 17) v_arcs arcs) rfl (toNat_lt c₁) rfl) ?_
      obtain ⟨c₃, hp⟩ := ck_some hp
      refine WQ_v rfl (a_ixa (E := eInt) (z := ((gi arcs (i : Int).toNat).From)) (hO₃.rd0 s_x.rd : Sl eInt (k₂.bump 17) v_x x) rfl rfl c₃) ?_
      refine WQ_v rfl (a_ldE (w := .i .i64 (gi x ((gi arcs (i : Int).toNat).From : Int).toNat)) (hO₃.rd0 s_x.rd : Sl eInt (k₂.bump 17) v_x x) rfl (toNat_lt c₃) rfl) ?_
      refine WQ_v rfl (a_leq (a := (gi x ((gi arcs (i : Int).toNat).To : Int).toNat)) (b := (gi x ((gi arcs (i : Int).toNat).From : Int).toNat)) rfl rfl) ?_
      refine WQ_end ?_
      refine then_n ?_
      rcases if_some hp with ⟨b₂, hp⟩ | ⟨b₂, hp⟩
      · refine W_cT (t := (decide ((gi x ((gi arcs (i : Int).toNat).To : Int).toNat) ≤ (gi x ((gi arcs (i : Int).toNat).From : Int).toNat)))) rfl b₂ ?_
        refine W_sq ?_
        refine W_rg ?_
        refine WO_v (a_mv (v := .b false) rfl) ?_
        refine WO_end ?_
        refine then_n ?_
        refine W_rt ?_
        refine blk_r ?_
        refine then_r ?_
        have hp := Option.some.inj hp; subst hp
        refine (Or.inr (Exists.intro (.inr ()) (And.intro rfl (And.intro (fun h => nomatch h) (fun he => ?_)))))
        subst he; exact (And.intro rfl (And.intro (rfl) (hO₃.pick [] rfl (by decide))))
      · refine W_cF (t := (decide ((gi x ((gi arcs (i : Int).toNat).To : Int).toNat) ≤ (gi x ((gi arcs (i : Int).toNat).From : Int).toNat)))) rfl b₂ ?_
        refine W_sk ?_
        refine blk_n ?_
        refine then_n ?_
        refine W_rg ?_
        refine WO_v (a_mv (v := .i .i64 i) q₂_5) ?_
        obtain ⟨c₄, hp⟩ := ck_some hp
        refine WO_v (a_add (a := i) (b := 1) rfl rfl c₄) ?_
        refine WO_v (a_mv (v := .i .i64 (i + 1)) rfl) ?_
        refine WO_end ?_
        have hp := Option.some.inj hp; subst hp
        exact (Or.inl (Exists.intro (i + 1) (And.intro rfl (And.intro rfl (And.intro (q₂_0) (And.intro (q₂_1) (And.intro (rfl) (hO₃.pick [] rfl (by decide)))))))))
    · refine W_cF (t := (decide (i < (arcs.length : Int)))) rfl b₁ ?_
      refine W_ex ?_
      refine then_e ?_
      have hp := Option.some.inj hp; subst hp
      refine (Or.inr (Exists.intro (.inl ()) (And.intro rfl (And.intro (fun h => nomatch h) (fun he => ?_)))))
      subst he; exact (And.intro rfl (hO₂.pick [] rfl (by decide)))
  intro e₁ q₁ k₁ hJ₁
  rcases o₁ with _ | _
  · obtain ⟨rfl, hO₁⟩ := hJ₁
    refine blk_i ?_
    refine then_n ?_
    refine W_sq ?_
    refine W_rg ?_
    refine WO_v (a_mv (v := .b true) rfl) ?_
    refine WO_end ?_
    refine then_n ?_
    refine W_rt ?_
    refine Ret_r (rs_t (n := 4) (v := .b true) rfl rs_nil) ?_
    have hp := Option.some.inj hp; subst hp
    exact (And.intro rfl (hO₁.pick [] rfl (by decide)))
  · obtain ⟨rfl, q₁_4, hO₁⟩ := hJ₁
    refine blk_r ?_
    refine then_r ?_
    refine Ret_r (rs_t (n := 4) (v := .b false) q₁_4 rs_nil) ?_
    have hp := Option.some.inj hp; subst hp
    exact (And.intro rfl (hO₁.pick [] rfl (by decide)))

theorem p_muntinref03_Cost.ok {h : Hp} {arcs : List T_api_Arc} {x : List Int} {v_arcs : V} {v_x : V} (s_arcs : Sl e_T_api_Arc h v_arcs arcs) (s_x : Sl eInt h v_x x) {r : Int} (hp : p_muntinref03_Cost arcs x = some r) :
    ∃ u k', Is G 134 [v_arcs, v_x] h u k' ∧ V.i .i64 r = u ∧ Own (fun r => r < h.n) h k' [] := by
  refine WC.is (WC_of G_F_muntinref03_Cost ?_)
  unfold p_muntinref03_Cost at hp
  let B : Nat → Prop := (fun r => r < h.n)
  have hO : Own B h h [] := Own.start0 h
  refine W_sq ?_
  refine W_rg ?_
  refine WO_v (a_mv (v := .i .i64 0) rfl) ?_
  refine WO_end ?_
  refine then_n ?_
  refine W_sq ?_
  refine W_rg ?_
  refine WO_v (a_mv (v := .i .i64 0) rfl) ?_
  refine WO_end ?_
  refine then_n ?_
  refine W_sq ?_
  refine W_sq ?_
  refine W_rg ?_
  refine WO_v (a_mv (v := .i .i64 0) rfl) ?_
  refine WO_end ?_
  refine then_n ?_
  refine W_bl ?_
  obtain ⟨o₁, ho₁, hp⟩ := bd_some hp
  refine W.mono (Q := fun e fr k => match (generalizing := false) o₁ with
      | sum1 => e = (.exit 0) ∧ fr 5 = .i .i64 sum1 ∧ Own B h k []) ?_ ?_
  · clear hp
    refine W_loopF (fun st fr k => match st with | (sum, i) => fr 0 = v_arcs ∧ fr 1 = v_x ∧ fr 5 = .i .i64 sum ∧ fr 6 = .i .i64 i ∧ Own B h k []) ho₁ (s := (0, 0)) (And.intro (rfl) (And.intro (rfl) (And.intro (rfl) (And.intro (rfl) (hO.pick [] rfl (by decide)))))) ?_
    rintro ⟨sum, i⟩ q₂ k₂ ⟨q₂_0, q₂_1, q₂_5, q₂_6, hO₂⟩ o₂ hp
    dsimp only [p_muntinref03_Cost.s0] at hp
    refine W_sq ?_
    refine W_sq ?_
    refine W_rg ?_
    refine WO_v (a_mv (v := .i .i64 i) q₂_6) ?_
    refine WO_v (a_mv (v := v_arcs) q₂_0) ?_
    refine WO_v (a_len (hO₂.rd0 s_arcs.rd : Sl e_T_api_Arc k₂ v_arcs arcs) rfl) ?_
    refine WO_v (a_lss (a := i) (b := (arcs.length : Int)) rfl rfl) ?_
    refine WO_end ?_
    refine then_n ?_
    rcases if_some hp with ⟨b₁, hp⟩ | ⟨b₁, hp⟩
    · refine W_cT (t := (decide (i < (arcs.length : Int)))) rfl b₁ ?_
      refine W_sk ?_
      refine then_n ?_
      refine W_sq ?_
      refine W_bl ?_
      refine W_qd ?_
      have hW := hO₂.bump 26
      have hO₃ : Own B h (k₂.bump 26) [] := hW
      refine WQ_v rfl (a_mv (v := .i .i64 sum) q₂_5) ?_
      refine WQ_v rfl (a_mv (v := v_arcs) q₂_0) ?_
      refine WQ_v rfl (a_mv (v := .i .i64 i) q₂_6) ?_
      obtain ⟨c₁, hp⟩ := ck_some hp
      refine WQ_v rfl (a_ixa (E := e_T_api_Arc) (z := i) (hO₃.rd0 s_arcs.rd : Sl e_T_api_Arc (k₂.bump 26) v_arcs arcs) rfl rfl c₁) ?_
      refine WQ_v rfl (a_faE (off' := 0) (off2 := 2) (hO₃.rd0 s_arcs.rd : Sl e_T_api_Arc (k₂.bump 26) v_arcs arcs) (toNat_lt c₁) rfl rfl) ?_
      refine WQ_v rfl (a_ldE (w := .i .i64 ((gi arcs (i : Int).toNat).Weight)) (hO₃.rd0 s_arcs.rd : Sl e_T_api_Arc (k₂.bump 26) v_arcs arcs) rfl (toNat_lt c₁) rfl) ?_
      refine WQ_v rfl (a_mv (v := v_x) q₂_1) ?_
      refine WQ_v rfl (a_mv (v := v_arcs) q₂_0) ?_
      refine WQ_v rfl (a_mv (v := .i .i64 i) q₂_6) ?_
      refine WQ_v rfl (a_ixa (E := e_T_api_Arc) (z := i) (hO₃.rd0 s_arcs.rd : Sl e_T_api_Arc (k₂.bump 26) v_arcs arcs) rfl rfl c₁) ?_
      refine WQ_v rfl (a_faE (off' := 0) (off2 := 1) (hO₃.rd0 s_arcs.rd : Sl e_T_api_Arc (k₂.bump 26) v_arcs arcs) (toNat_lt c₁) rfl rfl) ?_
      refine WQ_v rfl (a_ldE (w := .i .i64 ((gi arcs (i : Int).toNat).To)) (hO₃.rd0 s_arcs.rd : Sl e_T_api_Arc (k₂.bump 26) v_arcs arcs) rfl (toNat_lt c₁) rfl) ?_
      obtain ⟨c₂, hp⟩ := ck_some hp
      refine WQ_v rfl (a_ixa (E := eInt) (z := ((gi arcs (i : Int).toNat).To)) (hO₃.rd0 s_x.rd : Sl eInt (k₂.bump 26) v_x x) rfl rfl c₂) ?_
      refine WQ_v rfl (a_ldE (w := .i .i64 (gi x ((gi arcs (i : Int).toNat).To : Int).toNat)) (hO₃.rd0 s_x.rd : Sl eInt (k₂.bump 26) v_x x) rfl (toNat_lt c₂) rfl) ?_
      refine WQ_v rfl (a_mv (v := v_x) q₂_1) ?_
      refine WQ_v rfl (a_mv (v := v_arcs) q₂_0) ?_
      refine WQ_v rfl (a_mv (v := .i .i64 i) q₂_6) ?_
      refine WQ_v rfl (a_ixa (E := e_T_api_Arc) (z := i) (hO₃.rd0 s_arcs.rd : Sl e_T_api_Arc (k₂.bump 26) v_arcs arcs) rfl rfl c₁) ?_
      refine WQ_v rfl (a_faE (off' := 0) (off2 := 0) (hO₃.rd0 s_arcs.rd : Sl e_T_api_Arc (k₂.bump 26) v_arcs arcs) (toNat_lt c₁) rfl rfl) ?_
      refine WQ_v rfl (a_ldE (w := .i .i64 ((gi arcs (i : Int).toNat).From)) (hO₃.rd0 s_arcs.rd : Sl e_T_api_Arc (k₂.bump 26) v_arcs arcs) rfl (toNat_lt c₁) rfl) ?_
      obtain ⟨c₃, hp⟩ := ck_some hp
      refine WQ_v rfl (a_ixa (E := eInt) (z := ((gi arcs (i : Int).toNat).From)) (hO₃.rd0 s_x.rd : Sl eInt (k₂.bump 26) v_x x) rfl rfl c₃) ?_
      refine WQ_v rfl (a_ldE (w := .i .i64 (gi x ((gi arcs (i : Int).toNat).From : Int).toNat)) (hO₃.rd0 s_x.rd : Sl eInt (k₂.bump 26) v_x x) rfl (toNat_lt c₃) rfl) ?_
      obtain ⟨c₄, hp⟩ := ck_some hp
      refine WQ_v rfl (a_sub (a := (gi x ((gi arcs (i : Int).toNat).To : Int).toNat)) (b := (gi x ((gi arcs (i : Int).toNat).From : Int).toNat)) rfl rfl c₄) ?_
      obtain ⟨c₅, hp⟩ := ck_some hp
      refine WQ_v rfl (a_mul (a := ((gi arcs (i : Int).toNat).Weight)) (b := ((gi x ((gi arcs (i : Int).toNat).To : Int).toNat) - (gi x ((gi arcs (i : Int).toNat).From : Int).toNat))) rfl rfl c₅) ?_
      obtain ⟨c₆, hp⟩ := ck_some hp
      refine WQ_v rfl (a_add (a := sum) (b := (((gi arcs (i : Int).toNat).Weight) * ((gi x ((gi arcs (i : Int).toNat).To : Int).toNat) - (gi x ((gi arcs (i : Int).toNat).From : Int).toNat)))) rfl rfl c₆) ?_
      refine WQ_v rfl (a_mv (v := .i .i64 (sum + (((gi arcs (i : Int).toNat).Weight) * ((gi x ((gi arcs (i : Int).toNat).To : Int).toNat) - (gi x ((gi arcs (i : Int).toNat).From : Int).toNat))))) rfl) ?_
      refine WQ_end ?_
      refine blk_n ?_
      refine then_n ?_
      refine W_rg ?_
      refine WO_v (a_mv (v := .i .i64 i) q₂_6) ?_
      obtain ⟨c₇, hp⟩ := ck_some hp
      refine WO_v (a_add (a := i) (b := 1) rfl rfl c₇) ?_
      refine WO_v (a_mv (v := .i .i64 (i + 1)) rfl) ?_
      refine WO_end ?_
      have hp := Option.some.inj hp; subst hp
      exact (Or.inl (Exists.intro (sum + (((gi arcs (i : Int).toNat).Weight) * ((gi x ((gi arcs (i : Int).toNat).To : Int).toNat) - (gi x ((gi arcs (i : Int).toNat).From : Int).toNat))), i + 1) (And.intro rfl (And.intro rfl (And.intro (q₂_0) (And.intro (q₂_1) (And.intro (rfl) (And.intro (rfl) (hO₃.pick [] rfl (by decide))))))))))
    · refine W_cF (t := (decide (i < (arcs.length : Int)))) rfl b₁ ?_
      refine W_ex ?_
      refine then_e ?_
      have hp := Option.some.inj hp; subst hp
      refine (Or.inr (Exists.intro sum (And.intro rfl (And.intro (fun h => nomatch h) (fun he => ?_)))))
      subst he; exact (And.intro rfl (And.intro (q₂_5) (hO₂.pick [] rfl (by decide))))
  intro e₁ q₁ k₁ hJ₁
  obtain ⟨sum1, rfl⟩ : ∃ x, x = o₁ := ⟨_, rfl⟩
  obtain ⟨rfl, q₁_5, hO₁⟩ := hJ₁
  refine blk_i ?_
  refine then_n ?_
  refine W_sq ?_
  refine W_rg ?_
  refine WO_v (a_mv (v := .i .i64 sum1) q₁_5) ?_
  refine WO_v (a_mv (v := .i .i64 sum1) rfl) ?_
  refine WO_end ?_
  refine then_n ?_
  refine W_rt ?_
  refine Ret_r (rs_t (n := 4) (v := .i .i64 sum1) rfl rs_nil) ?_
  have hp := Option.some.inj hp; subst hp
  exact (And.intro rfl (hO₁.pick [] rfl (by decide)))

theorem p_muntinlaw17_ArcsFit.ok {h : Hp} {z : T_muntinref10_Places} {x : List Int} {y : List Int} {v_z_At : V} {v_z_Bits : V} {v_z_Own : V} {v_x : V} {v_y : V} (s_z_At : Sl e_u8 h v_z_At z.At) (s_z_Bits : Sl e_u8 h v_z_Bits z.Bits) (s_z_Own : Sl e_i8 h v_z_Own z.Own) (s_x : Sl eInt h v_x x) (s_y : Sl eInt h v_y y) {r : Bool} (hp : p_muntinlaw17_ArcsFit z x y = some r) :
    ∃ u k', Is G 111 [.ag [v_z_At, v_z_Bits, v_z_Own], v_x, v_y] h u k' ∧ V.b r = u ∧ Own (fun r => r < h.n) h k' [] := by
  refine WC.is (WC_of G_F_muntinlaw17_ArcsFit ?_)
  unfold p_muntinlaw17_ArcsFit at hp
  let B : Nat → Prop := (fun r => r < h.n)
  have hO : Own B h h [] := Own.start0 h
  refine W_sq ?_
  refine W_rg ?_
  refine WO_x (hO.boxd (v := .ag [v_z_At, v_z_Bits, v_z_Own]) (cs := [v_z_At, v_z_Bits, v_z_Own]) hO.fr rfl rfl) ?_
  rintro _ k₁ ⟨r₁, rfl, n₁, f₁, hW⟩
  have hO₁ : Own B h k₁ [eBox r₁ [v_z_At, v_z_Bits, v_z_Own]] := hW
  refine WO_v (a_mv (v := .b false) rfl) ?_
  refine WO_end ?_
  refine then_n ?_
  refine W_sq ?_
  refine W_rg ?_
  refine WO_v (a_ldbA (cs := [v_z_At, v_z_Bits, v_z_Own]) (ws := [v_z_At, v_z_Bits, v_z_Own]) (hO₁.box 0 rfl) rfl rfl) ?_
  obtain ⟨⟨x1, x2⟩, hx₁, hp⟩ := bd_some hp
  obtain ⟨u₁, k₂, ca₁, v₁, v₂, rfl, hW₁⟩ := p_muntinref10_Make.ok (h := k₁)  (hO₁.rd0 s_z_At.rd : Sl e_u8 k₁ v_z_At z.At) (hO₁.rd0 s_z_Bits.rd : Sl e_u8 k₁ v_z_Bits z.Bits) (hO₁.rd0 s_z_Own.rd : Sl e_i8 k₁ v_z_Own z.Own) hx₁
  refine WO_c (id := 28) (caps := []) rfl (mp_cons (v := .ag [v_z_At, v_z_Bits, v_z_Own]) rfl (mp_cons (v := .i .i64 16) rfl mp_nil)) ca₁ ?_
  have hO₂ : Own B h k₂ [eBox r₁ [v_z_At, v_z_Bits, v_z_Own], eSl e_T_api_Cell v₁ x1, eSl e_T_api_Point v₂ x2] := hO₁.call hW₁ rfl
  refine WO_v (a_mv (v := .tu [v₁, v₂]) rfl) ?_
  refine WO_v (a_ext (vs := [v₁, v₂]) (v := v₁) rfl rfl) ?_
  refine WO_v (a_ext (vs := [v₁, v₂]) (v := v₂) rfl rfl) ?_
  refine WO_v (a_mv (v := v₁) rfl) ?_
  refine WO_v (a_mv (v := v₂) rfl) ?_
  refine WO_end ?_
  refine then_n ?_
  refine W_sq ?_
  refine W_rg ?_
  refine WO_v (a_mv (v := v₁) rfl) ?_
  obtain ⟨⟨x3, x4⟩, hx₂, hp⟩ := bd_some hp
  obtain ⟨u₂, k₃, ca₂, v₃, v₄, v₅, vs₁, v₆, vs₂, v₇, v₈, rfl, hW₂⟩ := p_arcs_Of.ok (h := k₂)  (hO₂.sl 1 rfl : Sl e_T_api_Cell k₂ v₁ x1) hx₂
  refine WO_c (id := 129) (caps := []) rfl (mp_cons (v := v₁) rfl mp_nil) ca₂ ?_
  have hO₃ : Own B h k₃ [eBox r₁ [v_z_At, v_z_Bits, v_z_Own], eSl e_T_api_Cell v₁ x1, eSl e_T_api_Point v₂ x2, eSl eInt v₃ x3.Chains.X, eSl eInt v₄ x3.Chains.Y, eSl eV v₅ vs₁, eAll eInt vs₁ x3.Chains.Vert, eSl eV v₆ vs₂, eAll eInt vs₂ x3.Chains.Horz, eSl e_T_api_Arc v₇ x3.H, eSl e_T_api_Arc v₈ x3.V] := hO₂.call hW₂ rfl
  refine WO_v (a_mv (v := .tu [.ag [v₃, v₄, v₅, v₆, v₇, v₈], .i .i64 x4]) rfl) ?_
  refine WO_v (a_ext (vs := [.ag [v₃, v₄, v₅, v₆, v₇, v₈], .i .i64 x4]) (v := .ag [v₃, v₄, v₅, v₆, v₇, v₈]) rfl rfl) ?_
  refine WO_v (a_ext (vs := [.ag [v₃, v₄, v₅, v₆, v₇, v₈], .i .i64 x4]) (v := .i .i64 x4) rfl rfl) ?_
  refine WO_x (hO₃.alloc (cs := [.sn, .sn, .sn, .sn, .sn, .sn]) hO₃.fr) ?_
  rintro _ k₄ ⟨r₂, rfl, n₂, f₂, hW⟩
  have hO₄ : Own B h k₄ [eBox r₁ [v_z_At, v_z_Bits, v_z_Own], eSl e_T_api_Cell v₁ x1, eSl e_T_api_Point v₂ x2, eSl eInt v₃ x3.Chains.X, eSl eInt v₄ x3.Chains.Y, eSl eV v₅ vs₁, eAll eInt vs₁ x3.Chains.Vert, eSl eV v₆ vs₂, eAll eInt vs₂ x3.Chains.Horz, eSl e_T_api_Arc v₇ x3.H, eSl e_T_api_Arc v₈ x3.V, eBox r₂ [.sn, .sn, .sn, .sn, .sn, .sn]] := hW
  refine WO_x (hO₄.stb (ws := [v₃, v₄, v₅, v₆, v₇, v₈]) (cs' := [v₃, v₄, v₅, v₆, v₇, v₈]) (v := .ag [v₃, v₄, v₅, v₆, v₇, v₈]) 11 rfl rfl rfl rfl ⟨rfl, Nat.le_of_ble_eq_true rfl, (all_cons (hO₄.sl 3 rfl : Sl eInt k₄ v₃ x3.Chains.X).oneV (all_cons (hO₄.sl 4 rfl : Sl eInt k₄ v₄ x3.Chains.Y).oneV (all_cons (hO₄.sl 5 rfl : Sl eV k₄ v₅ vs₁).oneV (all_cons (hO₄.sl 7 rfl : Sl eV k₄ v₆ vs₂).oneV (all_cons (hO₄.sl 9 rfl : Sl e_T_api_Arc k₄ v₇ x3.H).oneV (all_cons (hO₄.sl 10 rfl : Sl e_T_api_Arc k₄ v₈ x3.V).oneV all_nil))))))⟩ rfl) ?_
  rintro _ k₅ ⟨rfl, f₃, m₁, hW⟩
  have hO₅ : Own B h k₅ [eBox r₁ [v_z_At, v_z_Bits, v_z_Own], eSl e_T_api_Cell v₁ x1, eSl e_T_api_Point v₂ x2, eSl eInt v₃ x3.Chains.X, eSl eInt v₄ x3.Chains.Y, eSl eV v₅ vs₁, eAll eInt vs₁ x3.Chains.Vert, eSl eV v₆ vs₂, eAll eInt vs₂ x3.Chains.Horz, eSl e_T_api_Arc v₇ x3.H, eSl e_T_api_Arc v₈ x3.V, eBox r₂ [v₃, v₄, v₅, v₆, v₇, v₈]] := hW
  refine WO_v (a_mv (v := .i .i64 x4) rfl) ?_
  refine WO_end ?_
  refine then_n ?_
  refine W_sq ?_
  refine W_sq ?_
  refine W_rg ?_
  obtain ⟨x5, hx₃, hp⟩ := bd_some hp
  obtain ⟨u₃, k₆, ca₃, rfl, hW₃⟩ := p_muntinlaw17_wakes.ok (h := k₅)   hx₃
  refine WO_c (id := 130) (caps := []) rfl mp_nil ca₃ ?_
  have hO₆ : Own B h k₆ [eBox r₁ [v_z_At, v_z_Bits, v_z_Own], eSl e_T_api_Cell v₁ x1, eSl e_T_api_Point v₂ x2, eSl eInt v₃ x3.Chains.X, eSl eInt v₄ x3.Chains.Y, eSl eV v₅ vs₁, eAll eInt vs₁ x3.Chains.Vert, eSl eV v₆ vs₂, eAll eInt vs₂ x3.Chains.Horz, eSl e_T_api_Arc v₇ x3.H, eSl e_T_api_Arc v₈ x3.V, eBox r₂ [v₃, v₄, v₅, v₆, v₇, v₈]] := hO₅.call hW₃ rfl
  refine WO_v (a_not (t := x5) rfl) ?_
  refine WO_v (a_mv (v := .b (!x5)) rfl) ?_
  refine WO_cut 3 (fun fr' k' => k₆ = k' ∧ fr' 34 = .b ((!x5) || (!(decide (x4 = 0)))) ∧ fr' 1 = v_x ∧ fr' 2 = v_y ∧ fr' 7 = v₁ ∧ fr' 8 = v₂ ∧ fr' 9 = .p r₂ 0) ?_ ?_
  · rcases bc (!x5) with b₁ | b₁
    · skip
      refine WO_off rfl b₁ ?_
      refine WO_off rfl b₁ ?_
      refine WO_v (a_pickT (t := (!x5)) (v := .b ((!x5) || (!(decide (x4 = 0))))) rfl b₁ (Eq.trans (b := V.b true) rfl (or_off b₁))) ?_
      refine WO_end ?_
      exact ⟨rfl, rfl, rfl, rfl, rfl, rfl, rfl⟩
    · skip
      refine WO_on rfl b₁ ?_
      refine WO_v (a_mv (v := .i .i64 x4) rfl) ?_
      refine WO_on rfl b₁ ?_
      refine WO_v (a_neI (a := x4) (b := 0) rfl rfl) ?_
      refine WO_v (a_pickF (t := (!x5)) (v := .b ((!x5) || (!(decide (x4 = 0))))) rfl b₁ (Eq.trans (b := V.b (!(decide (x4 = 0)))) rfl (or_on b₁))) ?_
      refine WO_end ?_
      exact ⟨rfl, rfl, rfl, rfl, rfl, rfl, rfl⟩
  rintro frg₁ _ ⟨rfl, g₁_34, g₁_1, g₁_2, g₁_7, g₁_8, g₁_9⟩
  refine WO_end ?_
  refine then_n ?_
  rcases if_some hp with ⟨b₂, hp⟩ | ⟨b₂, hp⟩
  · refine W_cT (t := ((!x5) || (!(decide (x4 = 0))))) g₁_34 b₂ ?_
    refine W_sq ?_
    refine W_rg ?_
    refine WO_v (a_mv (v := .b false) rfl) ?_
    refine WO_end ?_
    refine then_n ?_
    refine W_rt ?_
    refine then_r ?_
    refine Ret_r (rs_t (n := 6) (v := .b false) rfl rs_nil) ?_
    have hp := Option.some.inj hp; subst hp
    exact (And.intro rfl (hO₆.pick [] rfl (by decide)))
  · refine W_cF (t := ((!x5) || (!(decide (x4 = 0))))) g₁_34 b₂ ?_
    refine W_sk ?_
    refine then_n ?_
    refine W_sq ?_
    refine W_dr ?_
    have hW := hO₆.bump 14
    have fr₁ := Fresh.start k₆ 14
    have nb₁ : ∀ {i : Nat}, h.n ≤ k₆.n + i := Nat.le_trans hO₆.n (Nat.le_add_right _ _)
    have hO₇ : Own B h (k₆.bump 14) [eBox r₁ [v_z_At, v_z_Bits, v_z_Own], eSl e_T_api_Cell v₁ x1, eSl e_T_api_Point v₂ x2, eSl eInt v₃ x3.Chains.X, eSl eInt v₄ x3.Chains.Y, eSl eV v₅ vs₁, eAll eInt vs₁ x3.Chains.Vert, eSl eV v₆ vs₂, eAll eInt vs₂ x3.Chains.Horz, eSl e_T_api_Arc v₇ x3.H, eSl e_T_api_Arc v₈ x3.V, eBox r₂ [v₃, v₄, v₅, v₆, v₇, v₈]] := hW
    refine WD_v (a_mv (v := v_x) g₁_1) ?_
    refine WD_v (a_fa (r := r₂) (o := 0) (o' := 0) g₁_9 rfl) ?_
    refine WD_v (a_fa (r := r₂) (o := 0) (o' := 2) rfl rfl) ?_
    refine WD_v (a_ldb (cs := [v₃, v₄, v₅, v₆, v₇, v₈]) (v := v₅) (hO₇.box 11 rfl) rfl rfl) ?_
    refine WD_v (a_lenN (n := (x3.Chains.Vert).length) (hO₇.sl 5 rfl : Sl eV (k₆.bump 14) v₅ vs₁) (hO₇.allLen 6 rfl : (vs₁).length = (x3.Chains.Vert).length) rfl) ?_
    obtain ⟨x6, hx₄, hp⟩ := bd_some hp
    obtain ⟨u₄, k₈, ca₄, v₉, rfl, hW₄⟩ := p_muntinlaw17_numbers.ok (h := (k₆.bump 14))  (hO₇.rd0 s_x.rd : Sl eInt (k₆.bump 14) v_x x) hx₄
    refine WD_c (id := 131) (caps := []) rfl (mp_cons (v := v_x) rfl (mp_cons (v := .i .i64 (x3.Chains.Vert.length : Int)) rfl (mp_cons (v := .i .i64 6) rfl mp_nil))) ca₄ ?_
    have fr₂ := fr₁.call hW₄
    have hO₈ : Own B h k₈ [eBox r₁ [v_z_At, v_z_Bits, v_z_Own], eSl e_T_api_Cell v₁ x1, eSl e_T_api_Point v₂ x2, eSl eInt v₃ x3.Chains.X, eSl eInt v₄ x3.Chains.Y, eSl eV v₅ vs₁, eAll eInt vs₁ x3.Chains.Vert, eSl eV v₆ vs₂, eAll eInt vs₂ x3.Chains.Horz, eSl e_T_api_Arc v₇ x3.H, eSl e_T_api_Arc v₈ x3.V, eBox r₂ [v₃, v₄, v₅, v₆, v₇, v₈], eSl eInt v₉ x6] := hO₇.call hW₄ rfl
    refine WD_v (a_mv (v := v_y) g₁_2) ?_
    refine WD_v (a_fa (r := r₂) (o := 0) (o' := 0) g₁_9 rfl) ?_
    refine WD_v (a_fa (r := r₂) (o := 0) (o' := 3) rfl rfl) ?_
    refine WD_v (a_ldb (cs := [v₃, v₄, v₅, v₆, v₇, v₈]) (v := v₆) (hO₈.box 11 rfl) rfl rfl) ?_
    refine WD_v (a_lenN (n := (x3.Chains.Horz).length) (hO₈.sl 7 rfl : Sl eV k₈ v₆ vs₂) (hO₈.allLen 8 rfl : (vs₂).length = (x3.Chains.Horz).length) rfl) ?_
    obtain ⟨x7, hx₅, hp⟩ := bd_some hp
    obtain ⟨u₅, k₉, ca₅, v₁₀, rfl, hW₅⟩ := p_muntinlaw17_numbers.ok (h := k₈)  (hO₈.rd0 s_y.rd : Sl eInt k₈ v_y y) hx₅
    refine WD_c (id := 131) (caps := []) rfl (mp_cons (v := v_y) rfl (mp_cons (v := .i .i64 (x3.Chains.Horz.length : Int)) rfl (mp_cons (v := .i .i64 6) rfl mp_nil))) ca₅ ?_
    have fr₃ := fr₂.call hW₅
    have hO₉ : Own B h k₉ [eBox r₁ [v_z_At, v_z_Bits, v_z_Own], eSl e_T_api_Cell v₁ x1, eSl e_T_api_Point v₂ x2, eSl eInt v₃ x3.Chains.X, eSl eInt v₄ x3.Chains.Y, eSl eV v₅ vs₁, eAll eInt vs₁ x3.Chains.Vert, eSl eV v₆ vs₂, eAll eInt vs₂ x3.Chains.Horz, eSl e_T_api_Arc v₇ x3.H, eSl e_T_api_Arc v₈ x3.V, eBox r₂ [v₃, v₄, v₅, v₆, v₇, v₈], eSl eInt v₉ x6, eSl eInt v₁₀ x7] := hO₈.call hW₅ rfl
    refine WD_v (a_mv (v := v₉) rfl) ?_
    refine WD_v (a_mv (v := v₁₀) rfl) ?_
    refine WD_end ?_
    refine And.intro ?_ ?_
    · intro q hq
      simp only [List.mem_cons, List.not_mem_nil, or_false] at hq
      rcases hq with rfl | rfl
      · refine ap_ll ?_ ?_
        · exact (fun h => nomatch h)
        · exact (fun h => nomatch h)
      · refine ap_cl rfl ?_
        · exact (fun r hm hc => hc (hW₄.base r (Nat.lt_of_lt_of_le (hO₆.ltAt 11 rfl _ (tch (v := V.p r₂ 3) (ld_el hm) rfl)) (Nat.le_trans (Nat.le_add_right _ _) fr₁.n))))
    refine then_n ?_
    refine W_sq ?_
    refine W_sq ?_
    refine W_rg ?_
    refine WO_v (a_mv (v := v₂) g₁_8) ?_
    refine WO_v (a_len (hO₉.sl 2 rfl : Sl e_T_api_Point k₉ v₂ x2) rfl) ?_
    refine WO_v (a_mv (v := .i .i64 0) rfl) ?_
    refine WO_end ?_
    refine then_n ?_
    refine W_bl ?_
    obtain ⟨o₁, ho₁, hp⟩ := bd_some hp
    refine W.mono (Q := fun e fr k => match (generalizing := false) o₁ with
        | (a1, b1) => e = (.exit 0) ∧ fr 7 = v₁ ∧ fr 9 = .p r₂ 0 ∧ fr 11 = v₉ ∧ fr 12 = v₁₀ ∧ Own B h k [eSl e_T_api_Cell v₁ x1, eBox r₂ [v₃, v₄, v₅, v₆, v₇, v₈], eSl eInt v₃ x3.Chains.X, eSl eInt v₄ x3.Chains.Y, eSl eV v₅ vs₁, eAll eInt vs₁ x3.Chains.Vert, eSl eV v₆ vs₂, eAll eInt vs₂ x3.Chains.Horz, eSl e_T_api_Arc v₇ x3.H, eSl e_T_api_Arc v₈ x3.V, eSl eInt v₉ a1, eSl eInt v₁₀ b1]) ?_ ?_
    · clear hp
      refine W_loopF (fun st fr k => match st with | (a, b, x8) => fr 1 = v_x ∧ fr 7 = v₁ ∧ fr 9 = .p r₂ 0 ∧ fr 11 = v₉ ∧ fr 12 = v₁₀ ∧ fr 47 = v₂ ∧ fr 48 = .i .i64 (x2.length : Int) ∧ fr 49 = .i .i64 x8 ∧ Own B h k [eSl e_T_api_Cell v₁ x1, eBox r₂ [v₃, v₄, v₅, v₆, v₇, v₈], eSl eInt v₃ x3.Chains.X, eSl eInt v₄ x3.Chains.Y, eSl eV v₅ vs₁, eAll eInt vs₁ x3.Chains.Vert, eSl eV v₆ vs₂, eAll eInt vs₂ x3.Chains.Horz, eSl e_T_api_Arc v₇ x3.H, eSl e_T_api_Arc v₈ x3.V, eSl eInt v₉ a, eSl eInt v₁₀ b, eSl e_T_api_Point v₂ x2]) ho₁ (s := (x6, x7, 0)) (And.intro (g₁_1) (And.intro (g₁_7) (And.intro (g₁_9) (And.intro (rfl) (And.intro (rfl) (And.intro (rfl) (And.intro (rfl) (And.intro (rfl) (hO₉.pick [1, 11, 3, 4, 5, 6, 7, 8, 9, 10, 12, 13, 2] rfl (by decide)))))))))) ?_
      rintro ⟨a, b, x8⟩ q₂ k₁₁ ⟨q₂_1, q₂_7, q₂_9, q₂_11, q₂_12, q₂_47, q₂_48, q₂_49, hO₁₁⟩ o₂ hp
      dsimp only [p_muntinlaw17_ArcsFit.s0] at hp
      refine W_sq ?_
      refine W_rg ?_
      refine WO_v (a_lss (a := x8) (b := (x2.length : Int)) q₂_49 q₂_48) ?_
      refine WO_end ?_
      refine then_n ?_
      refine W_sq ?_
      rcases if_some hp with ⟨b₃, hp⟩ | ⟨b₃, hp⟩
      · refine W_cT (t := (decide (x8 < (x2.length : Int)))) rfl b₃ ?_
        refine W_sk ?_
        refine then_n ?_
        refine W_sq ?_
        refine W_bl ?_
        refine W_sq ?_
        refine W_rg ?_
        refine WO_v (a_mv (v := .i .i64 x8) q₂_49) ?_
        obtain ⟨c₁, hp⟩ := ck_some hp
        refine WO_v (a_ixa (E := e_T_api_Point) (z := x8) (hO₁₁.sl 12 rfl : Sl e_T_api_Point k₁₁ v₂ x2) q₂_47 q₂_49 c₁) ?_
        refine WO_v (a_ldA (E := e_T_api_Point) (hO₁₁.sl 12 rfl : Sl e_T_api_Point k₁₁ v₂ x2) rfl (toNat_lt c₁)) ?_
        refine WO_x (hO₁₁.alloc (cs := e_T_api_Point.c (⟨0, 0⟩ : T_api_Point)) hO₁₁.fr) ?_
        rintro _ k₁₂ ⟨r₃, rfl, n₃, f₄, hW⟩
        have hO₁₂ : Own B h k₁₂ [eSl e_T_api_Cell v₁ x1, eBox r₂ [v₃, v₄, v₅, v₆, v₇, v₈], eSl eInt v₃ x3.Chains.X, eSl eInt v₄ x3.Chains.Y, eSl eV v₅ vs₁, eAll eInt vs₁ x3.Chains.Vert, eSl eV v₆ vs₂, eAll eInt vs₂ x3.Chains.Horz, eSl e_T_api_Arc v₇ x3.H, eSl e_T_api_Arc v₈ x3.V, eSl eInt v₉ a, eSl eInt v₁₀ b, eSl e_T_api_Point v₂ x2, eBox r₃ (e_T_api_Point.c (⟨0, 0⟩ : T_api_Point))] := hW
        refine WO_v (a_mv (v := .i .i64 x8) rfl) ?_
        refine WO_x (hO₁₂.stb (ws := e_T_api_Point.c (gi x2 (x8 : Int).toNat)) (cs' := e_T_api_Point.c (gi x2 (x8 : Int).toNat)) (v := .ag (e_T_api_Point.c (gi x2 (x8 : Int).toNat))) 13 rfl rfl rfl rfl ⟨rfl, Nat.le_of_ble_eq_true rfl, rfl⟩ rfl) ?_
        rintro _ k₁₃ ⟨rfl, f₅, m₂, hW⟩
        have hO₁₃ : Own B h k₁₃ [eSl e_T_api_Cell v₁ x1, eBox r₂ [v₃, v₄, v₅, v₆, v₇, v₈], eSl eInt v₃ x3.Chains.X, eSl eInt v₄ x3.Chains.Y, eSl eV v₅ vs₁, eAll eInt vs₁ x3.Chains.Vert, eSl eV v₆ vs₂, eAll eInt vs₂ x3.Chains.Horz, eSl e_T_api_Arc v₇ x3.H, eSl e_T_api_Arc v₈ x3.V, eSl eInt v₉ a, eSl eInt v₁₀ b, eSl e_T_api_Point v₂ x2, eBox r₃ (e_T_api_Point.c (gi x2 (x8 : Int).toNat))] := hW
        refine WO_end ?_
        refine then_n ?_
        refine W_sq ?_
        refine W_rg ?_
        refine WO_v (a_mv (v := .i .i64 x8) rfl) ?_
        refine WO_v (a_rem (a := x8) (b := 2) rfl rfl (by decide)) ?_
        refine WO_v (a_mv (v := v_x) q₂_1) ?_
        refine WO_v (a_len (hO₁₃.rd0 s_x.rd : Sl eInt k₁₃ v_x x) rfl) ?_
        refine WO_v (a_rem (a := (x.length : Int)) (b := 2) rfl rfl (by decide)) ?_
        refine WO_v (a_eqI (a := (x8.tmod 2)) (b := ((x.length : Int).tmod 2)) rfl rfl) ?_
        refine WO_end ?_
        refine then_n ?_
        rcases if_some hp with ⟨b₄, hp⟩ | ⟨b₄, hp⟩
        · refine W_cT (t := (decide (x8.tmod 2 = (x.length : Int).tmod 2))) rfl b₄ ?_
          refine W_sq ?_
          refine W_dr ?_
          have hW := hO₁₃.bump 12
          have fr₄ := Fresh.start k₁₃ 12
          have nb₂ : ∀ {i : Nat}, h.n ≤ k₁₃.n + i := Nat.le_trans hO₁₃.n (Nat.le_add_right _ _)
          have hO₁₄ : Own B h (k₁₃.bump 12) [eSl e_T_api_Cell v₁ x1, eBox r₂ [v₃, v₄, v₅, v₆, v₇, v₈], eSl eInt v₃ x3.Chains.X, eSl eInt v₄ x3.Chains.Y, eSl eV v₅ vs₁, eAll eInt vs₁ x3.Chains.Vert, eSl eV v₆ vs₂, eAll eInt vs₂ x3.Chains.Horz, eSl e_T_api_Arc v₇ x3.H, eSl e_T_api_Arc v₈ x3.V, eSl eInt v₉ a, eSl eInt v₁₀ b, eSl e_T_api_Point v₂ x2, eBox r₃ (e_T_api_Point.c (gi x2 (x8 : Int).toNat))] := hW
          refine WD_v (a_mv (v := v₉) q₂_11) ?_
          refine WD_v (a_fa (r := r₂) (o := 0) (o' := 0) q₂_9 rfl) ?_
          refine WD_v (a_fa (r := r₂) (o := 0) (o' := 0) rfl rfl) ?_
          refine WD_v (a_ldb (cs := [v₃, v₄, v₅, v₆, v₇, v₈]) (v := v₃) (hO₁₄.box 1 rfl) rfl rfl) ?_
          refine WD_v (a_mv (v := .i .i64 x8) rfl) ?_
          obtain ⟨c₂, hp⟩ := ck_some hp
          refine WD_v (a_ixa (E := eInt) (z := x8) (hO₁₄.sl 2 rfl : Sl eInt (k₁₃.bump 12) v₃ x3.Chains.X) rfl rfl c₂) ?_
          refine WD_v (a_ldE (w := .i .i64 (gi x3.Chains.X (x8 : Int).toNat)) (hO₁₄.sl 2 rfl : Sl eInt (k₁₃.bump 12) v₃ x3.Chains.X) rfl (toNat_lt c₂) rfl) ?_
          refine WD_v (a_fa (r := r₃) (o := 0) (o' := 0) rfl rfl) ?_
          refine WD_v (a_ldb (cs := (e_T_api_Point.c (gi x2 (x8 : Int).toNat))) (v := .i .i64 ((gi x2 (x8 : Int).toNat).X)) (hO₁₄.box 13 rfl) rfl rfl) ?_
          obtain ⟨c₃, hp⟩ := ck_some hp
          refine WD_v (a_mul (a := 3) (b := ((gi x2 (x8 : Int).toNat).X)) rfl rfl c₃) ?_
          obtain ⟨c₄, hp⟩ := ck_some hp
          refine WD_v (a_ixa (E := eInt) (z := (gi x3.Chains.X (x8 : Int).toNat)) (hO₁₄.sl 10 rfl : Sl eInt (k₁₃.bump 12) v₉ a) rfl rfl c₄) ?_
          refine WD_x (hO₁₄.ste (E := eInt) (y := (3 * ((gi x2 (x8 : Int).toNat).X))) (ws := [.i .i64 (3 * ((gi x2 (x8 : Int).toNat).X))]) 10 rfl rfl (toNat_lt c₄) rfl rfl ⟨rfl, Nat.le_of_ble_eq_true rfl, rfl⟩ rfl) ?_
          rintro _ k₁₅ z₁ ⟨rfl, f₆, m₃, hW⟩
          have fr₅ := fr₄.kept f₆ (by decide)
          have hO₁₅ : Own B h k₁₅ [eSl e_T_api_Cell v₁ x1, eBox r₂ [v₃, v₄, v₅, v₆, v₇, v₈], eSl eInt v₃ x3.Chains.X, eSl eInt v₄ x3.Chains.Y, eSl eV v₅ vs₁, eAll eInt vs₁ x3.Chains.Vert, eSl eV v₆ vs₂, eAll eInt vs₂ x3.Chains.Horz, eSl e_T_api_Arc v₇ x3.H, eSl e_T_api_Arc v₈ x3.V, eSl eInt v₉ (a.set (gi x3.Chains.X (x8 : Int).toNat : Int).toNat (3 * ((gi x2 (x8 : Int).toNat).X))), eSl eInt v₁₀ b, eSl e_T_api_Point v₂ x2, eBox r₃ (e_T_api_Point.c (gi x2 (x8 : Int).toNat))] := hW
          refine WD_end ?_
          refine And.intro ?_ ?_
          · intro q hq
            simp only [List.mem_cons, List.not_mem_nil, or_false] at hq
            rcases hq with rfl | rfl
            · refine ap_ll ?_ ?_
              · exact (fun h => nomatch h)
              · exact (fun h => nomatch h)
            · refine ap_ll ?_ ?_
              · exact (fun h => nomatch h)
              · exact (fun h => nomatch h)
          refine then_n ?_
          refine W_dr ?_
          have hW := hO₁₅.bump 12
          have fr₆ := Fresh.start k₁₅ 12
          have nb₃ : ∀ {i : Nat}, h.n ≤ k₁₅.n + i := Nat.le_trans hO₁₅.n (Nat.le_add_right _ _)
          have hO₁₆ : Own B h (k₁₅.bump 12) [eSl e_T_api_Cell v₁ x1, eBox r₂ [v₃, v₄, v₅, v₆, v₇, v₈], eSl eInt v₃ x3.Chains.X, eSl eInt v₄ x3.Chains.Y, eSl eV v₅ vs₁, eAll eInt vs₁ x3.Chains.Vert, eSl eV v₆ vs₂, eAll eInt vs₂ x3.Chains.Horz, eSl e_T_api_Arc v₇ x3.H, eSl e_T_api_Arc v₈ x3.V, eSl eInt v₉ (a.set (gi x3.Chains.X (x8 : Int).toNat : Int).toNat (3 * ((gi x2 (x8 : Int).toNat).X))), eSl eInt v₁₀ b, eSl e_T_api_Point v₂ x2, eBox r₃ (e_T_api_Point.c (gi x2 (x8 : Int).toNat))] := hW
          refine WD_v (a_mv (v := v₁₀) q₂_12) ?_
          refine WD_v (a_fa (r := r₂) (o := 0) (o' := 0) q₂_9 rfl) ?_
          refine WD_v (a_fa (r := r₂) (o := 0) (o' := 1) rfl rfl) ?_
          refine WD_v (a_ldb (cs := [v₃, v₄, v₅, v₆, v₇, v₈]) (v := v₄) (hO₁₆.box 1 rfl) rfl rfl) ?_
          refine WD_v (a_mv (v := .i .i64 x8) rfl) ?_
          obtain ⟨c₅, hp⟩ := ck_some hp
          refine WD_v (a_ixa (E := eInt) (z := x8) (hO₁₆.sl 3 rfl : Sl eInt (k₁₅.bump 12) v₄ x3.Chains.Y) rfl rfl c₅) ?_
          refine WD_v (a_ldE (w := .i .i64 (gi x3.Chains.Y (x8 : Int).toNat)) (hO₁₆.sl 3 rfl : Sl eInt (k₁₅.bump 12) v₄ x3.Chains.Y) rfl (toNat_lt c₅) rfl) ?_
          refine WD_v (a_fa (r := r₃) (o := 0) (o' := 1) rfl rfl) ?_
          refine WD_v (a_ldb (cs := (e_T_api_Point.c (gi x2 (x8 : Int).toNat))) (v := .i .i64 ((gi x2 (x8 : Int).toNat).Y)) (hO₁₆.box 13 rfl) rfl rfl) ?_
          obtain ⟨c₆, hp⟩ := ck_some hp
          refine WD_v (a_mul (a := 3) (b := ((gi x2 (x8 : Int).toNat).Y)) rfl rfl c₆) ?_
          obtain ⟨c₇, hp⟩ := ck_some hp
          refine WD_v (a_ixa (E := eInt) (z := (gi x3.Chains.Y (x8 : Int).toNat)) (hO₁₆.sl 11 rfl : Sl eInt (k₁₅.bump 12) v₁₀ b) rfl rfl c₇) ?_
          refine WD_x (hO₁₆.ste (E := eInt) (y := (3 * ((gi x2 (x8 : Int).toNat).Y))) (ws := [.i .i64 (3 * ((gi x2 (x8 : Int).toNat).Y))]) 11 rfl rfl (toNat_lt c₇) rfl rfl ⟨rfl, Nat.le_of_ble_eq_true rfl, rfl⟩ rfl) ?_
          rintro _ k₁₇ z₂ ⟨rfl, f₇, m₄, hW⟩
          have fr₇ := fr₆.kept f₇ (by decide)
          have hO₁₇ : Own B h k₁₇ [eSl e_T_api_Cell v₁ x1, eBox r₂ [v₃, v₄, v₅, v₆, v₇, v₈], eSl eInt v₃ x3.Chains.X, eSl eInt v₄ x3.Chains.Y, eSl eV v₅ vs₁, eAll eInt vs₁ x3.Chains.Vert, eSl eV v₆ vs₂, eAll eInt vs₂ x3.Chains.Horz, eSl e_T_api_Arc v₇ x3.H, eSl e_T_api_Arc v₈ x3.V, eSl eInt v₉ (a.set (gi x3.Chains.X (x8 : Int).toNat : Int).toNat (3 * ((gi x2 (x8 : Int).toNat).X))), eSl eInt v₁₀ (b.set (gi x3.Chains.Y (x8 : Int).toNat : Int).toNat (3 * ((gi x2 (x8 : Int).toNat).Y))), eSl e_T_api_Point v₂ x2, eBox r₃ (e_T_api_Point.c (gi x2 (x8 : Int).toNat))] := hW
          refine WD_end ?_
          refine And.intro ?_ ?_
          · intro q hq
            simp only [List.mem_cons, List.not_mem_nil, or_false] at hq
            rcases hq with rfl | rfl
            · refine ap_ll ?_ ?_
              · exact (fun h => nomatch h)
              · exact (fun h => nomatch h)
            · refine ap_ll ?_ ?_
              · exact (fun h => nomatch h)
              · exact (fun h => nomatch h)
          refine blk_n ?_
          refine then_n ?_
          refine W_rg ?_
          obtain ⟨c₈, hp⟩ := ck_some hp
          refine WO_v (a_add (a := x8) (b := 1) q₂_49 rfl c₈) ?_
          refine WO_v (a_mv (v := .i .i64 (x8 + 1)) rfl) ?_
          refine WO_end ?_
          have hp := Option.some.inj hp; subst hp
          exact (Or.inl (Exists.intro (a.set (gi x3.Chains.X (x8 : Int).toNat : Int).toNat (3 * ((gi x2 (x8 : Int).toNat).X)), b.set (gi x3.Chains.Y (x8 : Int).toNat : Int).toNat (3 * ((gi x2 (x8 : Int).toNat).Y)), x8 + 1) (And.intro rfl (And.intro rfl (And.intro (q₂_1) (And.intro (q₂_7) (And.intro (q₂_9) (And.intro (q₂_11) (And.intro (q₂_12) (And.intro (q₂_47) (And.intro (q₂_48) (And.intro (rfl) (hO₁₇.pick [0, 1, 2, 3, 4, 5, 6, 7, 8, 9, 10, 11, 12] rfl (by decide))))))))))))))
        · refine W_cF (t := (decide (x8.tmod 2 = (x.length : Int).tmod 2))) rfl b₄ ?_
          refine W_sk ?_
          refine blk_n ?_
          refine then_n ?_
          refine W_rg ?_
          obtain ⟨c₉, hp⟩ := ck_some hp
          refine WO_v (a_add (a := x8) (b := 1) q₂_49 rfl c₉) ?_
          refine WO_v (a_mv (v := .i .i64 (x8 + 1)) rfl) ?_
          refine WO_end ?_
          have hp := Option.some.inj hp; subst hp
          exact (Or.inl (Exists.intro (a, b, x8 + 1) (And.intro rfl (And.intro rfl (And.intro (q₂_1) (And.intro (q₂_7) (And.intro (q₂_9) (And.intro (q₂_11) (And.intro (q₂_12) (And.intro (q₂_47) (And.intro (q₂_48) (And.intro (rfl) (hO₁₃.pick [0, 1, 2, 3, 4, 5, 6, 7, 8, 9, 10, 11, 12] rfl (by decide))))))))))))))
      · refine W_cF (t := (decide (x8 < (x2.length : Int)))) rfl b₃ ?_
        refine W_ex ?_
        refine then_e ?_
        have hp := Option.some.inj hp; subst hp
        refine (Or.inr (Exists.intro (a, b) (And.intro rfl (And.intro (fun h => nomatch h) (fun he => ?_)))))
        subst he; exact (And.intro rfl (And.intro (q₂_7) (And.intro (q₂_9) (And.intro (q₂_11) (And.intro (q₂_12) (hO₁₁.pick [0, 1, 2, 3, 4, 5, 6, 7, 8, 9, 10, 11] rfl (by decide)))))))
    intro e₁ q₁ k₁₀ hJ₁
    obtain ⟨a1, b1⟩ := o₁
    obtain ⟨rfl, q₁_7, q₁_9, q₁_11, q₁_12, hO₁₀⟩ := hJ₁
    refine blk_i ?_
    refine then_n ?_
    refine W_sq ?_
    refine W_rg ?_
    refine WO_v (a_fa (r := r₂) (o := 0) (o' := 0) q₁_9 rfl) ?_
    refine WO_v (a_ldbA (cs := [v₃, v₄, v₅, v₆, v₇, v₈]) (ws := [v₃, v₄, v₅, v₆]) (hO₁₀.box 1 rfl) rfl rfl) ?_
    refine WO_v (a_mv (v := v₉) q₁_11) ?_
    refine WO_v (a_mv (v := v₁₀) q₁_12) ?_
    obtain ⟨⟨x9, x10⟩, hx₆, hp⟩ := bd_some hp
    obtain ⟨u₆, k₁₈, ca₆, v₁₁, rfl, hW₆⟩ := p_arcs_Place.ok (h := k₁₀)  (hO₁₀.sl 2 rfl : Sl eInt k₁₀ v₃ x3.Chains.X) (hO₁₀.sl 3 rfl : Sl eInt k₁₀ v₄ x3.Chains.Y) (hO₁₀.sl 4 rfl : Sl eV k₁₀ v₅ vs₁) (hO₁₀.allLen 5 rfl : (vs₁).length = (x3.Chains.Vert).length) (fun j hj => hO₁₀.inn 5 rfl hj) (hO₁₀.sl 6 rfl : Sl eV k₁₀ v₆ vs₂) (hO₁₀.allLen 7 rfl : (vs₂).length = (x3.Chains.Horz).length) (fun j hj => hO₁₀.inn 7 rfl hj) (hO₁₀.sl 10 rfl : Sl eInt k₁₀ v₉ a1) (hO₁₀.sl 11 rfl : Sl eInt k₁₀ v₁₀ b1) hx₆
    refine WO_c (id := 132) (caps := []) rfl (mp_cons (v := .ag [v₃, v₄, v₅, v₆]) rfl (mp_cons (v := v₉) rfl (mp_cons (v := v₁₀) rfl mp_nil))) ca₆ ?_
    have hO₁₈ : Own B h k₁₈ [eSl e_T_api_Cell v₁ x1, eBox r₂ [v₃, v₄, v₅, v₆, v₇, v₈], eSl eInt v₃ x3.Chains.X, eSl eInt v₄ x3.Chains.Y, eSl eV v₅ vs₁, eAll eInt vs₁ x3.Chains.Vert, eSl eV v₆ vs₂, eAll eInt vs₂ x3.Chains.Horz, eSl e_T_api_Arc v₇ x3.H, eSl e_T_api_Arc v₈ x3.V, eSl eInt v₉ a1, eSl eInt v₁₀ b1, eSl e_T_api_Point v₁₁ x9] := hO₁₀.call hW₆ rfl
    refine WO_v (a_mv (v := .tu [v₁₁, .i .i64 x10]) rfl) ?_
    refine WO_v (a_ext (vs := [v₁₁, .i .i64 x10]) (v := v₁₁) rfl rfl) ?_
    refine WO_v (a_ext (vs := [v₁₁, .i .i64 x10]) (v := .i .i64 x10) rfl rfl) ?_
    refine WO_v (a_mv (v := v₁₁) rfl) ?_
    refine WO_v (a_mv (v := .i .i64 x10) rfl) ?_
    refine WO_end ?_
    refine then_n ?_
    refine W_sq ?_
    refine W_sq ?_
    refine W_rg ?_
    refine WO_v (a_mv (v := .i .i64 x10) rfl) ?_
    refine WO_v (a_neI (a := x10) (b := 0) rfl rfl) ?_
    refine WO_end ?_
    refine then_n ?_
    rcases if_some hp with ⟨b₅, hp⟩ | ⟨b₅, hp⟩
    · refine W_cT (t := (!(decide (x10 = 0)))) rfl b₅ ?_
      refine W_sq ?_
      refine W_rg ?_
      refine WO_v (a_mv (v := .b false) rfl) ?_
      refine WO_end ?_
      refine then_n ?_
      refine W_rt ?_
      refine then_r ?_
      refine Ret_r (rs_t (n := 6) (v := .b false) rfl rs_nil) ?_
      have hp := Option.some.inj hp; subst hp
      exact (And.intro rfl (hO₁₈.pick [] rfl (by decide)))
    · refine W_cF (t := (!(decide (x10 = 0)))) rfl b₅ ?_
      refine W_sk ?_
      refine then_n ?_
      refine W_sq ?_
      refine W_rg ?_
      refine WO_v (a_mv (v := v₁) q₁_7) ?_
      refine WO_v (a_mv (v := v₁₁) rfl) ?_
      obtain ⟨⟨x11, x12⟩, hx₇, hp⟩ := bd_some hp
      obtain ⟨u₇, k₁₉, ca₇, rfl, hW₇⟩ := p_arcs_Length.ok (h := k₁₈)  (hO₁₈.sl 0 rfl : Sl e_T_api_Cell k₁₈ v₁ x1) (hO₁₈.sl 12 rfl : Sl e_T_api_Point k₁₈ v₁₁ x9) hx₇
      refine WO_c (id := 133) (caps := []) rfl (mp_cons (v := v₁) rfl (mp_cons (v := v₁₁) rfl mp_nil)) ca₇ ?_
      have hO₁₉ : Own B h k₁₉ [eSl e_T_api_Cell v₁ x1, eBox r₂ [v₃, v₄, v₅, v₆, v₇, v₈], eSl eInt v₃ x3.Chains.X, eSl eInt v₄ x3.Chains.Y, eSl eV v₅ vs₁, eAll eInt vs₁ x3.Chains.Vert, eSl eV v₆ vs₂, eAll eInt vs₂ x3.Chains.Horz, eSl e_T_api_Arc v₇ x3.H, eSl e_T_api_Arc v₈ x3.V, eSl eInt v₉ a1, eSl eInt v₁₀ b1, eSl e_T_api_Point v₁₁ x9] := hO₁₈.call hW₇ rfl
      refine WO_v (a_mv (v := .tu [.i .i64 x11, .i .i64 x12]) rfl) ?_
      refine WO_v (a_ext (vs := [.i .i64 x11, .i .i64 x12]) (v := .i .i64 x11) rfl rfl) ?_
      refine WO_v (a_ext (vs := [.i .i64 x11, .i .i64 x12]) (v := .i .i64 x12) rfl rfl) ?_
      refine WO_v (a_mv (v := .i .i64 x11) rfl) ?_
      refine WO_v (a_mv (v := .i .i64 x12) rfl) ?_
      refine WO_end ?_
      refine then_n ?_
      refine W_sq ?_
      refine W_sq ?_
      refine W_rg ?_
      refine WO_v (a_fa (r := r₂) (o := 0) (o' := 4) q₁_9 rfl) ?_
      refine WO_v (a_ldb (cs := [v₃, v₄, v₅, v₆, v₇, v₈]) (v := v₇) (hO₁₉.box 1 rfl) rfl rfl) ?_
      refine WO_v (a_mv (v := v₉) q₁_11) ?_
      obtain ⟨x13, hx₈, hp⟩ := bd_some hp
      obtain ⟨u₈, k₂₀, ca₈, rfl, hW₈⟩ := p_muntinref03_Fit.ok (h := k₁₉)  (hO₁₉.sl 8 rfl : Sl e_T_api_Arc k₁₉ v₇ x3.H) (hO₁₉.sl 10 rfl : Sl eInt k₁₉ v₉ a1) hx₈
      refine WO_c (id := 40) (caps := []) rfl (mp_cons (v := v₇) rfl (mp_cons (v := v₉) rfl mp_nil)) ca₈ ?_
      have hO₂₀ : Own B h k₂₀ [eSl e_T_api_Cell v₁ x1, eBox r₂ [v₃, v₄, v₅, v₆, v₇, v₈], eSl eInt v₃ x3.Chains.X, eSl eInt v₄ x3.Chains.Y, eSl eV v₅ vs₁, eAll eInt vs₁ x3.Chains.Vert, eSl eV v₆ vs₂, eAll eInt vs₂ x3.Chains.Horz, eSl e_T_api_Arc v₇ x3.H, eSl e_T_api_Arc v₈ x3.V, eSl eInt v₉ a1, eSl eInt v₁₀ b1, eSl e_T_api_Point v₁₁ x9] := hO₁₉.call hW₈ rfl
      refine WO_v (a_not (t := x13) rfl) ?_
      refine WO_v (a_mv (v := .b (!x13)) rfl) ?_
      obtain ⟨t, hv₁, hp⟩ := bd_some hp
      refine WO_cut 6 (fun fr' k' => Own B h k' [eSl e_T_api_Cell v₁ x1, eBox r₂ [v₃, v₄, v₅, v₆, v₇, v₈], eSl eInt v₃ x3.Chains.X, eSl eInt v₄ x3.Chains.Y, eSl eV v₅ vs₁, eAll eInt vs₁ x3.Chains.Vert, eSl eV v₆ vs₂, eAll eInt vs₂ x3.Chains.Horz, eSl e_T_api_Arc v₇ x3.H, eSl e_T_api_Arc v₈ x3.V, eSl eInt v₉ a1, eSl eInt v₁₀ b1, eSl e_T_api_Point v₁₁ x9] ∧ fr' 110 = .b t ∧ fr' 11 = v₉ ∧ fr' 12 = v₁₀ ∧ fr' 17 = .i .i64 x11 ∧ fr' 18 = .i .i64 x12 ∧ fr' 9 = .p r₂ 0) ?_ ?_
      · clear hp; rcases if_some hv₁ with ⟨b₆, hp⟩ | ⟨b₆, hp⟩
        · skip
          refine WO_off rfl b₆ ?_
          refine WO_off rfl b₆ ?_
          refine WO_off rfl b₆ ?_
          refine WO_off rfl b₆ ?_
          refine WO_off rfl b₆ ?_
          refine WO_v (a_pickT (t := (!x13)) (v := .b t) rfl b₆ (Eq.trans (b := V.b true) rfl (congrArg V.b (Option.some.inj hp)))) ?_
          refine WO_end ?_
          exact ⟨hO₂₀.pick [0, 1, 2, 3, 4, 5, 6, 7, 8, 9, 10, 11, 12] rfl (by decide), rfl, q₁_11, q₁_12, rfl, rfl, q₁_9⟩
        · skip
          refine WO_on rfl b₆ ?_
          refine WO_v (a_fa (r := r₂) (o := 0) (o' := 5) q₁_9 rfl) ?_
          refine WO_on rfl b₆ ?_
          refine WO_v (a_ldb (cs := [v₃, v₄, v₅, v₆, v₇, v₈]) (v := v₈) (hO₂₀.box 1 rfl) rfl rfl) ?_
          refine WO_on rfl b₆ ?_
          refine WO_v (a_mv (v := v₁₀) q₁_12) ?_
          refine WO_on rfl b₆ ?_
          obtain ⟨x14, hx₉, hp⟩ := bd_some hp
          obtain ⟨u₉, k₂₁, ca₉, rfl, hW₉⟩ := p_muntinref03_Fit.ok (h := k₂₀)  (hO₂₀.sl 9 rfl : Sl e_T_api_Arc k₂₀ v₈ x3.V) (hO₂₀.sl 11 rfl : Sl eInt k₂₀ v₁₀ b1) hx₉
          refine WO_c (id := 40) (caps := []) rfl (mp_cons (v := v₈) rfl (mp_cons (v := v₁₀) rfl mp_nil)) ca₉ ?_
          have hO₂₁ : Own B h k₂₁ [eSl e_T_api_Cell v₁ x1, eBox r₂ [v₃, v₄, v₅, v₆, v₇, v₈], eSl eInt v₃ x3.Chains.X, eSl eInt v₄ x3.Chains.Y, eSl eV v₅ vs₁, eAll eInt vs₁ x3.Chains.Vert, eSl eV v₆ vs₂, eAll eInt vs₂ x3.Chains.Horz, eSl e_T_api_Arc v₇ x3.H, eSl e_T_api_Arc v₈ x3.V, eSl eInt v₉ a1, eSl eInt v₁₀ b1, eSl e_T_api_Point v₁₁ x9] := hO₂₀.call hW₉ rfl
          refine WO_on rfl b₆ ?_
          refine WO_v (a_not (t := x14) rfl) ?_
          refine WO_v (a_pickF (t := (!x13)) (v := .b t) rfl b₆ (Eq.trans (b := V.b (!x14)) rfl (congrArg V.b (Option.some.inj hp)))) ?_
          refine WO_end ?_
          exact ⟨hO₂₁.pick [0, 1, 2, 3, 4, 5, 6, 7, 8, 9, 10, 11, 12] rfl (by decide), rfl, q₁_11, q₁_12, rfl, rfl, q₁_9⟩
      rintro frg₂ k₂₂ ⟨hO₂₂, g₂_110, g₂_11, g₂_12, g₂_17, g₂_18, g₂_9⟩
      refine WO_end ?_
      refine then_n ?_
      rcases if_some hp with ⟨b₇, hp⟩ | ⟨b₇, hp⟩
      · refine W_cT (t := t) g₂_110 b₇ ?_
        refine W_sq ?_
        refine W_rg ?_
        refine WO_v (a_mv (v := .i .i64 x12) g₂_18) ?_
        refine WO_v (a_eqI (a := x12) (b := 15) rfl rfl) ?_
        refine WO_v (a_mv (v := .b (decide (x12 = 15))) rfl) ?_
        refine WO_end ?_
        refine then_n ?_
        refine W_rt ?_
        refine then_r ?_
        refine Ret_r (rs_t (n := 6) (v := .b (decide (x12 = 15))) rfl rs_nil) ?_
        have hp := Option.some.inj hp; subst hp
        exact (And.intro rfl (hO₂₂.pick [] rfl (by decide)))
      · refine W_cF (t := t) g₂_110 b₇ ?_
        refine W_sk ?_
        refine then_n ?_
        refine W_sq ?_
        refine W_dr ?_
        have hW := hO₂₂.bump 16
        have fr₈ := Fresh.start k₂₂ 16
        have nb₄ : ∀ {i : Nat}, h.n ≤ k₂₂.n + i := Nat.le_trans hO₂₂.n (Nat.le_add_right _ _)
        have hO₂₃ : Own B h (k₂₂.bump 16) [eSl e_T_api_Cell v₁ x1, eBox r₂ [v₃, v₄, v₅, v₆, v₇, v₈], eSl eInt v₃ x3.Chains.X, eSl eInt v₄ x3.Chains.Y, eSl eV v₅ vs₁, eAll eInt vs₁ x3.Chains.Vert, eSl eV v₆ vs₂, eAll eInt vs₂ x3.Chains.Horz, eSl e_T_api_Arc v₇ x3.H, eSl e_T_api_Arc v₈ x3.V, eSl eInt v₉ a1, eSl eInt v₁₀ b1, eSl e_T_api_Point v₁₁ x9] := hW
        refine WD_v (a_mv (v := .i .i64 x12) g₂_18) ?_
        refine WD_v (a_eqI (a := x12) (b := 0) rfl rfl) ?_
        refine WD_v (a_mv (v := .b (decide (x12 = 0))) rfl) ?_
        rcases if_some hp with ⟨b₈, hp⟩ | ⟨b₈, hp⟩
        · skip
          refine WD_on rfl b₈ ?_
          refine WD_v (a_mv (v := .i .i64 x11) g₂_17) ?_
          refine WD_on rfl b₈ ?_
          refine WD_v (a_fa (r := r₂) (o := 0) (o' := 4) g₂_9 rfl) ?_
          refine WD_on rfl b₈ ?_
          refine WD_v (a_ldb (cs := [v₃, v₄, v₅, v₆, v₇, v₈]) (v := v₇) (hO₂₃.box 1 rfl) rfl rfl) ?_
          refine WD_on rfl b₈ ?_
          refine WD_v (a_mv (v := v₉) g₂_11) ?_
          refine WD_on rfl b₈ ?_
          obtain ⟨x15, hx₁₀, hp⟩ := bd_some hp
          obtain ⟨u₁₀, k₂₄, ca₁₀, rfl, hW₁₀⟩ := p_muntinref03_Cost.ok (h := (k₂₂.bump 16))  (hO₂₃.sl 8 rfl : Sl e_T_api_Arc (k₂₂.bump 16) v₇ x3.H) (hO₂₃.sl 10 rfl : Sl eInt (k₂₂.bump 16) v₉ a1) hx₁₀
          refine WD_c (id := 134) (caps := []) rfl (mp_cons (v := v₇) rfl (mp_cons (v := v₉) rfl mp_nil)) ca₁₀ ?_
          have fr₉ := fr₈.call hW₁₀
          have hO₂₄ : Own B h k₂₄ [eSl e_T_api_Cell v₁ x1, eBox r₂ [v₃, v₄, v₅, v₆, v₇, v₈], eSl eInt v₃ x3.Chains.X, eSl eInt v₄ x3.Chains.Y, eSl eV v₅ vs₁, eAll eInt vs₁ x3.Chains.Vert, eSl eV v₆ vs₂, eAll eInt vs₂ x3.Chains.Horz, eSl e_T_api_Arc v₇ x3.H, eSl e_T_api_Arc v₈ x3.V, eSl eInt v₉ a1, eSl eInt v₁₀ b1, eSl e_T_api_Point v₁₁ x9] := hO₂₃.call hW₁₀ rfl
          refine WD_on rfl b₈ ?_
          refine WD_v (a_fa (r := r₂) (o := 0) (o' := 5) g₂_9 rfl) ?_
          refine WD_on rfl b₈ ?_
          refine WD_v (a_ldb (cs := [v₃, v₄, v₅, v₆, v₇, v₈]) (v := v₈) (hO₂₄.box 1 rfl) rfl rfl) ?_
          refine WD_on rfl b₈ ?_
          refine WD_v (a_mv (v := v₁₀) g₂_12) ?_
          refine WD_on rfl b₈ ?_
          obtain ⟨x16, hx₁₁, hp⟩ := bd_some hp
          obtain ⟨u₁₁, k₂₅, ca₁₁, rfl, hW₁₁⟩ := p_muntinref03_Cost.ok (h := k₂₄)  (hO₂₄.sl 9 rfl : Sl e_T_api_Arc k₂₄ v₈ x3.V) (hO₂₄.sl 11 rfl : Sl eInt k₂₄ v₁₀ b1) hx₁₁
          refine WD_c (id := 134) (caps := []) rfl (mp_cons (v := v₈) rfl (mp_cons (v := v₁₀) rfl mp_nil)) ca₁₁ ?_
          have fr₁₀ := fr₉.call hW₁₁
          have hO₂₅ : Own B h k₂₅ [eSl e_T_api_Cell v₁ x1, eBox r₂ [v₃, v₄, v₅, v₆, v₇, v₈], eSl eInt v₃ x3.Chains.X, eSl eInt v₄ x3.Chains.Y, eSl eV v₅ vs₁, eAll eInt vs₁ x3.Chains.Vert, eSl eV v₆ vs₂, eAll eInt vs₂ x3.Chains.Horz, eSl e_T_api_Arc v₇ x3.H, eSl e_T_api_Arc v₈ x3.V, eSl eInt v₉ a1, eSl eInt v₁₀ b1, eSl e_T_api_Point v₁₁ x9] := hO₂₄.call hW₁₁ rfl
          refine WD_on rfl b₈ ?_
          obtain ⟨c₁₀, hp⟩ := ck_some hp
          refine WD_v (a_add (a := x15) (b := x16) rfl rfl c₁₀) ?_
          refine WD_on rfl b₈ ?_
          refine WD_v (a_eqI (a := x11) (b := (x15 + x16)) rfl rfl) ?_
          refine WD_v (a_pickT (t := (decide (x12 = 0))) (v := .b (decide (x11 = x15 + x16))) rfl b₈ rfl) ?_
          refine WD_v (a_mv (v := .b (decide (x11 = x15 + x16))) rfl) ?_
          refine WD_end ?_
          refine And.intro ?_ ?_
          · intro q hq
            simp only [List.mem_cons, List.not_mem_nil, or_false] at hq
            rcases hq with rfl | rfl
            · refine ap_ll ?_ ?_
              · exact (fun h => nomatch h)
              · exact (fun h => nomatch h)
            · refine ap_cl rfl ?_
              · exact (fun r hm hc => hc (hW₁₀.base r (Nat.lt_of_lt_of_le (hO₂₂.ltAt 1 rfl _ (tch (v := V.p r₂ 5) (ld_el hm) rfl)) (Nat.le_trans (Nat.le_add_right _ _) fr₈.n))))
          refine then_n ?_
          refine W_rt ?_
          refine Ret_r (rs_t (n := 6) (v := .b (decide (x11 = x15 + x16))) rfl rs_nil) ?_
          have hp := Option.some.inj hp; subst hp
          exact (And.intro rfl (hO₂₅.pick [] rfl (by decide)))
        · skip
          refine WD_off rfl b₈ ?_
          refine WD_off rfl b₈ ?_
          refine WD_off rfl b₈ ?_
          refine WD_off rfl b₈ ?_
          refine WD_off rfl b₈ ?_
          refine WD_off rfl b₈ ?_
          refine WD_off rfl b₈ ?_
          refine WD_off rfl b₈ ?_
          refine WD_off rfl b₈ ?_
          refine WD_off rfl b₈ ?_
          refine WD_off rfl b₈ ?_
          refine WD_v (a_pickF (t := (decide (x12 = 0))) (v := .b false) rfl b₈ rfl) ?_
          refine WD_v (a_mv (v := .b false) rfl) ?_
          refine WD_end ?_
          refine And.intro ?_ ?_
          · intro q hq
            simp only [List.mem_cons, List.not_mem_nil, or_false] at hq
            rcases hq with rfl | rfl
            · exact ap_n1
            · exact ap_n1
          refine then_n ?_
          refine W_rt ?_
          refine Ret_r (rs_t (n := 6) (v := .b false) rfl rs_nil) ?_
          have hp := Option.some.inj hp; subst hp
          exact (And.intro rfl (hO₂₃.pick [] rfl (by decide)))

end Mu
