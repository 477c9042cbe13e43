/- The code comes to what was worked out. -/
import Derived.Test.YteedifiifkghkaaMuDf
import Derived.Test.YteedifiifkghkaaMuPa
import Derived.Test.YteedifiifkghkaaMuC0
set_option linter.unusedVariables false
set_option linter.unnecessarySimpa false
set_option linter.unusedSimpArgs false
set_option maxHeartbeats 2000000
set_option maxRecDepth 10000
namespace Mu
open Go (IntKind BinOp UnOp)
theorem p_muntinref10_Join.ok {h : Hp} {l : List T_api_Cell} {v : Int} {d : Int} {w : Int} {o : Int} {v_l : V} (H : Own (Bm h [eSl e_T_api_Cell v_l l]) h h [eSl e_T_api_Cell v_l l]) {r : (List T_api_Cell) × Int} (hp : p_muntinref10_Join l v d w o = some r) :
    ∃ u k', Is G 53 [v_l, .i .i64 v, .i .i64 d, .i .i64 w, .i .i64 o] h u k' ∧ ∃ (v₁ : V), V.tu [v₁, .i .i64 r.2] = u ∧ Own (Bm h [eSl e_T_api_Cell v_l l]) h k' [eSl e_T_api_Cell v₁ r.1] := by
  refine WC.is (WC_of G_F_muntinref10_Join ?_)
  unfold p_muntinref10_Join at hp
  let B : Nat → Prop := (Bm h [eSl e_T_api_Cell v_l l])
  have hO : Own B h h [eSl e_T_api_Cell v_l l] := H
  refine W_sq ?_
  refine W_rg ?_
  refine WO_v (a_mv (v := .sn) rfl) ?_
  refine WO_v (a_mv (v := .i .i64 0) rfl) ?_
  refine WO_end ?_
  refine then_n ?_
  refine W_sq ?_
  refine W_sq ?_
  refine W_rg ?_
  refine WO_v (a_mv (v := .i .i64 v) rfl) ?_
  refine WO_v (a_lss (a := v) (b := 0) rfl rfl) ?_
  refine WO_v (a_mv (v := .b (decide (v < 0))) rfl) ?_
  refine WO_cut 5 (fun fr' k' => h = k' ∧ fr' 20 = .b ((decide (v < 0)) || (decide ((l.length : Int) ≤ v))) ∧ fr' 0 = v_l ∧ fr' 1 = .i .i64 v ∧ fr' 2 = .i .i64 d ∧ fr' 3 = .i .i64 w ∧ fr' 4 = .i .i64 o) ?_ ?_
  · rcases bc (decide (v < 0)) with b₁ | b₁
    · skip
      refine WO_off rfl b₁ ?_
      refine WO_off rfl b₁ ?_
      refine WO_off rfl b₁ ?_
      refine WO_off rfl b₁ ?_
      refine WO_v (a_pickT (t := (decide (v < 0))) (v := .b ((decide (v < 0)) || (decide ((l.length : Int) ≤ v)))) rfl b₁ (Eq.trans (b := V.b true) rfl (or_off b₁))) ?_
      refine WO_end ?_
      exact ⟨rfl, rfl, rfl, rfl, rfl, rfl, rfl⟩
    · skip
      refine WO_on rfl b₁ ?_
      refine WO_v (a_mv (v := .i .i64 v) rfl) ?_
      refine WO_on rfl b₁ ?_
      refine WO_v (a_mv (v := v_l) rfl) ?_
      refine WO_on rfl b₁ ?_
      refine WO_v (a_len (hO.sl 0 rfl : Sl e_T_api_Cell h v_l l) rfl) ?_
      refine WO_on rfl b₁ ?_
      refine WO_v (a_geq (a := v) (b := (l.length : Int)) rfl rfl) ?_
      refine WO_v (a_pickF (t := (decide (v < 0))) (v := .b ((decide (v < 0)) || (decide ((l.length : Int) ≤ v)))) rfl b₁ (Eq.trans (b := V.b (decide ((l.length : Int) ≤ v))) rfl (or_on b₁))) ?_
      refine WO_end ?_
      exact ⟨rfl, rfl, rfl, rfl, rfl, rfl, rfl⟩
  rintro frg₁ _ ⟨rfl, g₁_20, g₁_0, g₁_1, g₁_2, g₁_3, g₁_4⟩
  refine WO_v (a_mv (v := .b ((decide (v < 0)) || (decide ((l.length : Int) ≤ v)))) g₁_20) ?_
  refine WO_cut 3 (fun fr' k' => h = k' ∧ fr' 24 = .b (((decide (v < 0)) || (decide ((l.length : Int) ≤ v))) || (decide (w < 0))) ∧ fr' 0 = v_l ∧ fr' 1 = .i .i64 v ∧ fr' 2 = .i .i64 d ∧ fr' 3 = .i .i64 w ∧ fr' 4 = .i .i64 o) ?_ ?_
  · rcases bc ((decide (v < 0)) || (decide ((l.length : Int) ≤ v))) with b₂ | b₂
    · skip
      refine WO_off rfl b₂ ?_
      refine WO_off rfl b₂ ?_
      refine WO_v (a_pickT (t := ((decide (v < 0)) || (decide ((l.length : Int) ≤ v)))) (v := .b (((decide (v < 0)) || (decide ((l.length : Int) ≤ v))) || (decide (w < 0)))) rfl b₂ (Eq.trans (b := V.b true) rfl (or_off b₂))) ?_
      refine WO_end ?_
      exact ⟨rfl, rfl, g₁_0, g₁_1, g₁_2, g₁_3, g₁_4⟩
    · skip
      refine WO_on rfl b₂ ?_
      refine WO_v (a_mv (v := .i .i64 w) g₁_3) ?_
      refine WO_on rfl b₂ ?_
      refine WO_v (a_lss (a := w) (b := 0) rfl rfl) ?_
      refine WO_v (a_pickF (t := ((decide (v < 0)) || (decide ((l.length : Int) ≤ v)))) (v := .b (((decide (v < 0)) || (decide ((l.length : Int) ≤ v))) || (decide (w < 0)))) rfl b₂ (Eq.trans (b := V.b (decide (w < 0))) rfl (or_on b₂))) ?_
      refine WO_end ?_
      exact ⟨rfl, rfl, g₁_0, g₁_1, g₁_2, g₁_3, g₁_4⟩
  rintro frg₂ _ ⟨rfl, g₂_24, g₂_0, g₂_1, g₂_2, g₂_3, g₂_4⟩
  refine WO_v (a_mv (v := .b (((decide (v < 0)) || (decide ((l.length : Int) ≤ v))) || (decide (w < 0)))) g₂_24) ?_
  refine WO_cut 5 (fun fr' k' => h = k' ∧ fr' 30 = .b ((((decide (v < 0)) || (decide ((l.length : Int) ≤ v))) || (decide (w < 0))) || (decide ((l.length : Int) ≤ w))) ∧ fr' 0 = v_l ∧ fr' 1 = .i .i64 v ∧ fr' 2 = .i .i64 d ∧ fr' 3 = .i .i64 w ∧ fr' 4 = .i .i64 o) ?_ ?_
  · rcases bc (((decide (v < 0)) || (decide ((l.length : Int) ≤ v))) || (decide (w < 0))) with b₃ | b₃
    · skip
      refine WO_off rfl b₃ ?_
      refine WO_off rfl b₃ ?_
      refine WO_off rfl b₃ ?_
      refine WO_off rfl b₃ ?_
      refine WO_v (a_pickT (t := (((decide (v < 0)) || (decide ((l.length : Int) ≤ v))) || (decide (w < 0)))) (v := .b ((((decide (v < 0)) || (decide ((l.length : Int) ≤ v))) || (decide (w < 0))) || (decide ((l.length : Int) ≤ w)))) rfl b₃ (Eq.trans (b := V.b true) rfl (or_off b₃))) ?_
      refine WO_end ?_
      exact ⟨rfl, rfl, g₂_0, g₂_1, g₂_2, g₂_3, g₂_4⟩
    · skip
      refine WO_on rfl b₃ ?_
      refine WO_v (a_mv (v := .i .i64 w) g₂_3) ?_
      refine WO_on rfl b₃ ?_
      refine WO_v (a_mv (v := v_l) g₂_0) ?_
      refine WO_on rfl b₃ ?_
      refine WO_v (a_len (hO.sl 0 rfl : Sl e_T_api_Cell h v_l l) rfl) ?_
      refine WO_on rfl b₃ ?_
      refine WO_v (a_geq (a := w) (b := (l.length : Int)) rfl rfl) ?_
      refine WO_v (a_pickF (t := (((decide (v < 0)) || (decide ((l.length : Int) ≤ v))) || (decide (w < 0)))) (v := .b ((((decide (v < 0)) || (decide ((l.length : Int) ≤ v))) || (decide (w < 0))) || (decide ((l.length : Int) ≤ w)))) rfl b₃ (Eq.trans (b := V.b (decide ((l.length : Int) ≤ w))) rfl (or_on b₃))) ?_
      refine WO_end ?_
      exact ⟨rfl, rfl, g₂_0, g₂_1, g₂_2, g₂_3, g₂_4⟩
  rintro frg₃ _ ⟨rfl, g₃_30, g₃_0, g₃_1, g₃_2, g₃_3, g₃_4⟩
  refine WO_v (a_mv (v := .b ((((decide (v < 0)) || (decide ((l.length : Int) ≤ v))) || (decide (w < 0))) || (decide ((l.length : Int) ≤ w)))) g₃_30) ?_
  refine WO_cut 4 (fun fr' k' => h = k' ∧ fr' 35 = .b (((((decide (v < 0)) || (decide ((l.length : Int) ≤ v))) || (decide (w < 0))) || (decide ((l.length : Int) ≤ w))) || (decide (v = w))) ∧ fr' 0 = v_l ∧ fr' 1 = .i .i64 v ∧ fr' 2 = .i .i64 d ∧ fr' 3 = .i .i64 w ∧ fr' 4 = .i .i64 o) ?_ ?_
  · rcases bc ((((decide (v < 0)) || (decide ((l.length : Int) ≤ v))) || (decide (w < 0))) || (decide ((l.length : Int) ≤ w))) with b₄ | b₄
    · skip
      refine WO_off rfl b₄ ?_
      refine WO_off rfl b₄ ?_
      refine WO_off rfl b₄ ?_
      refine WO_v (a_pickT (t := ((((decide (v < 0)) || (decide ((l.length : Int) ≤ v))) || (decide (w < 0))) || (decide ((l.length : Int) ≤ w)))) (v := .b (((((decide (v < 0)) || (decide ((l.length : Int) ≤ v))) || (decide (w < 0))) || (decide ((l.length : Int) ≤ w))) || (decide (v = w)))) rfl b₄ (Eq.trans (b := V.b true) rfl (or_off b₄))) ?_
      refine WO_end ?_
      exact ⟨rfl, rfl, g₃_0, g₃_1, g₃_2, g₃_3, g₃_4⟩
    · skip
      refine WO_on rfl b₄ ?_
      refine WO_v (a_mv (v := .i .i64 v) g₃_1) ?_
      refine WO_on rfl b₄ ?_
      refine WO_v (a_mv (v := .i .i64 w) g₃_3) ?_
      refine WO_on rfl b₄ ?_
      refine WO_v (a_eqI (a := v) (b := w) rfl rfl) ?_
      refine WO_v (a_pickF (t := ((((decide (v < 0)) || (decide ((l.length : Int) ≤ v))) || (decide (w < 0))) || (decide ((l.length : Int) ≤ w)))) (v := .b (((((decide (v < 0)) || (decide ((l.length : Int) ≤ v))) || (decide (w < 0))) || (decide ((l.length : Int) ≤ w))) || (decide (v = w)))) rfl b₄ (Eq.trans (b := V.b (decide (v = w))) rfl (or_on b₄))) ?_
      refine WO_end ?_
      exact ⟨rfl, rfl, g₃_0, g₃_1, g₃_2, g₃_3, g₃_4⟩
  rintro frg₄ _ ⟨rfl, g₄_35, g₄_0, g₄_1, g₄_2, g₄_3, g₄_4⟩
  refine WO_v (a_mv (v := .b (((((decide (v < 0)) || (decide ((l.length : Int) ≤ v))) || (decide (w < 0))) || (decide ((l.length : Int) ≤ w))) || (decide (v = w)))) g₄_35) ?_
  refine WO_cut 3 (fun fr' k' => h = k' ∧ fr' 39 = .b ((((((decide (v < 0)) || (decide ((l.length : Int) ≤ v))) || (decide (w < 0))) || (decide ((l.length : Int) ≤ w))) || (decide (v = w))) || (decide (d < 0))) ∧ fr' 0 = v_l ∧ fr' 1 = .i .i64 v ∧ fr' 2 = .i .i64 d ∧ fr' 3 = .i .i64 w ∧ fr' 4 = .i .i64 o) ?_ ?_
  · rcases bc (((((decide (v < 0)) || (decide ((l.length : Int) ≤ v))) || (decide (w < 0))) || (decide ((l.length : Int) ≤ w))) || (decide (v = w))) with b₅ | b₅
    · skip
      refine WO_off rfl b₅ ?_
      refine WO_off rfl b₅ ?_
      refine WO_v (a_pickT (t := (((((decide (v < 0)) || (decide ((l.length : Int) ≤ v))) || (decide (w < 0))) || (decide ((l.length : Int) ≤ w))) || (decide (v = w)))) (v := .b ((((((decide (v < 0)) || (decide ((l.length : Int) ≤ v))) || (decide (w < 0))) || (decide ((l.length : Int) ≤ w))) || (decide (v = w))) || (decide (d < 0)))) rfl b₅ (Eq.trans (b := V.b true) rfl (or_off b₅))) ?_
      refine WO_end ?_
      exact ⟨rfl, rfl, g₄_0, g₄_1, g₄_2, g₄_3, g₄_4⟩
    · skip
      refine WO_on rfl b₅ ?_
      refine WO_v (a_mv (v := .i .i64 d) g₄_2) ?_
      refine WO_on rfl b₅ ?_
      refine WO_v (a_lss (a := d) (b := 0) rfl rfl) ?_
      refine WO_v (a_pickF (t := (((((decide (v < 0)) || (decide ((l.length : Int) ≤ v))) || (decide (w < 0))) || (decide ((l.length : Int) ≤ w))) || (decide (v = w)))) (v := .b ((((((decide (v < 0)) || (decide ((l.length : Int) ≤ v))) || (decide (w < 0))) || (decide ((l.length : Int) ≤ w))) || (decide (v = w))) || (decide (d < 0)))) rfl b₅ (Eq.trans (b := V.b (decide (d < 0))) rfl (or_on b₅))) ?_
      refine WO_end ?_
      exact ⟨rfl, rfl, g₄_0, g₄_1, g₄_2, g₄_3, g₄_4⟩
  rintro frg₅ _ ⟨rfl, g₅_39, g₅_0, g₅_1, g₅_2, g₅_3, g₅_4⟩
  refine WO_v (a_mv (v := .b ((((((decide (v < 0)) || (decide ((l.length : Int) ≤ v))) || (decide (w < 0))) || (decide ((l.length : Int) ≤ w))) || (decide (v = w))) || (decide (d < 0)))) g₅_39) ?_
  refine WO_cut 3 (fun fr' k' => h = k' ∧ fr' 43 = .b (((((((decide (v < 0)) || (decide ((l.length : Int) ≤ v))) || (decide (w < 0))) || (decide ((l.length : Int) ≤ w))) || (decide (v = w))) || (decide (d < 0))) || (decide (3 < d))) ∧ fr' 0 = v_l ∧ fr' 1 = .i .i64 v ∧ fr' 2 = .i .i64 d ∧ fr' 3 = .i .i64 w ∧ fr' 4 = .i .i64 o) ?_ ?_
  · rcases bc ((((((decide (v < 0)) || (decide ((l.length : Int) ≤ v))) || (decide (w < 0))) || (decide ((l.length : Int) ≤ w))) || (decide (v = w))) || (decide (d < 0))) with b₆ | b₆
    · skip
      refine WO_off rfl b₆ ?_
      refine WO_off rfl b₆ ?_
      refine WO_v (a_pickT (t := ((((((decide (v < 0)) || (decide ((l.length : Int) ≤ v))) || (decide (w < 0))) || (decide ((l.length : Int) ≤ w))) || (decide (v = w))) || (decide (d < 0)))) (v := .b (((((((decide (v < 0)) || (decide ((l.length : Int) ≤ v))) || (decide (w < 0))) || (decide ((l.length : Int) ≤ w))) || (decide (v = w))) || (decide (d < 0))) || (decide (3 < d)))) rfl b₆ (Eq.trans (b := V.b true) rfl (or_off b₆))) ?_
      refine WO_end ?_
      exact ⟨rfl, rfl, g₅_0, g₅_1, g₅_2, g₅_3, g₅_4⟩
    · skip
      refine WO_on rfl b₆ ?_
      refine WO_v (a_mv (v := .i .i64 d) g₅_2) ?_
      refine WO_on rfl b₆ ?_
      refine WO_v (a_gtr (a := d) (b := 3) rfl rfl) ?_
      refine WO_v (a_pickF (t := ((((((decide (v < 0)) || (decide ((l.length : Int) ≤ v))) || (decide (w < 0))) || (decide ((l.length : Int) ≤ w))) || (decide (v = w))) || (decide (d < 0)))) (v := .b (((((((decide (v < 0)) || (decide ((l.length : Int) ≤ v))) || (decide (w < 0))) || (decide ((l.length : Int) ≤ w))) || (decide (v = w))) || (decide (d < 0))) || (decide (3 < d)))) rfl b₆ (Eq.trans (b := V.b (decide (3 < d))) rfl (or_on b₆))) ?_
      refine WO_end ?_
      exact ⟨rfl, rfl, g₅_0, g₅_1, g₅_2, g₅_3, g₅_4⟩
  rintro frg₆ _ ⟨rfl, g₆_43, g₆_0, g₆_1, g₆_2, g₆_3, g₆_4⟩
  refine WO_v (a_mv (v := .b (((((((decide (v < 0)) || (decide ((l.length : Int) ≤ v))) || (decide (w < 0))) || (decide ((l.length : Int) ≤ w))) || (decide (v = w))) || (decide (d < 0))) || (decide (3 < d)))) g₆_43) ?_
  refine WO_cut 3 (fun fr' k' => h = k' ∧ fr' 47 = .b ((((((((decide (v < 0)) || (decide ((l.length : Int) ≤ v))) || (decide (w < 0))) || (decide ((l.length : Int) ≤ w))) || (decide (v = w))) || (decide (d < 0))) || (decide (3 < d))) || (decide (o < (-2)))) ∧ fr' 0 = v_l ∧ fr' 1 = .i .i64 v ∧ fr' 2 = .i .i64 d ∧ fr' 3 = .i .i64 w ∧ fr' 4 = .i .i64 o) ?_ ?_
  · rcases bc (((((((decide (v < 0)) || (decide ((l.length : Int) ≤ v))) || (decide (w < 0))) || (decide ((l.length : Int) ≤ w))) || (decide (v = w))) || (decide (d < 0))) || (decide (3 < d))) with b₇ | b₇
    · skip
      refine WO_off rfl b₇ ?_
      refine WO_off rfl b₇ ?_
      refine WO_v (a_pickT (t := (((((((decide (v < 0)) || (decide ((l.length : Int) ≤ v))) || (decide (w < 0))) || (decide ((l.length : Int) ≤ w))) || (decide (v = w))) || (decide (d < 0))) || (decide (3 < d)))) (v := .b ((((((((decide (v < 0)) || (decide ((l.length : Int) ≤ v))) || (decide (w < 0))) || (decide ((l.length : Int) ≤ w))) || (decide (v = w))) || (decide (d < 0))) || (decide (3 < d))) || (decide (o < (-2))))) rfl b₇ (Eq.trans (b := V.b true) rfl (or_off b₇))) ?_
      refine WO_end ?_
      exact ⟨rfl, rfl, g₆_0, g₆_1, g₆_2, g₆_3, g₆_4⟩
    · skip
      refine WO_on rfl b₇ ?_
      refine WO_v (a_mv (v := .i .i64 o) g₆_4) ?_
      refine WO_on rfl b₇ ?_
      refine WO_v (a_lss (a := o) (b := (-2)) rfl rfl) ?_
      refine WO_v (a_pickF (t := (((((((decide (v < 0)) || (decide ((l.length : Int) ≤ v))) || (decide (w < 0))) || (decide ((l.length : Int) ≤ w))) || (decide (v = w))) || (decide (d < 0))) || (decide (3 < d)))) (v := .b ((((((((decide (v < 0)) || (decide ((l.length : Int) ≤ v))) || (decide (w < 0))) || (decide ((l.length : Int) ≤ w))) || (decide (v = w))) || (decide (d < 0))) || (decide (3 < d))) || (decide (o < (-2))))) rfl b₇ (Eq.trans (b := V.b (decide (o < (-2)))) rfl (or_on b₇))) ?_
      refine WO_end ?_
      exact ⟨rfl, rfl, g₆_0, g₆_1, g₆_2, g₆_3, g₆_4⟩
  rintro frg₇ _ ⟨rfl, g₇_47, g₇_0, g₇_1, g₇_2, g₇_3, g₇_4⟩
  refine WO_end ?_
  refine then_n ?_
  rcases if_some hp with ⟨b₈, hp⟩ | ⟨b₈, hp⟩
  · refine W_cT (t := ((((((((decide (v < 0)) || (decide ((l.length : Int) ≤ v))) || (decide (w < 0))) || (decide ((l.length : Int) ≤ w))) || (decide (v = w))) || (decide (d < 0))) || (decide (3 < d))) || (decide (o < (-2))))) g₇_47 b₈ ?_
    refine W_sq ?_
    refine W_rg ?_
    refine WO_v (a_mv (v := v_l) g₇_0) ?_
    refine WO_v (a_mv (v := v_l) rfl) ?_
    refine WO_v (a_mv (v := .i .i64 2) rfl) ?_
    refine WO_end ?_
    refine then_n ?_
    refine W_rt ?_
    refine then_r ?_
    refine Ret_r (rs_t (n := 10) (v := v_l) rfl (rs_t (n := 11) (v := .i .i64 2) rfl rs_nil)) ?_
    have hp := Option.some.inj hp; subst hp
    exact (Exists.intro v_l (And.intro rfl (hO.pick [0] rfl (by decide))))
  · refine W_cF (t := ((((((((decide (v < 0)) || (decide ((l.length : Int) ≤ v))) || (decide (w < 0))) || (decide ((l.length : Int) ≤ w))) || (decide (v = w))) || (decide (d < 0))) || (decide (3 < d))) || (decide (o < (-2))))) g₇_47 b₈ ?_
    refine W_sk ?_
    refine then_n ?_
    refine W_sq ?_
    refine W_sq ?_
    refine W_rg ?_
    refine WO_v (a_mv (v := v_l) g₇_0) ?_
    refine WO_v (a_mv (v := .i .i64 v) g₇_1) ?_
    refine WO_v (a_mv (v := .i .i64 d) g₇_2) ?_
    obtain ⟨c₁, hp⟩ := ck_some hp
    refine WO_v (a_ixa (E := e_T_api_Cell) (z := v) (hO.sl 0 rfl : Sl e_T_api_Cell h v_l l) rfl rfl c₁) ?_
    refine WO_v (a_faE (off' := 0) (off2 := 0) (hO.sl 0 rfl : Sl e_T_api_Cell h v_l l) (toNat_lt c₁) rfl rfl) ?_
    obtain ⟨c₂, hp⟩ := ck_some hp
    refine WO_v (a_ixaaE (off := 0) (off2 := (0 + (d : Int).toNat * 1)) (z := d) (hO.sl 0 rfl : Sl e_T_api_Cell h v_l l) (toNat_lt c₁) rfl rfl c₂ rfl) ?_
    refine WO_v (a_ldE (w := .i .i64 (((gi l (v : Int).toNat).Next).get d)) (hO.sl 0 rfl : Sl e_T_api_Cell h v_l l) rfl (toNat_lt c₁) (ld_T_api_Cell_Next c₂)) ?_
    refine WO_v (a_neI (a := (((gi l (v : Int).toNat).Next).get d)) (b := (-1)) rfl rfl) ?_
    refine WO_v (a_mv (v := .b (!(decide (((gi l (v : Int).toNat).Next).get d = (-1))))) rfl) ?_
    obtain ⟨t, hv₁, hp⟩ := bd_some hp
    refine WO_cut 11 (fun fr' k' => h = k' ∧ fr' 68 = .b t ∧ fr' 0 = v_l ∧ fr' 1 = .i .i64 v ∧ fr' 2 = .i .i64 d ∧ fr' 3 = .i .i64 w ∧ fr' 4 = .i .i64 o) ?_ ?_
    · clear hp; rcases if_some hv₁ with ⟨b₉, hp⟩ | ⟨b₉, hp⟩
      · skip
        refine WO_off rfl b₉ ?_
        refine WO_off rfl b₉ ?_
        refine WO_off rfl b₉ ?_
        refine WO_off rfl b₉ ?_
        refine WO_off rfl b₉ ?_
        refine WO_off rfl b₉ ?_
        refine WO_off rfl b₉ ?_
        refine WO_off rfl b₉ ?_
        refine WO_off rfl b₉ ?_
        refine WO_off rfl b₉ ?_
        refine WO_v (a_pickT (t := (!(decide (((gi l (v : Int).toNat).Next).get d = (-1))))) (v := .b t) rfl b₉ (Eq.trans (b := V.b true) rfl (congrArg V.b (Option.some.inj hp)))) ?_
        refine WO_end ?_
        exact ⟨rfl, rfl, g₇_0, g₇_1, g₇_2, g₇_3, g₇_4⟩
      · skip
        refine WO_on rfl b₉ ?_
        refine WO_v (a_mv (v := v_l) g₇_0) ?_
        refine WO_on rfl b₉ ?_
        refine WO_v (a_mv (v := .i .i64 w) g₇_3) ?_
        refine WO_on rfl b₉ ?_
        refine WO_v (a_mv (v := .i .i64 d) g₇_2) ?_
        refine WO_on rfl b₉ ?_
        obtain ⟨c₃, hp⟩ := ck_some hp
        refine WO_v (a_add (a := d) (b := 2) rfl rfl c₃) ?_
        refine WO_on rfl b₉ ?_
        refine WO_v (a_rem (a := (d + 2)) (b := 4) rfl rfl (by decide)) ?_
        refine WO_on rfl b₉ ?_
        obtain ⟨c₄, hp⟩ := ck_some hp
        refine WO_v (a_ixa (E := e_T_api_Cell) (z := w) (hO.sl 0 rfl : Sl e_T_api_Cell h v_l l) rfl rfl c₄) ?_
        refine WO_on rfl b₉ ?_
        refine WO_v (a_faE (off' := 0) (off2 := 0) (hO.sl 0 rfl : Sl e_T_api_Cell h v_l l) (toNat_lt c₄) rfl rfl) ?_
        refine WO_on rfl b₉ ?_
        obtain ⟨c₅, hp⟩ := ck_some hp
        refine WO_v (a_ixaaE (off := 0) (off2 := (0 + ((d + 2).tmod 4 : Int).toNat * 1)) (z := ((d + 2).tmod 4)) (hO.sl 0 rfl : Sl e_T_api_Cell h v_l l) (toNat_lt c₄) rfl rfl c₅ rfl) ?_
        refine WO_on rfl b₉ ?_
        refine WO_v (a_ldE (w := .i .i64 (((gi l (w : Int).toNat).Next).get ((d + 2).tmod 4))) (hO.sl 0 rfl : Sl e_T_api_Cell h v_l l) rfl (toNat_lt c₄) (ld_T_api_Cell_Next c₅)) ?_
        refine WO_on rfl b₉ ?_
        refine WO_v (a_neI (a := (((gi l (w : Int).toNat).Next).get ((d + 2).tmod 4))) (b := (-1)) rfl rfl) ?_
        refine WO_v (a_pickF (t := (!(decide (((gi l (v : Int).toNat).Next).get d = (-1))))) (v := .b t) rfl b₉ (Eq.trans (b := V.b (!(decide (((gi l (w : Int).toNat).Next).get ((d + 2).tmod 4) = (-1))))) rfl (congrArg V.b (Option.some.inj hp)))) ?_
        refine WO_end ?_
        exact ⟨rfl, rfl, g₇_0, g₇_1, g₇_2, g₇_3, g₇_4⟩
    rintro frg₈ _ ⟨rfl, g₈_68, g₈_0, g₈_1, g₈_2, g₈_3, g₈_4⟩
    refine WO_end ?_
    refine then_n ?_
    rcases if_some hp with ⟨b₁₀, hp⟩ | ⟨b₁₀, hp⟩
    · refine W_cT (t := t) g₈_68 b₁₀ ?_
      refine W_sq ?_
      refine W_rg ?_
      refine WO_v (a_mv (v := v_l) g₈_0) ?_
      refine WO_v (a_mv (v := v_l) rfl) ?_
      refine WO_v (a_mv (v := .i .i64 9) rfl) ?_
      refine WO_end ?_
      refine then_n ?_
      refine W_rt ?_
      refine then_r ?_
      refine Ret_r (rs_t (n := 10) (v := v_l) rfl (rs_t (n := 11) (v := .i .i64 9) rfl rs_nil)) ?_
      have hp := Option.some.inj hp; subst hp
      exact (Exists.intro v_l (And.intro rfl (hO.pick [0] rfl (by decide))))
    · refine W_cF (t := t) g₈_68 b₁₀ ?_
      refine W_sk ?_
      refine then_n ?_
      refine W_sq ?_
      refine W_rg ?_
      refine WO_v (a_mv (v := v_l) g₈_0) ?_
      refine WO_v (a_mv (v := .i .i64 v) g₈_1) ?_
      refine WO_v (a_mv (v := .i .i64 d) g₈_2) ?_
      refine WO_v (a_mv (v := .i .i64 w) g₈_3) ?_
      refine WO_v (a_mv (v := .i .i64 o) g₈_4) ?_
      obtain ⟨x, hx₁, hp⟩ := bd_some hp
      obtain ⟨u₁, k₁, ca₁, v₂, rfl, hW₁⟩ := p_muntinref10_with.ok (h := h)  (hO.sl 0 rfl : Sl e_T_api_Cell h v_l l) hx₁
      refine WO_c (id := 65) (caps := []) rfl (mp_cons (v := v_l) rfl (mp_cons (v := .i .i64 v) rfl (mp_cons (v := .i .i64 d) rfl (mp_cons (v := .i .i64 w) rfl (mp_cons (v := .i .i64 o) rfl mp_nil))))) ca₁ ?_
      have hO₁ : Own B h k₁ [eSl e_T_api_Cell v_l l, eSl e_T_api_Cell v₂ x] := hO.call hW₁ rfl
      refine WO_v (a_mv (v := v₂) rfl) ?_
      refine WO_end ?_
      refine then_n ?_
      refine W_sq ?_
      refine W_rg ?_
      refine WO_v (a_mv (v := v₂) rfl) ?_
      refine WO_v (a_mv (v := v₂) rfl) ?_
      refine WO_v (a_mv (v := .i .i64 0) rfl) ?_
      refine WO_end ?_
      refine then_n ?_
      refine W_rt ?_
      refine Ret_r (rs_t (n := 10) (v := v₂) rfl (rs_t (n := 11) (v := .i .i64 0) rfl rs_nil)) ?_
      have hp := Option.some.inj hp; subst hp
      exact (Exists.intro v₂ (And.intro rfl (hO₁.pick [1] rfl (by decide))))

theorem p_grid_Grid_Cells.ok {h : Hp} {g : T_grid_Grid} {r_g : Nat} {v_g_cells : V} {w_g : Bool} (b_g : h.m r_g = some (.cells w_g [v_g_cells])) (s_g_cells : Sl e_T_api_Cell h v_g_cells g.cells) {r : (List T_api_Cell)} (hp : p_grid_Grid_Cells g = some r) :
    ∃ u k', Is G 57 [.p r_g 0] h u k' ∧ ∃ (v₁ : V), v₁ = u ∧ Own (fun r => r < h.n) h k' [eSl e_T_api_Cell v₁ r] := by
  refine WC.is (WC_of G_F_grid_Grid_Cells ?_)
  unfold p_grid_Grid_Cells at hp
  let B : Nat → Prop := (fun r => r < h.n)
  have hO : Own B h h [] := Own.start0 h
  refine W_sq ?_
  refine W_rg ?_
  refine WO_v (a_mv (v := .sn) rfl) ?_
  refine WO_end ?_
  refine then_n ?_
  refine W_sq ?_
  refine W_sq ?_
  refine W_rg ?_
  refine WO_v (a_mv (v := .p r_g 0) rfl) ?_
  refine WO_v (a_eqP rfl rfl) ?_
  refine WO_end ?_
  refine then_n ?_
  refine W_cF (t := false) rfl rfl ?_
  refine W_sk ?_
  refine then_n ?_
  refine W_sq ?_
  refine W_rg ?_
  refine WO_v (a_mv (v := .p r_g 0) rfl) ?_
  refine WO_v (a_nilp (r := r_g) (o := 0) rfl) ?_
  refine WO_v (a_fa (r := r_g) (o := 0) (o' := 0) rfl rfl) ?_
  refine WO_v (a_ldb (cs := [v_g_cells]) (v := v_g_cells) (hO.rdB0 (RdB.of b_g)).choose_spec rfl rfl) ?_
  obtain ⟨x, hx₁, hp⟩ := bd_some hp
  obtain ⟨u₁, k₁, ca₁, v₂, rfl, hW₁⟩ := p_slices_Clone_api_Cell.ok (h := h)  (hO.rd0 s_g_cells.rd : Sl e_T_api_Cell h v_g_cells g.cells) hx₁
  refine WO_c (id := 51) (caps := []) rfl (mp_cons (v := v_g_cells) rfl mp_nil) ca₁ ?_
  have hO₁ : Own B h k₁ [eSl e_T_api_Cell v₂ x] := hO.call hW₁ rfl
  refine WO_v (a_mv (v := v₂) rfl) ?_
  refine WO_end ?_
  refine then_n ?_
  refine W_rt ?_
  refine Ret_r (rs_t (n := 2) (v := v₂) rfl rs_nil) ?_
  have hp := Option.some.inj hp; subst hp
  exact (Exists.intro v₂ (And.intro rfl (hO₁.pick [0] rfl (by decide))))

theorem p_muntinref10_Same.ok {h : Hp} {a : List T_api_Cell} {b : List T_api_Cell} {v_a : V} {v_b : V} (s_a : Sl e_T_api_Cell h v_a a) (s_b : Sl e_T_api_Cell h v_b b) {r : Bool} (hp : p_muntinref10_Same a b = some r) :
    ∃ u k', Is G 56 [v_a, v_b] h u k' ∧ V.b r = u ∧ Own (fun r => r < h.n) h k' [] := by
  refine WC.is (WC_of G_F_muntinref10_Same ?_)
  unfold p_muntinref10_Same at hp
  let B : Nat → Prop := (fun r => r < h.n)
  have hO : Own B h h [] := Own.start0 h
  refine W_sq ?_
  refine W_rg ?_
  refine WO_v (a_mv (v := .b false) rfl) ?_
  refine WO_end ?_
  refine then_n ?_
  refine W_sq ?_
  refine W_sq ?_
  refine W_rg ?_
  refine WO_v (a_mv (v := v_a) rfl) ?_
  refine WO_v (a_len (hO.rd0 s_a.rd : Sl e_T_api_Cell h v_a a) rfl) ?_
  refine WO_v (a_mv (v := v_b) rfl) ?_
  refine WO_v (a_len (hO.rd0 s_b.rd : Sl e_T_api_Cell h v_b b) rfl) ?_
  refine WO_v (a_neI (a := (a.length : Int)) (b := (b.length : Int)) rfl rfl) ?_
  refine WO_end ?_
  refine then_n ?_
  rcases if_some hp with ⟨b₁, hp⟩ | ⟨b₁, hp⟩
  · refine W_cT (t := (!(decide ((a.length : Int) = (b.length : Int))))) rfl b₁ ?_
    refine W_sq ?_
    refine W_rg ?_
    refine WO_v (a_mv (v := .b false) rfl) ?_
    refine WO_end ?_
    refine then_n ?_
    refine W_rt ?_
    refine then_r ?_
    refine Ret_r (rs_t (n := 4) (v := .b false) rfl rs_nil) ?_
    have hp := Option.some.inj hp; subst hp
    exact (And.intro rfl (hO.pick [] rfl (by decide)))
  · refine W_cF (t := (!(decide ((a.length : Int) = (b.length : Int))))) rfl b₁ ?_
    refine W_sk ?_
    refine then_n ?_
    refine W_sq ?_
    refine W_sq ?_
    refine W_rg ?_
    refine WO_v (a_mv (v := .i .i64 0) rfl) ?_
    refine WO_end ?_
    refine then_n ?_
    refine W_bl ?_
    obtain ⟨o₁, ho₁, hp⟩ := bd_some hp
    refine W.mono (Q := fun e fr k => match (generalizing := false) o₁ with
        | .inl _ => e = (.exit 0) ∧ Own B h k []
        | .inr _ => e = .ret ∧ fr 4 = .b false ∧ Own B h k []) ?_ ?_
    · clear hp
      refine W_loopF (fun st fr k => match st with | i => fr 0 = v_a ∧ fr 1 = v_b ∧ fr 5 = .i .i64 i ∧ Own B h k []) ho₁ (s := 0) (And.intro (rfl) (And.intro (rfl) (And.intro (rfl) (hO.pick [] rfl (by decide))))) ?_
      rintro i q₂ k₂ ⟨q₂_0, q₂_1, q₂_5, hO₂⟩ o₂ hp
      dsimp only [p_muntinref10_Same.s0] at hp
      refine W_sq ?_
      refine W_sq ?_
      refine W_rg ?_
      refine WO_v (a_mv (v := .i .i64 i) q₂_5) ?_
      refine WO_v (a_mv (v := v_a) q₂_0) ?_
      refine WO_v (a_len (hO₂.rd0 s_a.rd : Sl e_T_api_Cell k₂ v_a a) rfl) ?_
      refine WO_v (a_lss (a := i) (b := (a.length : Int)) rfl rfl) ?_
      refine WO_end ?_
      refine then_n ?_
      rcases if_some hp with ⟨b₂, hp⟩ | ⟨b₂, hp⟩
      · refine W_cT (t := (decide (i < (a.length : Int)))) rfl b₂ ?_
        refine W_sk ?_
        refine then_n ?_
        refine W_sq ?_
        refine W_bl ?_
        refine W_sq ?_
        refine W_qd ?_
        have hW := hO₂.bump 9
        have hO₃ : Own B h (k₂.bump 9) [] := hW
        refine WQ_v rfl (a_mv (v := v_a) q₂_0) ?_
        refine WQ_v rfl (a_mv (v := .i .i64 i) q₂_5) ?_
        obtain ⟨c₁, hp⟩ := ck_some hp
        refine WQ_v rfl (a_ixa (E := e_T_api_Cell) (z := i) (hO₃.rd0 s_a.rd : Sl e_T_api_Cell (k₂.bump 9) v_a a) rfl rfl c₁) ?_
        refine WQ_v rfl (a_ldA (E := e_T_api_Cell) (hO₃.rd0 s_a.rd : Sl e_T_api_Cell (k₂.bump 9) v_a a) rfl (toNat_lt c₁)) ?_
        refine WQ_v rfl (a_mv (v := v_b) q₂_1) ?_
        refine WQ_v rfl (a_mv (v := .i .i64 i) q₂_5) ?_
        obtain ⟨c₂, hp⟩ := ck_some hp
        refine WQ_v rfl (a_ixa (E := e_T_api_Cell) (z := i) (hO₃.rd0 s_b.rd : Sl e_T_api_Cell (k₂.bump 9) v_b b) rfl rfl c₂) ?_
        refine WQ_v rfl (a_ldA (E := e_T_api_Cell) (hO₃.rd0 s_b.rd : Sl e_T_api_Cell (k₂.bump 9) v_b b) rfl (toNat_lt c₂)) ?_
        refine WQ_v rfl (a_neA (as := e_T_api_Cell.c (gi a (i : Int).toNat)) (bs := e_T_api_Cell.c (gi b (i : Int).toNat)) rfl rfl (Mu.e_T_api_Cell.same _ _)) ?_
        refine WQ_end ?_
        refine then_n ?_
        rcases if_some hp with ⟨b₃, hp⟩ | ⟨b₃, hp⟩
        · refine W_cT (t := (!(decide (gi a (i : Int).toNat = gi b (i : Int).toNat)))) rfl b₃ ?_
          refine W_sq ?_
          refine W_rg ?_
          refine WO_v (a_mv (v := .b false) rfl) ?_
          refine WO_end ?_
          refine then_n ?_
          refine W_rt ?_
          refine blk_r ?_
          refine then_r ?_
          have hp := Option.some.inj hp; subst hp
          refine (Or.inr (Exists.intro (.inr ()) (And.intro rfl (And.intro (fun h => nomatch h) (fun he => ?_)))))
          subst he; exact (And.intro rfl (And.intro (rfl) (hO₃.pick [] rfl (by decide))))
        · refine W_cF (t := (!(decide (gi a (i : Int).toNat = gi b (i : Int).toNat)))) rfl b₃ ?_
          refine W_sk ?_
          refine blk_n ?_
          refine then_n ?_
          refine W_rg ?_
          refine WO_v (a_mv (v := .i .i64 i) q₂_5) ?_
          obtain ⟨c₃, hp⟩ := ck_some hp
          refine WO_v (a_add (a := i) (b := 1) rfl rfl c₃) ?_
          refine WO_v (a_mv (v := .i .i64 (i + 1)) rfl) ?_
          refine WO_end ?_
          have hp := Option.some.inj hp; subst hp
          exact (Or.inl (Exists.intro (i + 1) (And.intro rfl (And.intro rfl (And.intro (q₂_0) (And.intro (q₂_1) (And.intro (rfl) (hO₃.pick [] rfl (by decide)))))))))
      · refine W_cF (t := (decide (i < (a.length : Int)))) rfl b₂ ?_
        refine W_ex ?_
        refine then_e ?_
        have hp := Option.some.inj hp; subst hp
        refine (Or.inr (Exists.intro (.inl ()) (And.intro rfl (And.intro (fun h => nomatch h) (fun he => ?_)))))
        subst he; exact (And.intro rfl (hO₂.pick [] rfl (by decide)))
    intro e₁ q₁ k₁ hJ₁
    rcases o₁ with _ | _
    · obtain ⟨rfl, hO₁⟩ := hJ₁
      refine blk_i ?_
      refine then_n ?_
      refine W_sq ?_
      refine W_rg ?_
      refine WO_v (a_mv (v := .b true) rfl) ?_
      refine WO_end ?_
      refine then_n ?_
      refine W_rt ?_
      refine Ret_r (rs_t (n := 4) (v := .b true) rfl rs_nil) ?_
      have hp := Option.some.inj hp; subst hp
      exact (And.intro rfl (hO₁.pick [] rfl (by decide)))
    · obtain ⟨rfl, q₁_4, hO₁⟩ := hJ₁
      refine blk_r ?_
      refine then_r ?_
      refine Ret_r (rs_t (n := 4) (v := .b false) q₁_4 rs_nil) ?_
      have hp := Option.some.inj hp; subst hp
      exact (And.intro rfl (hO₁.pick [] rfl (by decide)))

end Mu
