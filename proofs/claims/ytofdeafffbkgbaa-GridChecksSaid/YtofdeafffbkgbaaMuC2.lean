/- The code comes to what was worked out. -/
import Derived.Test.YtofdeafffbkgbaaMuDf
import Derived.Test.YtofdeafffbkgbaaMuPa
import Derived.Test.YtofdeafffbkgbaaMuC1
set_option linter.unusedVariables false
set_option linter.unnecessarySimpa false
set_option linter.unusedSimpArgs false
set_option maxHeartbeats 2000000
set_option maxRecDepth 10000
namespace Mu
open Go (IntKind BinOp UnOp)
theorem p_muntinlaw10_GridChecks.ok {h : Hp} {z : T_muntinlaw10_Case} {v_z_Places_At : V} {v_z_Places_Bits : V} {v_z_Places_Own : V} {v_z_Raw : V} (s_z_Places_At : Sl e_u8 h v_z_Places_At z.Places.At) (s_z_Places_Bits : Sl e_u8 h v_z_Places_Bits z.Places.Bits) (s_z_Places_Own : Sl e_i8 h v_z_Places_Own z.Places.Own) (s_z_Raw : Sl e_T_api_Cell h v_z_Raw z.Raw) {r : Bool} (hp : p_muntinlaw10_GridChecks z = some r) :
    ∃ u k', Is G 104 [.ag [v_z_Places_At, v_z_Places_Bits, v_z_Places_Own, v_z_Raw, .i .u8 z.At.a, .i .u8 z.At.b, .i .i64 z.V]] h u k' ∧ V.b r = u ∧ Own (fun r => r < h.n) h k' [] := by
  refine WC.is (WC_of G_F_muntinlaw10_GridChecks ?_)
  unfold p_muntinlaw10_GridChecks at hp
  let B : Nat → Prop := (fun r => r < h.n)
  have hO : Own B h h [] := Own.start0 h
  refine W_sq ?_
  refine W_rg ?_
  refine WO_x (hO.boxd (v := .ag [v_z_Places_At, v_z_Places_Bits, v_z_Places_Own, v_z_Raw, .i .u8 z.At.a, .i .u8 z.At.b, .i .i64 z.V]) (cs := [v_z_Places_At, v_z_Places_Bits, v_z_Places_Own, v_z_Raw, .i .u8 z.At.a, .i .u8 z.At.b, .i .i64 z.V]) hO.fr rfl rfl) ?_
  rintro _ k₁ ⟨r₁, rfl, n₁, f₁, hW⟩
  have hO₁ : Own B h k₁ [eBox r₁ [v_z_Places_At, v_z_Places_Bits, v_z_Places_Own, v_z_Raw, .i .u8 z.At.a, .i .u8 z.At.b, .i .i64 z.V]] := hW
  refine WO_v (a_mv (v := .b false) rfl) ?_
  refine WO_end ?_
  refine then_n ?_
  refine W_sq ?_
  refine W_dr ?_
  have hW := hO₁.bump 10
  have fr₁ := Fresh.start k₁ 10
  have nb₁ : ∀ {i : Nat}, h.n ≤ k₁.n + i := Nat.le_trans hO₁.n (Nat.le_add_right _ _)
  have hO₂ : Own B h (k₁.bump 10) [eBox r₁ [v_z_Places_At, v_z_Places_Bits, v_z_Places_Own, v_z_Raw, .i .u8 z.At.a, .i .u8 z.At.b, .i .i64 z.V]] := hW
  refine WD_v (a_fa (r := r₁) (o := 0) (o' := 3) rfl rfl) ?_
  refine WD_v (a_ldb (cs := [v_z_Places_At, v_z_Places_Bits, v_z_Places_Own, v_z_Raw, .i .u8 z.At.a, .i .u8 z.At.b, .i .i64 z.V]) (v := v_z_Raw) (hO₂.box 0 rfl) rfl rfl) ?_
  refine WD_v (a_fa (r := r₁) (o := 0) (o' := 4) rfl rfl) ?_
  refine WD_v (a_ldbA (cs := [v_z_Places_At, v_z_Places_Bits, v_z_Places_Own, v_z_Raw, .i .u8 z.At.a, .i .u8 z.At.b, .i .i64 z.V]) (ws := e_A2_u8.c z.At) (hO₂.box 0 rfl) rfl rfl) ?_
  refine WD_v (a_fa (r := r₁) (o := 0) (o' := 6) rfl rfl) ?_
  refine WD_v (a_ldb (cs := [v_z_Places_At, v_z_Places_Bits, v_z_Places_Own, v_z_Raw, .i .u8 z.At.a, .i .u8 z.At.b, .i .i64 z.V]) (v := .i .i64 z.V) (hO₂.box 0 rfl) rfl rfl) ?_
  refine WD_x (hO₂.alloc (cs := e_A2_u8.c (⟨0, 0⟩ : A2 Int)) ⟨fr₁.m 6 (by decide) (by decide), nb₁⟩) ?_
  rintro _ k₃ z₁ ⟨r₂, rfl, n₂, f₂, hW⟩
  have fr₂ := fr₁.kept f₂ (by decide)
  have hO₃ : Own B h k₃ [eBox r₁ [v_z_Places_At, v_z_Places_Bits, v_z_Places_Own, v_z_Raw, .i .u8 z.At.a, .i .u8 z.At.b, .i .i64 z.V], eBox r₂ (e_A2_u8.c (⟨0, 0⟩ : A2 Int))] := hW
  refine WD_v (a_mv (v := v_z_Raw) rfl) ?_
  refine WD_x (hO₃.stb (ws := e_A2_u8.c z.At) (cs' := e_A2_u8.c z.At) (v := .ag (e_A2_u8.c z.At)) 1 rfl rfl rfl rfl ⟨rfl, Nat.le_of_ble_eq_true rfl, rfl⟩ rfl) ?_
  rintro _ k₄ z₂ ⟨rfl, f₃, m₁, hW⟩
  have fr₃ := fr₂.kept f₃ (by decide)
  have hO₄ : Own B h k₄ [eBox r₁ [v_z_Places_At, v_z_Places_Bits, v_z_Places_Own, v_z_Raw, .i .u8 z.At.a, .i .u8 z.At.b, .i .i64 z.V], eBox r₂ (e_A2_u8.c z.At)] := hW
  refine WD_v (a_mv (v := .i .i64 z.V) rfl) ?_
  refine WD_end ?_
  refine And.intro ?_ ?_
  · intro q hq
    simp only [List.mem_cons, List.not_mem_nil, or_false] at hq
    rcases hq with rfl | rfl | rfl | rfl | rfl | rfl | rfl
    · refine ap_ll ?_ ?_
      · exact (fun h => nomatch h)
      · exact (fun h => nomatch h)
    · refine ap_ll ?_ ?_
      · exact (fun h => nomatch h)
      · exact (fun h => nomatch h)
    · refine ap_ll ?_ ?_
      · exact (fun h => nomatch h)
      · exact (fun h => nomatch h)
    · refine ap_ll ?_ ?_
      · exact (fun h => nomatch h)
      · exact (fun _ hm => Nat.lt_irrefl _ (Nat.lt_of_lt_of_le (hO₁.ltAt 0 rfl _ (tch (v := V.p r₁ 3) (ld_el hm) rfl)) (Nat.le_add_right _ _)))
    · refine ap_ll ?_ ?_
      · exact (fun h => nomatch h)
      · exact (fun _ hm => Nat.lt_irrefl _ (Nat.lt_of_lt_of_le (hO₁.ltAt 0 rfl _ (tch (v := V.p r₁ 4) (ld_el hm) rfl)) (Nat.le_add_right _ _)))
    · refine ap_ll ?_ ?_
      · exact (fun h => nomatch h)
      · exact (fun _ hm => Nat.lt_irrefl _ (Nat.lt_of_lt_of_le (hO₁.ltAt 0 rfl _ (tch (v := V.p r₁ 6) (ld_el hm) rfl)) (Nat.le_add_right _ _)))
    · refine ap_oo ?_ ?_ ?_
      · exact (fun r h1 h2 => by have h3 := (hO₁.ltAt 0 rfl _ (tch (v := V.p r₁ 6) (ld_el h1) rfl)); have h4 := (new_box n₂ (tch (v := V.p r₂ 0) (st_el h2) rfl)); omega)
      · exact (fun h => nomatch h)
      · exact (fun _ hm => Nat.lt_irrefl _ (Nat.lt_of_lt_of_le (hO₁.ltAt 0 rfl _ (tch (v := V.p r₁ 6) (ld_el hm) rfl)) (Nat.le_add_right _ _)))
  refine then_n ?_
  refine W_sq ?_
  refine W_rg ?_
  refine WO_v (a_fa (r := r₁) (o := 0) (o' := 0) rfl rfl) ?_
  refine WO_v (a_ldbA (cs := [v_z_Places_At, v_z_Places_Bits, v_z_Places_Own, v_z_Raw, .i .u8 z.At.a, .i .u8 z.At.b, .i .i64 z.V]) (ws := [v_z_Places_At, v_z_Places_Bits, v_z_Places_Own]) (hO₄.box 0 rfl) rfl rfl) ?_
  obtain ⟨⟨x, x1⟩, hx₁, hp⟩ := bd_some hp
  obtain ⟨u₁, k₅, ca₁, v₁, v₂, rfl, hW₁⟩ := p_muntinref10_Make.ok (h := k₄)  (hO₄.rd0 s_z_Places_At.rd : Sl e_u8 k₄ v_z_Places_At z.Places.At) (hO₄.rd0 s_z_Places_Bits.rd : Sl e_u8 k₄ v_z_Places_Bits z.Places.Bits) (hO₄.rd0 s_z_Places_Own.rd : Sl e_i8 k₄ v_z_Places_Own z.Places.Own) hx₁
  refine WO_c (id := 28) (caps := []) rfl (mp_cons (v := .ag [v_z_Places_At, v_z_Places_Bits, v_z_Places_Own]) rfl (mp_cons (v := .i .i64 12) rfl mp_nil)) ca₁ ?_
  have hO₅ : Own B h k₅ [eBox r₁ [v_z_Places_At, v_z_Places_Bits, v_z_Places_Own, v_z_Raw, .i .u8 z.At.a, .i .u8 z.At.b, .i .i64 z.V], eBox r₂ (e_A2_u8.c z.At), eSl e_T_api_Cell v₁ x, eSl e_T_api_Point v₂ x1] := hO₄.call hW₁ rfl
  refine WO_v (a_mv (v := .tu [v₁, v₂]) rfl) ?_
  refine WO_v (a_ext (vs := [v₁, v₂]) (v := v₁) rfl rfl) ?_
  refine WO_v (a_ext (vs := [v₁, v₂]) (v := v₂) rfl rfl) ?_
  refine WO_v (a_mv (v := v₁) rfl) ?_
  refine WO_v (a_mv (v := v₂) rfl) ?_
  refine WO_end ?_
  refine then_n ?_
  refine W_sq ?_
  refine W_rg ?_
  refine WO_v (a_mv (v := v₁) rfl) ?_
  obtain ⟨x2, hx₂, hp⟩ := bd_some hp
  obtain ⟨u₂, k₆, ca₂, v₃, rfl, hW₂⟩ := p_slices_Clone_api_Cell.ok (h := k₅)  (hO₅.sl 2 rfl : Sl e_T_api_Cell k₅ v₁ x) hx₂
  refine WO_c (id := 51) (caps := []) rfl (mp_cons (v := v₁) rfl mp_nil) ca₂ ?_
  have hO₆ : Own B h k₆ [eBox r₁ [v_z_Places_At, v_z_Places_Bits, v_z_Places_Own, v_z_Raw, .i .u8 z.At.a, .i .u8 z.At.b, .i .i64 z.V], eBox r₂ (e_A2_u8.c z.At), eSl e_T_api_Cell v₁ x, eSl e_T_api_Point v₂ x1, eSl e_T_api_Cell v₃ x2] := hO₅.call hW₂ rfl
  refine WO_v (a_mv (v := v₃) rfl) ?_
  refine WO_end ?_
  refine then_n ?_
  refine W_sq ?_
  refine W_sq ?_
  refine W_rg ?_
  refine WO_v (a_mv (v := v₃) rfl) ?_
  refine WO_v (a_len (hO₆.sl 4 rfl : Sl e_T_api_Cell k₆ v₃ x2) rfl) ?_
  refine WO_v (a_gtr (a := (x2.length : Int)) (b := 0) rfl rfl) ?_
  refine WO_end ?_
  refine then_n ?_
  obtain ⟨o₁, ho₁, hp⟩ := bd_some hp
  refine W.mono (Q := fun e fr k => match (generalizing := false) o₁ with
      | m => e = .normal ∧ fr 3 = v_z_Raw ∧ fr 6 = v₁ ∧ fr 8 = v₃ ∧ Own B h k [eSl e_T_api_Cell v₁ x, eSl e_T_api_Cell v₃ m]) ?_ ?_
  · clear hp; have hp := ho₁; clear ho₁
    rcases if_some hp with ⟨b₁, hp⟩ | ⟨b₁, hp⟩
    · refine W_cT (t := (decide (0 < (x2.length : Int)))) rfl b₁ ?_
      refine W_sq ?_
      refine W_rg ?_
      refine WO_v (a_mv (v := v₃) rfl) ?_
      refine WO_v (a_ixaa (o := 0) (o' := 0) (z := 0) rfl rfl (by decide) rfl) ?_
      refine WO_v (a_ldb (cs := (e_A2_u8.c z.At)) (v := .i .u8 (z.At.get 0)) (hO₆.box 1 rfl) rfl rfl) ?_
      obtain ⟨c₁, hp⟩ := ck_some hp
      refine WO_v (a_conv (a := (z.At.get 0)) rfl c₁) ?_
      refine WO_v (a_mv (v := v₃) rfl) ?_
      refine WO_v (a_len (hO₆.sl 4 rfl : Sl e_T_api_Cell k₆ v₃ x2) rfl) ?_
      obtain ⟨c₂, hp⟩ := ck_some hp
      refine WO_v (a_rem (a := (z.At.get 0)) (b := (x2.length : Int)) rfl rfl c₂) ?_
      obtain ⟨c₃, hp⟩ := ck_some hp
      refine WO_v (a_ixa (E := e_T_api_Cell) (z := ((z.At.get 0).tmod (x2.length : Int))) (hO₆.sl 4 rfl : Sl e_T_api_Cell k₆ v₃ x2) rfl rfl c₃) ?_
      refine WO_v (a_mv (v := V.elt v₃ ((z.At.get 0).tmod (x2.length : Int) : Int).toNat 0) rfl) ?_
      refine WO_end ?_
      refine then_n ?_
      refine W_sq ?_
      refine W_rg ?_
      refine WO_v (a_ixaa (o := 0) (o' := 1) (z := 1) rfl rfl (by decide) rfl) ?_
      refine WO_v (a_ldb (cs := (e_A2_u8.c z.At)) (v := .i .u8 (z.At.get 1)) (hO₆.box 1 rfl) rfl rfl) ?_
      refine WO_v (a_ari (a := (z.At.get 1)) (b := 4) (v := .i .u8 (ari_and .u8 (z.At.get 1) 4)) rfl rfl (by decide) rfl) ?_
      refine WO_v (a_eqI (a := (ari_and .u8 (z.At.get 1) 4)) (b := 0) rfl rfl) ?_
      refine WO_end ?_
      refine then_n ?_
      rcases if_some hp with ⟨b₂, hp⟩ | ⟨b₂, hp⟩
      · refine W_cT (t := (decide (ari_and .u8 (z.At.get 1) 4 = 0))) rfl b₂ ?_
        refine W_dr ?_
        have hW := hO₆.bump 9
        have fr₄ := Fresh.start k₆ 9
        have nb₂ : ∀ {i : Nat}, h.n ≤ k₆.n + i := Nat.le_trans hO₆.n (Nat.le_add_right _ _)
        have hO₈ : Own B h (k₆.bump 9) [eBox r₁ [v_z_Places_At, v_z_Places_Bits, v_z_Places_Own, v_z_Raw, .i .u8 z.At.a, .i .u8 z.At.b, .i .i64 z.V], eBox r₂ (e_A2_u8.c z.At), eSl e_T_api_Cell v₁ x, eSl e_T_api_Point v₂ x1, eSl e_T_api_Cell v₃ x2] := hW
        refine WD_v (a_mv (v := V.elt v₃ ((z.At.get 0).tmod (x2.length : Int) : Int).toNat 0) rfl) ?_
        refine WD_v (a_ixaa (o := 0) (o' := 1) (z := 1) rfl rfl (by decide) rfl) ?_
        refine WD_v (a_ldb (cs := (e_A2_u8.c z.At)) (v := .i .u8 (z.At.get 1)) (hO₈.box 1 rfl) rfl rfl) ?_
        refine WD_v (a_rem (a := (z.At.get 1)) (b := 4) rfl rfl (by decide)) ?_
        refine WD_v (a_mv (v := .i .i64 z.V) rfl) ?_
        refine WD_v (a_nilE (j := ((z.At.get 0).tmod (x2.length : Int) : Int).toNat) (off := 0) (hO₈.sl 4 rfl : Sl e_T_api_Cell (k₆.bump 9) v₃ x2) (toNat_lt c₃) rfl) ?_
        refine WD_v (a_faE (off' := 0) (off2 := 0) (hO₈.sl 4 rfl : Sl e_T_api_Cell (k₆.bump 9) v₃ x2) (toNat_lt c₃) rfl rfl) ?_
        obtain ⟨c₄, hp⟩ := ck_some hp
        refine WD_v (a_ixaaE (off := 0) (off2 := (0 + ((z.At.get 1).tmod 4 : Int).toNat * 1)) (z := ((z.At.get 1).tmod 4)) (hO₈.sl 4 rfl : Sl e_T_api_Cell (k₆.bump 9) v₃ x2) (toNat_lt c₃) rfl rfl c₄ rfl) ?_
        refine WD_x (hO₈.ste (E := e_T_api_Cell) (y := ({ gi x2 ((z.At.get 0).tmod (x2.length : Int) : Int).toNat with Next := ((gi x2 ((z.At.get 0).tmod (x2.length : Int) : Int).toNat).Next).set ((z.At.get 1).tmod 4) z.V })) (ws := [.i .i64 z.V]) 4 rfl rfl (toNat_lt c₃) rfl rfl ⟨rfl, (by have := c₄; exact (show 0 + ((z.At.get 1).tmod 4 : Int).toNat * 1 + 1 ≤ 8 by omega)), rfl⟩ (st_T_api_Cell_Next c₄)) ?_
        rintro _ k₉ z₃ ⟨rfl, f₄, m₂, hW⟩
        have fr₅ := fr₄.kept f₄ (by decide)
        have hO₉ : Own B h k₉ [eBox r₁ [v_z_Places_At, v_z_Places_Bits, v_z_Places_Own, v_z_Raw, .i .u8 z.At.a, .i .u8 z.At.b, .i .i64 z.V], eBox r₂ (e_A2_u8.c z.At), eSl e_T_api_Cell v₁ x, eSl e_T_api_Point v₂ x1, eSl e_T_api_Cell v₃ (x2.set ((z.At.get 0).tmod (x2.length : Int) : Int).toNat ({ gi x2 ((z.At.get 0).tmod (x2.length : Int) : Int).toNat with Next := ((gi x2 ((z.At.get 0).tmod (x2.length : Int) : Int).toNat).Next).set ((z.At.get 1).tmod 4) z.V }))] := hW
        refine WD_end ?_
        refine And.intro ?_ ?_
        · intro q hq
          cases hq
        have hp := Option.some.inj hp; subst hp
        exact (And.intro rfl (And.intro (rfl) (And.intro (rfl) (And.intro (rfl) (hO₉.pick [2, 4] rfl (by decide))))))
      · refine W_cF (t := (decide (ari_and .u8 (z.At.get 1) 4 = 0))) rfl b₂ ?_
        refine W_dr ?_
        have hW := hO₆.bump 9
        have fr₆ := Fresh.start k₆ 9
        have nb₃ : ∀ {i : Nat}, h.n ≤ k₆.n + i := Nat.le_trans hO₆.n (Nat.le_add_right _ _)
        have hO₁₀ : Own B h (k₆.bump 9) [eBox r₁ [v_z_Places_At, v_z_Places_Bits, v_z_Places_Own, v_z_Raw, .i .u8 z.At.a, .i .u8 z.At.b, .i .i64 z.V], eBox r₂ (e_A2_u8.c z.At), eSl e_T_api_Cell v₁ x, eSl e_T_api_Point v₂ x1, eSl e_T_api_Cell v₃ x2] := hW
        refine WD_v (a_mv (v := V.elt v₃ ((z.At.get 0).tmod (x2.length : Int) : Int).toNat 0) rfl) ?_
        refine WD_v (a_ixaa (o := 0) (o' := 1) (z := 1) rfl rfl (by decide) rfl) ?_
        refine WD_v (a_ldb (cs := (e_A2_u8.c z.At)) (v := .i .u8 (z.At.get 1)) (hO₁₀.box 1 rfl) rfl rfl) ?_
        refine WD_v (a_rem (a := (z.At.get 1)) (b := 4) rfl rfl (by decide)) ?_
        refine WD_v (a_mv (v := .i .i64 z.V) rfl) ?_
        refine WD_v (a_nilE (j := ((z.At.get 0).tmod (x2.length : Int) : Int).toNat) (off := 0) (hO₁₀.sl 4 rfl : Sl e_T_api_Cell (k₆.bump 9) v₃ x2) (toNat_lt c₃) rfl) ?_
        refine WD_v (a_faE (off' := 0) (off2 := 4) (hO₁₀.sl 4 rfl : Sl e_T_api_Cell (k₆.bump 9) v₃ x2) (toNat_lt c₃) rfl rfl) ?_
        obtain ⟨c₅, hp⟩ := ck_some hp
        refine WD_v (a_ixaaE (off := 4) (off2 := (4 + ((z.At.get 1).tmod 4 : Int).toNat * 1)) (z := ((z.At.get 1).tmod 4)) (hO₁₀.sl 4 rfl : Sl e_T_api_Cell (k₆.bump 9) v₃ x2) (toNat_lt c₃) rfl rfl c₅ rfl) ?_
        refine WD_x (hO₁₀.ste (E := e_T_api_Cell) (y := ({ gi x2 ((z.At.get 0).tmod (x2.length : Int) : Int).toNat with Owner := ((gi x2 ((z.At.get 0).tmod (x2.length : Int) : Int).toNat).Owner).set ((z.At.get 1).tmod 4) z.V })) (ws := [.i .i64 z.V]) 4 rfl rfl (toNat_lt c₃) rfl rfl ⟨rfl, (by have := c₅; exact (show 4 + ((z.At.get 1).tmod 4 : Int).toNat * 1 + 1 ≤ 8 by omega)), rfl⟩ (st_T_api_Cell_Owner c₅)) ?_
        rintro _ k₁₁ z₄ ⟨rfl, f₅, m₃, hW⟩
        have fr₇ := fr₆.kept f₅ (by decide)
        have hO₁₁ : Own B h k₁₁ [eBox r₁ [v_z_Places_At, v_z_Places_Bits, v_z_Places_Own, v_z_Raw, .i .u8 z.At.a, .i .u8 z.At.b, .i .i64 z.V], eBox r₂ (e_A2_u8.c z.At), eSl e_T_api_Cell v₁ x, eSl e_T_api_Point v₂ x1, eSl e_T_api_Cell v₃ (x2.set ((z.At.get 0).tmod (x2.length : Int) : Int).toNat ({ gi x2 ((z.At.get 0).tmod (x2.length : Int) : Int).toNat with Owner := ((gi x2 ((z.At.get 0).tmod (x2.length : Int) : Int).toNat).Owner).set ((z.At.get 1).tmod 4) z.V }))] := hW
        refine WD_end ?_
        refine And.intro ?_ ?_
        · intro q hq
          cases hq
        have hp := Option.some.inj hp; subst hp
        exact (And.intro rfl (And.intro (rfl) (And.intro (rfl) (And.intro (rfl) (hO₁₁.pick [2, 4] rfl (by decide))))))
    · refine W_cF (t := (decide (0 < (x2.length : Int)))) rfl b₁ ?_
      refine W_sk ?_
      have hp := Option.some.inj hp; subst hp
      exact (And.intro rfl (And.intro (rfl) (And.intro (rfl) (And.intro (rfl) (hO₆.pick [2, 4] rfl (by decide))))))
  intro e₁ q₁ k₇ hJ₁
  obtain ⟨m, rfl⟩ : ∃ x, x = o₁ := ⟨_, rfl⟩
  obtain ⟨rfl, q₁_3, q₁_6, q₁_8, hO₇⟩ := hJ₁
  refine then_n ?_
  refine W_sq ?_
  refine W_sq ?_
  refine W_rg ?_
  refine WO_v (a_mv (v := v₁) q₁_6) ?_
  refine WO_v (a_mv (v := v₃) q₁_8) ?_
  refine WO_v (a_mv (v := v_z_Raw) q₁_3) ?_
  refine WO_v (a_mv (v := v_z_Raw) q₁_3) ?_
  refine WO_v (a_len (hO₇.rd0 s_z_Raw.rd : Sl e_T_api_Cell k₇ v_z_Raw z.Raw) rfl) ?_
  refine WO_v (a_mn (a := (z.Raw.length : Int)) (b := 6) rfl rfl) ?_
  obtain ⟨c₆, hp⟩ := ck_some hp
  refine WO_v (a_slcU (E := e_T_api_Cell) (z := (min (z.Raw.length : Int) 6)) (hO₇.rd0 s_z_Raw.rd : Sl e_T_api_Cell k₇ v_z_Raw z.Raw) rfl rfl c₆) ?_
  refine WO_x (hO₇.bsl (E := eV) (l := [v₁, v₃, (V.cut v_z_Raw 0 (min (z.Raw.length : Int) 6 : Int).toNat)]) hO₇.fr (by rw [(ev_cons (v := v₁) rfl (ev_cons (v := v₃) rfl (ev_cons (v := (V.cut v_z_Raw 0 (min (z.Raw.length : Int) 6 : Int).toNat)) rfl ev_nil)))]; simp [fill, over, (hO₇.sl 0 rfl : Sl e_T_api_Cell k₇ v₁ x).cells, (hO₇.sl 1 rfl : Sl e_T_api_Cell k₇ v₃ m).cells, (Sl.cutU (hO₇.rd0 s_z_Raw.rd : Sl e_T_api_Cell k₇ v_z_Raw z.Raw) c₆ : Sl e_T_api_Cell k₇ (V.cut v_z_Raw 0 (min (z.Raw.length : Int) 6 : Int).toNat) (z.Raw.take (min (z.Raw.length : Int) 6 : Int).toNat)).cells]) rfl) ?_
  rintro v₄ k₁₂ ⟨r₃, f₆, hW⟩
  have hO₁₂ : Own B h k₁₂ [eSl e_T_api_Cell v₁ x, eSl e_T_api_Cell v₃ m, eSl eV v₄ [v₁, v₃, (V.cut v_z_Raw 0 (min (z.Raw.length : Int) 6 : Int).toNat)]] := hW
  refine WO_v (a_lenN (n := ([x, m, z.Raw.take (min (z.Raw.length : Int) 6 : Int).toNat]).length) (hO₁₂.sl 2 rfl : Sl eV k₁₂ v₄ [v₁, v₃, (V.cut v_z_Raw 0 (min (z.Raw.length : Int) 6 : Int).toNat)]) rfl rfl) ?_
  refine WO_v (a_mv (v := .i .i64 0) rfl) ?_
  refine WO_end ?_
  refine then_n ?_
  refine W_bl ?_
  obtain ⟨o₂, ho₂, hp⟩ := bd_some hp
  refine W.mono (Q := fun e fr k => match (generalizing := false) o₂ with
      | .inl _ => e = (.exit 0) ∧ fr 6 = v₁ ∧ Own B h k [eSl e_T_api_Cell v₁ x]
      | .inr _ => e = .ret ∧ fr 2 = .b false ∧ Own B h k []) ?_ ?_
  · clear hp
    refine W_loopF (fun st fr k => match st with | x3 => fr 6 = v₁ ∧ fr 69 = v₄ ∧ fr 70 = .i .i64 ([x, m, z.Raw.take (min (z.Raw.length : Int) 6 : Int).toNat].length : Int) ∧ fr 71 = .i .i64 x3 ∧ Own B h k [eSl e_T_api_Cell v₁ x, eSl eV v₄ [v₁, v₃, (V.cut v_z_Raw 0 (min (z.Raw.length : Int) 6 : Int).toNat)], eSl e_T_api_Cell v₃ m]) ho₂ (s := 0) (And.intro (q₁_6) (And.intro (rfl) (And.intro (rfl) (And.intro (rfl) (hO₁₂.pick [0, 2, 1] rfl (by decide)))))) ?_
    rintro x3 q₃ k₁₄ ⟨q₃_6, q₃_69, q₃_70, q₃_71, hO₁₄⟩ o₃ hp
    dsimp only [p_muntinlaw10_GridChecks.s0] at hp
    refine W_sq ?_
    refine W_rg ?_
    refine WO_v (a_lss (a := x3) (b := ([x, m, z.Raw.take (min (z.Raw.length : Int) 6 : Int).toNat].length : Int)) q₃_71 q₃_70) ?_
    refine WO_end ?_
    refine then_n ?_
    refine W_sq ?_
    rcases if_some hp with ⟨b₃, hp⟩ | ⟨b₃, hp⟩
    · refine W_cT (t := (decide (x3 < ([x, m, z.Raw.take (min (z.Raw.length : Int) 6 : Int).toNat].length : Int)))) rfl b₃ ?_
      refine W_sk ?_
      refine then_n ?_
      refine W_sq ?_
      refine W_bl ?_
      refine W_sq ?_
      refine W_rg ?_
      obtain ⟨c₇, hp⟩ := ck_some hp
      refine WO_v (a_ixa (E := eV) (z := x3) (hO₁₄.sl 1 rfl : Sl eV k₁₄ v₄ [v₁, v₃, (V.cut v_z_Raw 0 (min (z.Raw.length : Int) 6 : Int).toNat)]) q₃_69 q₃_71 c₇) ?_
      refine WO_v (a_ldE (w := (gi [v₁, v₃, (V.cut v_z_Raw 0 (min (z.Raw.length : Int) 6 : Int).toNat)] (x3 : Int).toNat)) (hO₁₄.sl 1 rfl : Sl eV k₁₄ v₄ [v₁, v₃, (V.cut v_z_Raw 0 (min (z.Raw.length : Int) 6 : Int).toNat)]) rfl (toNat_lt c₇) rfl) ?_
      refine WO_v (a_mv (v := (gi [v₁, v₃, (V.cut v_z_Raw 0 (min (z.Raw.length : Int) 6 : Int).toNat)] (x3 : Int).toNat)) rfl) ?_
      refine WO_end ?_
      refine then_n ?_
      refine W_sq ?_
      refine W_rg ?_
      refine WO_v (a_mv (v := (gi [v₁, v₃, (V.cut v_z_Raw 0 (min (z.Raw.length : Int) 6 : Int).toNat)] (x3 : Int).toNat)) rfl) ?_
      obtain ⟨x4, hx₃, hp⟩ := bd_some hp
      obtain ⟨u₃, k₁₅, ca₃, rfl, hW₃⟩ := p_muntinref10_Check.ok (h := k₁₄)  (Lit.at (Lit.cons (hO₁₄.sl 0 rfl : Sl e_T_api_Cell k₁₄ v₁ x) (Lit.cons (hO₁₄.sl 2 rfl : Sl e_T_api_Cell k₁₄ v₃ m) (Lit.cons (Sl.cutU (hO₁₄.rd0 s_z_Raw.rd : Sl e_T_api_Cell k₁₄ v_z_Raw z.Raw) c₆ : Sl e_T_api_Cell k₁₄ (V.cut v_z_Raw 0 (min (z.Raw.length : Int) 6 : Int).toNat) (z.Raw.take (min (z.Raw.length : Int) 6 : Int).toNat)) Lit.nil))) (toNat_lt c₇) : Sl e_T_api_Cell k₁₄ (gi [v₁, v₃, (V.cut v_z_Raw 0 (min (z.Raw.length : Int) 6 : Int).toNat)] (x3 : Int).toNat) (gi [x, m, z.Raw.take (min (z.Raw.length : Int) 6 : Int).toNat] (x3 : Int).toNat)) hx₃
      refine WO_c (id := 34) (caps := []) rfl (mp_cons (v := (gi [v₁, v₃, (V.cut v_z_Raw 0 (min (z.Raw.length : Int) 6 : Int).toNat)] (x3 : Int).toNat)) rfl mp_nil) ca₃ ?_
      have hO₁₅ : Own B h k₁₅ [eSl e_T_api_Cell v₁ x, eSl eV v₄ [v₁, v₃, (V.cut v_z_Raw 0 (min (z.Raw.length : Int) 6 : Int).toNat)], eSl e_T_api_Cell v₃ m] := hO₁₄.call hW₃ rfl
      refine WO_v (a_mv (v := .i .i64 x4) rfl) ?_
      refine WO_end ?_
      refine then_n ?_
      refine W_sq ?_
      refine W_rg ?_
      refine WO_v (a_mv (v := (gi [v₁, v₃, (V.cut v_z_Raw 0 (min (z.Raw.length : Int) 6 : Int).toNat)] (x3 : Int).toNat)) rfl) ?_
      obtain ⟨⟨x5, x6⟩, hx₄, hp⟩ := bd_some hp
      obtain ⟨u₄, k₁₆, ca₄, r₄, v₅, rfl, hW₄⟩ := p_grid_Of.ok (h := k₁₅)  (Lit.at (Lit.cons (hO₁₅.sl 0 rfl : Sl e_T_api_Cell k₁₅ v₁ x) (Lit.cons (hO₁₅.sl 2 rfl : Sl e_T_api_Cell k₁₅ v₃ m) (Lit.cons (Sl.cutU (hO₁₅.rd0 s_z_Raw.rd : Sl e_T_api_Cell k₁₅ v_z_Raw z.Raw) c₆ : Sl e_T_api_Cell k₁₅ (V.cut v_z_Raw 0 (min (z.Raw.length : Int) 6 : Int).toNat) (z.Raw.take (min (z.Raw.length : Int) 6 : Int).toNat)) Lit.nil))) (toNat_lt c₇) : Sl e_T_api_Cell k₁₅ (gi [v₁, v₃, (V.cut v_z_Raw 0 (min (z.Raw.length : Int) 6 : Int).toNat)] (x3 : Int).toNat) (gi [x, m, z.Raw.take (min (z.Raw.length : Int) 6 : Int).toNat] (x3 : Int).toNat)) hx₄
      refine WO_c (id := 119) (caps := []) rfl (mp_cons (v := (gi [v₁, v₃, (V.cut v_z_Raw 0 (min (z.Raw.length : Int) 6 : Int).toNat)] (x3 : Int).toNat)) rfl mp_nil) ca₄ ?_
      have hO₁₆ : Own B h k₁₆ [eSl e_T_api_Cell v₁ x, eSl eV v₄ [v₁, v₃, (V.cut v_z_Raw 0 (min (z.Raw.length : Int) 6 : Int).toNat)], eSl e_T_api_Cell v₃ m, eIf (x5).isSome (eBox r₄ [v₅]), eIf (x5).isSome (eSl e_T_api_Cell v₅ ((x5.getD default).cells))] := hO₁₅.call hW₄ rfl
      refine WO_v (a_mv (v := .tu [(if (x5).isSome = true then V.p r₄ 0 else V.pn), .i .i64 x6]) rfl) ?_
      refine WO_v (a_ext (vs := [(if (x5).isSome = true then V.p r₄ 0 else V.pn), .i .i64 x6]) (v := (if (x5).isSome = true then V.p r₄ 0 else V.pn)) rfl rfl) ?_
      refine WO_v (a_ext (vs := [(if (x5).isSome = true then V.p r₄ 0 else V.pn), .i .i64 x6]) (v := .i .i64 x6) rfl rfl) ?_
      refine WO_v (a_mv (v := (if (x5).isSome = true then V.p r₄ 0 else V.pn)) rfl) ?_
      refine WO_v (a_mv (v := .i .i64 x6) rfl) ?_
      refine WO_end ?_
      refine then_n ?_
      refine W_sq ?_
      refine W_sq ?_
      refine W_rg ?_
      refine WO_v (a_mv (v := (gi [v₁, v₃, (V.cut v_z_Raw 0 (min (z.Raw.length : Int) 6 : Int).toNat)] (x3 : Int).toNat)) rfl) ?_
      obtain ⟨x7, hx₅, hp⟩ := bd_some hp
      obtain ⟨u₅, k₁₇, ca₅, rfl, hW₅⟩ := p_grid_Check.ok (h := k₁₆)  (Lit.at (Lit.cons (hO₁₆.sl 0 rfl : Sl e_T_api_Cell k₁₆ v₁ x) (Lit.cons (hO₁₆.sl 2 rfl : Sl e_T_api_Cell k₁₆ v₃ m) (Lit.cons (Sl.cutU (hO₁₆.rd0 s_z_Raw.rd : Sl e_T_api_Cell k₁₆ v_z_Raw z.Raw) c₆ : Sl e_T_api_Cell k₁₆ (V.cut v_z_Raw 0 (min (z.Raw.length : Int) 6 : Int).toNat) (z.Raw.take (min (z.Raw.length : Int) 6 : Int).toNat)) Lit.nil))) (toNat_lt c₇) : Sl e_T_api_Cell k₁₆ (gi [v₁, v₃, (V.cut v_z_Raw 0 (min (z.Raw.length : Int) 6 : Int).toNat)] (x3 : Int).toNat) (gi [x, m, z.Raw.take (min (z.Raw.length : Int) 6 : Int).toNat] (x3 : Int).toNat)) hx₅
      refine WO_c (id := 66) (caps := []) rfl (mp_cons (v := (gi [v₁, v₃, (V.cut v_z_Raw 0 (min (z.Raw.length : Int) 6 : Int).toNat)] (x3 : Int).toNat)) rfl mp_nil) ca₅ ?_
      have hO₁₇ : Own B h k₁₇ [eSl e_T_api_Cell v₁ x, eSl eV v₄ [v₁, v₃, (V.cut v_z_Raw 0 (min (z.Raw.length : Int) 6 : Int).toNat)], eSl e_T_api_Cell v₃ m, eIf (x5).isSome (eBox r₄ [v₅]), eIf (x5).isSome (eSl e_T_api_Cell v₅ ((x5.getD default).cells))] := hO₁₆.call hW₅ rfl
      refine WO_v (a_mv (v := .i .i64 x4) rfl) ?_
      refine WO_v (a_neI (a := x7) (b := x4) rfl rfl) ?_
      refine WO_v (a_mv (v := .b (!(decide (x7 = x4)))) rfl) ?_
      refine WO_cut 4 (fun fr' k' => k₁₇ = k' ∧ fr' 90 = .b ((!(decide (x7 = x4))) || (!(decide (x6 = x4)))) ∧ fr' 11 = (gi [v₁, v₃, (V.cut v_z_Raw 0 (min (z.Raw.length : Int) 6 : Int).toNat)] (x3 : Int).toNat) ∧ fr' 12 = .i .i64 x4 ∧ fr' 13 = (if (x5).isSome = true then V.p r₄ 0 else V.pn) ∧ fr' 6 = v₁ ∧ fr' 69 = v₄ ∧ fr' 70 = .i .i64 ([x, m, z.Raw.take (min (z.Raw.length : Int) 6 : Int).toNat].length : Int) ∧ fr' 71 = .i .i64 x3) ?_ ?_
      · rcases bc (!(decide (x7 = x4))) with b₄ | b₄
        · skip
          refine WO_off rfl b₄ ?_
          refine WO_off rfl b₄ ?_
          refine WO_off rfl b₄ ?_
          refine WO_v (a_pickT (t := (!(decide (x7 = x4)))) (v := .b ((!(decide (x7 = x4))) || (!(decide (x6 = x4))))) rfl b₄ (Eq.trans (b := V.b true) rfl (or_off b₄))) ?_
          refine WO_end ?_
          exact ⟨rfl, rfl, rfl, rfl, rfl, q₃_6, q₃_69, q₃_70, q₃_71⟩
        · skip
          refine WO_on rfl b₄ ?_
          refine WO_v (a_mv (v := .i .i64 x6) rfl) ?_
          refine WO_on rfl b₄ ?_
          refine WO_v (a_mv (v := .i .i64 x4) rfl) ?_
          refine WO_on rfl b₄ ?_
          refine WO_v (a_neI (a := x6) (b := x4) rfl rfl) ?_
          refine WO_v (a_pickF (t := (!(decide (x7 = x4)))) (v := .b ((!(decide (x7 = x4))) || (!(decide (x6 = x4))))) rfl b₄ (Eq.trans (b := V.b (!(decide (x6 = x4)))) rfl (or_on b₄))) ?_
          refine WO_end ?_
          exact ⟨rfl, rfl, rfl, rfl, rfl, q₃_6, q₃_69, q₃_70, q₃_71⟩
      rintro frg₁ _ ⟨rfl, g₁_90, g₁_11, g₁_12, g₁_13, g₁_6, g₁_69, g₁_70, g₁_71⟩
      refine WO_end ?_
      refine then_n ?_
      rcases if_some hp with ⟨b₅, hp⟩ | ⟨b₅, hp⟩
      · refine W_cT (t := ((!(decide (x7 = x4))) || (!(decide (x6 = x4))))) g₁_90 b₅ ?_
        refine W_sq ?_
        refine W_rg ?_
        refine WO_v (a_mv (v := .b false) rfl) ?_
        refine WO_end ?_
        refine then_n ?_
        refine W_rt ?_
        refine then_r ?_
        refine blk_r ?_
        refine then_r ?_
        have hp := Option.some.inj hp; subst hp
        refine (Or.inr (Exists.intro (.inr ()) (And.intro rfl (And.intro (fun h => nomatch h) (fun he => ?_)))))
        subst he; exact (And.intro rfl (And.intro (rfl) (hO₁₇.pick [] rfl (by decide))))
      · refine W_cF (t := ((!(decide (x7 = x4))) || (!(decide (x6 = x4))))) g₁_90 b₅ ?_
        refine W_sk ?_
        refine then_n ?_
        refine W_sq ?_
        refine W_sq ?_
        refine W_rg ?_
        refine WO_v (a_mv (v := .i .i64 x4) g₁_12) ?_
        refine WO_v (a_neI (a := x4) (b := 0) rfl rfl) ?_
        refine WO_end ?_
        refine then_n ?_
        rcases if_some hp with ⟨b₆, hp⟩ | ⟨b₆, hp⟩
        · refine W_cT (t := (!(decide (x4 = 0)))) rfl b₆ ?_
          refine W_ex ?_
          refine then_e ?_
          refine blk_i ?_
          refine then_n ?_
          refine W_rg ?_
          obtain ⟨c₈, hp⟩ := ck_some hp
          refine WO_v (a_add (a := x3) (b := 1) g₁_71 rfl c₈) ?_
          refine WO_v (a_mv (v := .i .i64 (x3 + 1)) rfl) ?_
          refine WO_end ?_
          have hp := Option.some.inj hp; subst hp
          exact (Or.inl (Exists.intro (x3 + 1) (And.intro rfl (And.intro rfl (And.intro (g₁_6) (And.intro (g₁_69) (And.intro (g₁_70) (And.intro (rfl) (hO₁₇.pick [0, 1, 2] rfl (by decide))))))))))
        · refine W_cF (t := (!(decide (x4 = 0)))) rfl b₆ ?_
          refine W_sk ?_
          refine then_n ?_
          refine W_sq ?_
          refine W_rg ?_
          refine WO_v (a_mv (v := (if (x5).isSome = true then V.p r₄ 0 else V.pn)) g₁_13) ?_
          obtain ⟨g, hg₁, hp⟩ := bd_some hp
          replace hg₁ : x5 = some g := hg₁
          have hO₁₈ : Own B h k₁₇ [eSl e_T_api_Cell v₁ x, eSl eV v₄ [v₁, v₃, (V.cut v_z_Raw 0 (min (z.Raw.length : Int) 6 : Int).toNat)], eSl e_T_api_Cell v₃ m, eBox r₄ [v₅], eSl e_T_api_Cell v₅ g.cells] := by have hq := hO₁₇; rw [hg₁] at hq; exact hq
          obtain ⟨x8, hx₆, hp⟩ := bd_some hp
          obtain ⟨u₆, k₁₈, ca₆, v₆, rfl, hW₆⟩ := p_grid_Grid_Cells.ok (h := k₁₇)  (hO₁₈.box 3 rfl) (hO₁₈.sl 4 rfl : Sl e_T_api_Cell k₁₇ v₅ g.cells) hx₆
          refine WO_c (id := 57) (caps := []) rfl (mp_cons (v := .p r₄ 0) (unw hg₁) mp_nil) ca₆ ?_
          have hO₁₉ : Own B h k₁₈ [eSl e_T_api_Cell v₁ x, eSl eV v₄ [v₁, v₃, (V.cut v_z_Raw 0 (min (z.Raw.length : Int) 6 : Int).toNat)], eSl e_T_api_Cell v₃ m, eBox r₄ [v₅], eSl e_T_api_Cell v₅ g.cells, eSl e_T_api_Cell v₆ x8] := hO₁₈.call hW₆ rfl
          refine WO_v (a_mv (v := v₆) rfl) ?_
          refine WO_end ?_
          refine then_n ?_
          refine W_sq ?_
          refine W_sq ?_
          refine W_rg ?_
          refine WO_v (a_mv (v := v₆) rfl) ?_
          refine WO_v (a_mv (v := (gi [v₁, v₃, (V.cut v_z_Raw 0 (min (z.Raw.length : Int) 6 : Int).toNat)] (x3 : Int).toNat)) g₁_11) ?_
          obtain ⟨x9, hx₇, hp⟩ := bd_some hp
          obtain ⟨u₇, k₁₉, ca₇, rfl, hW₇⟩ := p_muntinref10_Same.ok (h := k₁₈)  (hO₁₉.sl 5 rfl : Sl e_T_api_Cell k₁₈ v₆ x8) (Lit.at (Lit.cons (hO₁₉.sl 0 rfl : Sl e_T_api_Cell k₁₈ v₁ x) (Lit.cons (hO₁₉.sl 2 rfl : Sl e_T_api_Cell k₁₈ v₃ m) (Lit.cons (Sl.cutU (hO₁₉.rd0 s_z_Raw.rd : Sl e_T_api_Cell k₁₈ v_z_Raw z.Raw) c₆ : Sl e_T_api_Cell k₁₈ (V.cut v_z_Raw 0 (min (z.Raw.length : Int) 6 : Int).toNat) (z.Raw.take (min (z.Raw.length : Int) 6 : Int).toNat)) Lit.nil))) (toNat_lt c₇) : Sl e_T_api_Cell k₁₈ (gi [v₁, v₃, (V.cut v_z_Raw 0 (min (z.Raw.length : Int) 6 : Int).toNat)] (x3 : Int).toNat) (gi [x, m, z.Raw.take (min (z.Raw.length : Int) 6 : Int).toNat] (x3 : Int).toNat)) hx₇
          refine WO_c (id := 56) (caps := []) rfl (mp_cons (v := v₆) rfl (mp_cons (v := (gi [v₁, v₃, (V.cut v_z_Raw 0 (min (z.Raw.length : Int) 6 : Int).toNat)] (x3 : Int).toNat)) rfl mp_nil)) ca₇ ?_
          have hO₂₀ : Own B h k₁₉ [eSl e_T_api_Cell v₁ x, eSl eV v₄ [v₁, v₃, (V.cut v_z_Raw 0 (min (z.Raw.length : Int) 6 : Int).toNat)], eSl e_T_api_Cell v₃ m, eBox r₄ [v₅], eSl e_T_api_Cell v₅ g.cells, eSl e_T_api_Cell v₆ x8] := hO₁₉.call hW₇ rfl
          refine WO_v (a_not (t := x9) rfl) ?_
          refine WO_v (a_mv (v := .b (!x9)) rfl) ?_
          obtain ⟨t, hv₁, hp⟩ := bd_some hp
          refine WO_cut 6 (fun fr' k' => Own B h k' [eSl e_T_api_Cell v₁ x, eSl eV v₄ [v₁, v₃, (V.cut v_z_Raw 0 (min (z.Raw.length : Int) 6 : Int).toNat)], eSl e_T_api_Cell v₃ m, eBox r₄ [v₅], eSl e_T_api_Cell v₅ g.cells, eSl e_T_api_Cell v₆ x8] ∧ fr' 105 = .b t ∧ fr' 11 = (gi [v₁, v₃, (V.cut v_z_Raw 0 (min (z.Raw.length : Int) 6 : Int).toNat)] (x3 : Int).toNat) ∧ fr' 13 = .p r₄ 0 ∧ fr' 15 = v₆ ∧ fr' 6 = v₁ ∧ fr' 69 = v₄ ∧ fr' 70 = .i .i64 ([x, m, z.Raw.take (min (z.Raw.length : Int) 6 : Int).toNat].length : Int) ∧ fr' 71 = .i .i64 x3) ?_ ?_
          · clear hp; rcases if_some hv₁ with ⟨b₇, hp⟩ | ⟨b₇, hp⟩
            · skip
              refine WO_off rfl b₇ ?_
              refine WO_off rfl b₇ ?_
              refine WO_off rfl b₇ ?_
              refine WO_off rfl b₇ ?_
              refine WO_off rfl b₇ ?_
              refine WO_v (a_pickT (t := (!x9)) (v := .b t) rfl b₇ (Eq.trans (b := V.b true) rfl (congrArg V.b (Option.some.inj hp)))) ?_
              refine WO_end ?_
              exact ⟨hO₂₀.pick [0, 1, 2, 3, 4, 5] rfl (by decide), rfl, g₁_11, (Eq.trans g₁_13 (unw hg₁)), rfl, g₁_6, g₁_69, g₁_70, g₁_71⟩
            · skip
              refine WO_on rfl b₇ ?_
              refine WO_v (a_mv (v := .p r₄ 0) (Eq.trans g₁_13 (unw hg₁))) ?_
              refine WO_on rfl b₇ ?_
              obtain ⟨x10, hx₈, hp⟩ := bd_some hp
              obtain ⟨u₈, k₂₀, ca₈, rfl, hW₈⟩ := p_grid_Grid_Len.ok (h := k₁₉)  (hO₂₀.box 3 rfl) (hO₂₀.sl 4 rfl : Sl e_T_api_Cell k₁₉ v₅ g.cells) hx₈
              refine WO_c (id := 55) (caps := []) rfl (mp_cons (v := .p r₄ 0) rfl mp_nil) ca₈ ?_
              have hO₂₁ : Own B h k₂₀ [eSl e_T_api_Cell v₁ x, eSl eV v₄ [v₁, v₃, (V.cut v_z_Raw 0 (min (z.Raw.length : Int) 6 : Int).toNat)], eSl e_T_api_Cell v₃ m, eBox r₄ [v₅], eSl e_T_api_Cell v₅ g.cells, eSl e_T_api_Cell v₆ x8] := hO₂₀.call hW₈ rfl
              refine WO_on rfl b₇ ?_
              refine WO_v (a_mv (v := (gi [v₁, v₃, (V.cut v_z_Raw 0 (min (z.Raw.length : Int) 6 : Int).toNat)] (x3 : Int).toNat)) g₁_11) ?_
              refine WO_on rfl b₇ ?_
              refine WO_v (a_len (Lit.at (Lit.cons (hO₂₁.sl 0 rfl : Sl e_T_api_Cell k₂₀ v₁ x) (Lit.cons (hO₂₁.sl 2 rfl : Sl e_T_api_Cell k₂₀ v₃ m) (Lit.cons (Sl.cutU (hO₂₁.rd0 s_z_Raw.rd : Sl e_T_api_Cell k₂₀ v_z_Raw z.Raw) c₆ : Sl e_T_api_Cell k₂₀ (V.cut v_z_Raw 0 (min (z.Raw.length : Int) 6 : Int).toNat) (z.Raw.take (min (z.Raw.length : Int) 6 : Int).toNat)) Lit.nil))) (toNat_lt c₇) : Sl e_T_api_Cell k₂₀ (gi [v₁, v₃, (V.cut v_z_Raw 0 (min (z.Raw.length : Int) 6 : Int).toNat)] (x3 : Int).toNat) (gi [x, m, z.Raw.take (min (z.Raw.length : Int) 6 : Int).toNat] (x3 : Int).toNat)) rfl) ?_
              refine WO_on rfl b₇ ?_
              refine WO_v (a_neI (a := x10) (b := ((gi [x, m, z.Raw.take (min (z.Raw.length : Int) 6 : Int).toNat] (x3 : Int).toNat).length : Int)) rfl rfl) ?_
              refine WO_v (a_pickF (t := (!x9)) (v := .b t) rfl b₇ (Eq.trans (b := V.b (!(decide (x10 = ((gi [x, m, z.Raw.take (min (z.Raw.length : Int) 6 : Int).toNat] (x3 : Int).toNat).length : Int))))) rfl (congrArg V.b (Option.some.inj hp)))) ?_
              refine WO_end ?_
              exact ⟨hO₂₁.pick [0, 1, 2, 3, 4, 5] rfl (by decide), rfl, g₁_11, (Eq.trans g₁_13 (unw hg₁)), rfl, g₁_6, g₁_69, g₁_70, g₁_71⟩
          rintro frg₂ k₂₁ ⟨hO₂₂, g₂_105, g₂_11, g₂_13, g₂_15, g₂_6, g₂_69, g₂_70, g₂_71⟩
          refine WO_end ?_
          refine then_n ?_
          rcases if_some hp with ⟨b₈, hp⟩ | ⟨b₈, hp⟩
          · refine W_cT (t := t) g₂_105 b₈ ?_
            refine W_sq ?_
            refine W_rg ?_
            refine WO_v (a_mv (v := .b false) rfl) ?_
            refine WO_end ?_
            refine then_n ?_
            refine W_rt ?_
            refine then_r ?_
            refine blk_r ?_
            refine then_r ?_
            have hp := Option.some.inj hp; subst hp
            refine (Or.inr (Exists.intro (.inr ()) (And.intro rfl (And.intro (fun h => nomatch h) (fun he => ?_)))))
            subst he; exact (And.intro rfl (And.intro (rfl) (hO₂₂.pick [] rfl (by decide))))
          · refine W_cF (t := t) g₂_105 b₈ ?_
            refine W_sk ?_
            refine then_n ?_
            refine W_sq ?_
            refine W_sq ?_
            refine W_rg ?_
            refine WO_v (a_mv (v := v₆) g₂_15) ?_
            refine WO_v (a_len (hO₂₂.sl 5 rfl : Sl e_T_api_Cell k₂₁ v₆ x8) rfl) ?_
            refine WO_v (a_mv (v := .i .i64 0) rfl) ?_
            refine WO_end ?_
            refine then_n ?_
            refine W_bl ?_
            obtain ⟨o₄, ho₃, hp⟩ := bd_some hp
            refine W.mono (Q := fun e fr k => match (generalizing := false) o₄ with
                | _ => e = (.exit 2) ∧ fr 6 = v₁ ∧ fr 11 = (gi [v₁, v₃, (V.cut v_z_Raw 0 (min (z.Raw.length : Int) 6 : Int).toNat)] (x3 : Int).toNat) ∧ fr 13 = .p r₄ 0 ∧ fr 69 = v₄ ∧ fr 70 = .i .i64 ([x, m, z.Raw.take (min (z.Raw.length : Int) 6 : Int).toNat].length : Int) ∧ fr 71 = .i .i64 x3 ∧ Own B h k [eSl e_T_api_Cell v₁ x, eSl e_T_api_Cell v₃ m, eBox r₄ [v₅], eSl e_T_api_Cell v₅ g.cells, eSl eV v₄ [v₁, v₃, (V.cut v_z_Raw 0 (min (z.Raw.length : Int) 6 : Int).toNat)]]) ?_ ?_
            · clear hp
              refine W_loopF (fun st fr k => match st with | (c, x11) => fr 6 = v₁ ∧ fr 11 = (gi [v₁, v₃, (V.cut v_z_Raw 0 (min (z.Raw.length : Int) 6 : Int).toNat)] (x3 : Int).toNat) ∧ fr 13 = .p r₄ 0 ∧ fr 15 = v₆ ∧ fr 69 = v₄ ∧ fr 70 = .i .i64 ([x, m, z.Raw.take (min (z.Raw.length : Int) 6 : Int).toNat].length : Int) ∧ fr 71 = .i .i64 x3 ∧ fr 107 = .i .i64 (x8.length : Int) ∧ fr 108 = .i .i64 x11 ∧ Own B h k [eSl e_T_api_Cell v₁ x, eSl e_T_api_Cell v₃ m, eBox r₄ [v₅], eSl e_T_api_Cell v₅ g.cells, eSl e_T_api_Cell v₆ c, eSl eV v₄ [v₁, v₃, (V.cut v_z_Raw 0 (min (z.Raw.length : Int) 6 : Int).toNat)]]) ho₃ (s := (x8, 0)) (And.intro (g₂_6) (And.intro (g₂_11) (And.intro (g₂_13) (And.intro (g₂_15) (And.intro (g₂_69) (And.intro (g₂_70) (And.intro (g₂_71) (And.intro (rfl) (And.intro (rfl) (hO₂₂.pick [0, 2, 3, 4, 5, 1] rfl (by decide))))))))))) ?_
              rintro ⟨c, x11⟩ q₅ k₂₃ ⟨q₅_6, q₅_11, q₅_13, q₅_15, q₅_69, q₅_70, q₅_71, q₅_107, q₅_108, hO₂₄⟩ o₅ hp
              dsimp only [p_muntinlaw10_GridChecks.s1] at hp
              refine W_sq ?_
              refine W_rg ?_
              refine WO_v (a_lss (a := x11) (b := (x8.length : Int)) q₅_108 q₅_107) ?_
              refine WO_end ?_
              refine then_n ?_
              refine W_sq ?_
              rcases if_some hp with ⟨b₉, hp⟩ | ⟨b₉, hp⟩
              · refine W_cT (t := (decide (x11 < (x8.length : Int)))) rfl b₉ ?_
                refine W_sk ?_
                refine then_n ?_
                refine W_sq ?_
                refine W_bl ?_
                refine W_sq ?_
                refine W_rg ?_
                refine WO_v (a_mv (v := .i .i64 x11) q₅_108) ?_
                refine WO_v (a_mv (v := .i .i64 x11) rfl) ?_
                refine WO_end ?_
                refine then_n ?_
                refine W_rg ?_
                refine WO_v (a_mv (v := v₆) q₅_15) ?_
                refine WO_v (a_mv (v := .i .i64 x11) rfl) ?_
                refine WO_v (a_build (cs := e_T_api_Cell.c (⟨(⟨0, 0, 0, 0⟩ : A4 Int), (⟨0, 0, 0, 0⟩ : A4 Int)⟩ : T_api_Cell)) (by rw [ev_nil]; rfl)) ?_
                obtain ⟨c₉, hp⟩ := ck_some hp
                refine WO_v (a_ixa (E := e_T_api_Cell) (z := x11) (hO₂₄.sl 4 rfl : Sl e_T_api_Cell k₂₃ v₆ c) rfl rfl c₉) ?_
                refine WO_x (hO₂₄.ste (E := e_T_api_Cell) (y := (⟨(⟨0, 0, 0, 0⟩ : A4 Int), (⟨0, 0, 0, 0⟩ : A4 Int)⟩ : T_api_Cell)) (ws := e_T_api_Cell.c (⟨(⟨0, 0, 0, 0⟩ : A4 Int), (⟨0, 0, 0, 0⟩ : A4 Int)⟩ : T_api_Cell)) 4 rfl rfl (toNat_lt c₉) rfl rfl ⟨rfl, Nat.le_of_ble_eq_true rfl, rfl⟩ rfl) ?_
                rintro _ k₂₄ ⟨rfl, f₇, m₄, hW⟩
                have hO₂₅ : Own B h k₂₄ [eSl e_T_api_Cell v₁ x, eSl e_T_api_Cell v₃ m, eBox r₄ [v₅], eSl e_T_api_Cell v₅ g.cells, eSl e_T_api_Cell v₆ (c.set (x11 : Int).toNat (⟨(⟨0, 0, 0, 0⟩ : A4 Int), (⟨0, 0, 0, 0⟩ : A4 Int)⟩ : T_api_Cell)), eSl eV v₄ [v₁, v₃, (V.cut v_z_Raw 0 (min (z.Raw.length : Int) 6 : Int).toNat)]] := hW
                refine WO_end ?_
                refine blk_n ?_
                refine then_n ?_
                refine W_rg ?_
                obtain ⟨c₁₀, hp⟩ := ck_some hp
                refine WO_v (a_add (a := x11) (b := 1) q₅_108 rfl c₁₀) ?_
                refine WO_v (a_mv (v := .i .i64 (x11 + 1)) rfl) ?_
                refine WO_end ?_
                have hp := Option.some.inj hp; subst hp
                exact (Or.inl (Exists.intro (c.set (x11 : Int).toNat (⟨(⟨0, 0, 0, 0⟩ : A4 Int), (⟨0, 0, 0, 0⟩ : A4 Int)⟩ : T_api_Cell), x11 + 1) (And.intro rfl (And.intro rfl (And.intro (q₅_6) (And.intro (q₅_11) (And.intro (q₅_13) (And.intro (q₅_15) (And.intro (q₅_69) (And.intro (q₅_70) (And.intro (q₅_71) (And.intro (q₅_107) (And.intro (rfl) (hO₂₅.pick [0, 1, 2, 3, 4, 5] rfl (by decide)))))))))))))))
              · refine W_cF (t := (decide (x11 < (x8.length : Int)))) rfl b₉ ?_
                refine W_ex ?_
                refine then_e ?_
                have hp := Option.some.inj hp; subst hp
                refine (Or.inr (Exists.intro () (And.intro rfl (And.intro (fun h => nomatch h) (fun he => ?_)))))
                subst he; exact (And.intro rfl (And.intro (q₅_6) (And.intro (q₅_11) (And.intro (q₅_13) (And.intro (q₅_69) (And.intro (q₅_70) (And.intro (q₅_71) (hO₂₄.pick [0, 1, 2, 3, 5] rfl (by decide)))))))))
            intro e₃ q₄ k₂₂ hJ₃
            obtain ⟨rfl, q₄_6, q₄_11, q₄_13, q₄_69, q₄_70, q₄_71, hO₂₃⟩ := hJ₃
            refine blk_i ?_
            refine then_n ?_
            refine W_sq ?_
            refine W_rg ?_
            refine WO_v (a_mv (v := .p r₄ 0) q₄_13) ?_
            obtain ⟨x12, hx₉, hp⟩ := bd_some hp
            obtain ⟨u₉, k₂₅, ca₉, v₇, rfl, hW₉⟩ := p_grid_Grid_Cells.ok (h := k₂₂)  (hO₂₃.box 2 rfl) (hO₂₃.sl 3 rfl : Sl e_T_api_Cell k₂₂ v₅ g.cells) hx₉
            refine WO_c (id := 57) (caps := []) rfl (mp_cons (v := .p r₄ 0) rfl mp_nil) ca₉ ?_
            have hO₂₆ : Own B h k₂₅ [eSl e_T_api_Cell v₁ x, eSl e_T_api_Cell v₃ m, eBox r₄ [v₅], eSl e_T_api_Cell v₅ g.cells, eSl eV v₄ [v₁, v₃, (V.cut v_z_Raw 0 (min (z.Raw.length : Int) 6 : Int).toNat)], eSl e_T_api_Cell v₇ x12] := hO₂₃.call hW₉ rfl
            refine WO_v (a_mv (v := (gi [v₁, v₃, (V.cut v_z_Raw 0 (min (z.Raw.length : Int) 6 : Int).toNat)] (x3 : Int).toNat)) q₄_11) ?_
            obtain ⟨x13, hx₁₀, hp⟩ := bd_some hp
            obtain ⟨u₁₀, k₂₆, ca₁₀, rfl, hW₁₀⟩ := p_muntinref10_Same.ok (h := k₂₅)  (hO₂₆.sl 5 rfl : Sl e_T_api_Cell k₂₅ v₇ x12) (Lit.at (Lit.cons (hO₂₆.sl 0 rfl : Sl e_T_api_Cell k₂₅ v₁ x) (Lit.cons (hO₂₆.sl 1 rfl : Sl e_T_api_Cell k₂₅ v₃ m) (Lit.cons (Sl.cutU (hO₂₆.rd0 s_z_Raw.rd : Sl e_T_api_Cell k₂₅ v_z_Raw z.Raw) c₆ : Sl e_T_api_Cell k₂₅ (V.cut v_z_Raw 0 (min (z.Raw.length : Int) 6 : Int).toNat) (z.Raw.take (min (z.Raw.length : Int) 6 : Int).toNat)) Lit.nil))) (toNat_lt c₇) : Sl e_T_api_Cell k₂₅ (gi [v₁, v₃, (V.cut v_z_Raw 0 (min (z.Raw.length : Int) 6 : Int).toNat)] (x3 : Int).toNat) (gi [x, m, z.Raw.take (min (z.Raw.length : Int) 6 : Int).toNat] (x3 : Int).toNat)) hx₁₀
            refine WO_c (id := 56) (caps := []) rfl (mp_cons (v := v₇) rfl (mp_cons (v := (gi [v₁, v₃, (V.cut v_z_Raw 0 (min (z.Raw.length : Int) 6 : Int).toNat)] (x3 : Int).toNat)) rfl mp_nil)) ca₁₀ ?_
            have hO₂₇ : Own B h k₂₆ [eSl e_T_api_Cell v₁ x, eSl e_T_api_Cell v₃ m, eBox r₄ [v₅], eSl e_T_api_Cell v₅ g.cells, eSl eV v₄ [v₁, v₃, (V.cut v_z_Raw 0 (min (z.Raw.length : Int) 6 : Int).toNat)], eSl e_T_api_Cell v₇ x12] := hO₂₆.call hW₁₀ rfl
            refine WO_v (a_not (t := x13) rfl) ?_
            refine WO_end ?_
            refine then_n ?_
            rcases if_some hp with ⟨b₁₀, hp⟩ | ⟨b₁₀, hp⟩
            · refine W_cT (t := (!x13)) rfl b₁₀ ?_
              refine W_sq ?_
              refine W_rg ?_
              refine WO_v (a_mv (v := .b false) rfl) ?_
              refine WO_end ?_
              refine then_n ?_
              refine W_rt ?_
              refine blk_r ?_
              refine then_r ?_
              have hp := Option.some.inj hp; subst hp
              refine (Or.inr (Exists.intro (.inr ()) (And.intro rfl (And.intro (fun h => nomatch h) (fun he => ?_)))))
              subst he; exact (And.intro rfl (And.intro (rfl) (hO₂₇.pick [] rfl (by decide))))
            · refine W_cF (t := (!x13)) rfl b₁₀ ?_
              refine W_sk ?_
              refine blk_n ?_
              refine then_n ?_
              refine W_rg ?_
              obtain ⟨c₁₁, hp⟩ := ck_some hp
              refine WO_v (a_add (a := x3) (b := 1) q₄_71 rfl c₁₁) ?_
              refine WO_v (a_mv (v := .i .i64 (x3 + 1)) rfl) ?_
              refine WO_end ?_
              have hp := Option.some.inj hp; subst hp
              exact (Or.inl (Exists.intro (x3 + 1) (And.intro rfl (And.intro rfl (And.intro (q₄_6) (And.intro (q₄_69) (And.intro (q₄_70) (And.intro (rfl) (hO₂₇.pick [0, 4, 1] rfl (by decide))))))))))
    · refine W_cF (t := (decide (x3 < ([x, m, z.Raw.take (min (z.Raw.length : Int) 6 : Int).toNat].length : Int)))) rfl b₃ ?_
      refine W_ex ?_
      refine then_e ?_
      have hp := Option.some.inj hp; subst hp
      refine (Or.inr (Exists.intro (.inl ()) (And.intro rfl (And.intro (fun h => nomatch h) (fun he => ?_)))))
      subst he; exact (And.intro rfl (And.intro (q₃_6) (hO₁₄.pick [0] rfl (by decide))))
  intro e₂ q₂ k₁₃ hJ₂
  rcases o₂ with _ | _
  · obtain ⟨rfl, q₂_6, hO₁₃⟩ := hJ₂
    refine blk_i ?_
    refine then_n ?_
    refine W_sq ?_
    refine W_rg ?_
    obtain ⟨x14, hx₁₁, hp⟩ := bd_some hp
    obtain ⟨u₁₁, k₂₇, ca₁₁, rfl, hW₁₁⟩ := p_muntinlaw10_wakes.ok (h := k₁₃)   hx₁₁
    refine WO_c (id := 47) (caps := []) rfl mp_nil ca₁₁ ?_
    have hO₂₈ : Own B h k₂₇ [eSl e_T_api_Cell v₁ x] := hO₁₃.call hW₁₁ rfl
    refine WO_v (a_mv (v := .b x14) rfl) ?_
    obtain ⟨t1, hv₂, hp⟩ := bd_some hp
    refine WO_cut 4 (fun fr' k' => Own B h k' [eSl e_T_api_Cell v₁ x] ∧ fr' 127 = .b t1) ?_ ?_
    · clear hp; rcases if_some hv₂ with ⟨b₁₁, hp⟩ | ⟨b₁₁, hp⟩
      · skip
        refine WO_on rfl b₁₁ ?_
        refine WO_v (a_mv (v := v₁) q₂_6) ?_
        refine WO_on rfl b₁₁ ?_
        obtain ⟨x15, hx₁₂, hp⟩ := bd_some hp
        obtain ⟨u₁₂, k₂₈, ca₁₂, rfl, hW₁₂⟩ := p_muntinref10_Check.ok (h := k₂₇)  (hO₂₈.sl 0 rfl : Sl e_T_api_Cell k₂₇ v₁ x) hx₁₂
        refine WO_c (id := 34) (caps := []) rfl (mp_cons (v := v₁) rfl mp_nil) ca₁₂ ?_
        have hO₂₉ : Own B h k₂₈ [eSl e_T_api_Cell v₁ x] := hO₂₈.call hW₁₂ rfl
        refine WO_on rfl b₁₁ ?_
        refine WO_v (a_eqI (a := x15) (b := 0) rfl rfl) ?_
        refine WO_v (a_pickT (t := x14) (v := .b t1) rfl b₁₁ (Eq.trans (b := V.b (decide (x15 = 0))) rfl (congrArg V.b (Option.some.inj hp)))) ?_
        refine WO_end ?_
        exact ⟨hO₂₉.pick [0] rfl (by decide), rfl⟩
      · skip
        refine WO_off rfl b₁₁ ?_
        refine WO_off rfl b₁₁ ?_
        refine WO_off rfl b₁₁ ?_
        refine WO_v (a_pickF (t := x14) (v := .b t1) rfl b₁₁ (Eq.trans (b := V.b false) rfl (congrArg V.b (Option.some.inj hp)))) ?_
        refine WO_end ?_
        exact ⟨hO₂₈.pick [0] rfl (by decide), rfl⟩
    rintro frg₃ k₂₉ ⟨hO₃₀, g₃_127⟩
    refine WO_v (a_mv (v := .b t1) g₃_127) ?_
    refine WO_end ?_
    refine then_n ?_
    refine W_rt ?_
    refine Ret_r (rs_t (n := 2) (v := .b t1) rfl rs_nil) ?_
    have hp := Option.some.inj hp; subst hp
    exact (And.intro rfl (hO₃₀.pick [] rfl (by decide)))
  · obtain ⟨rfl, q₂_2, hO₁₃⟩ := hJ₂
    refine blk_r ?_
    refine then_r ?_
    refine Ret_r (rs_t (n := 2) (v := .b false) q₂_2 rs_nil) ?_
    have hp := Option.some.inj hp; subst hp
    exact (And.intro rfl (hO₁₃.pick [] rfl (by decide)))

end Mu
