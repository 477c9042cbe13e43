/- The code comes to what was worked out. -/
import Derived.Test.YtofdeafffbkgbaaMuDf
import Derived.Test.YtofdeafffbkgbaaMuPa
set_option linter.unusedVariables false
set_option linter.unnecessarySimpa false
set_option linter.unusedSimpArgs false
set_option maxHeartbeats 2000000
set_option maxRecDepth 10000
namespace Mu
open Go (IntKind BinOp UnOp)

theorem dec_u8 (cs : List Go.Value) (h : OkL [some .u8] cs) : ∃ x : Int, e_u8.c x = cs.map toV ∧ Ok_u8 x := by
  obtain ⟨n0, cs0, rfl, w0, h⟩ := h.inv_i
  obtain rfl := h.inv_n
  exact ⟨n0, rfl, w0⟩
theorem dec_A3_u8 (cs : List Go.Value) (h : OkL [some .u8, some .u8, some .u8] cs) : ∃ x : A3 Int, e_A3_u8.c x = cs.map toV ∧ Ok_A3_u8 x := by
  obtain ⟨n0, cs0, rfl, w0, h⟩ := h.inv_i
  obtain ⟨n1, cs1, rfl, w1, h⟩ := h.inv_i
  obtain ⟨n2, cs2, rfl, w2, h⟩ := h.inv_i
  obtain rfl := h.inv_n
  exact ⟨⟨n0, n1, n2⟩, rfl, ⟨w0, w1, w2⟩⟩
theorem dec_A2_u8 (cs : List Go.Value) (h : OkL [some .u8, some .u8] cs) : ∃ x : A2 Int, e_A2_u8.c x = cs.map toV ∧ Ok_A2_u8 x := by
  obtain ⟨n0, cs0, rfl, w0, h⟩ := h.inv_i
  obtain ⟨n1, cs1, rfl, w1, h⟩ := h.inv_i
  obtain rfl := h.inv_n
  exact ⟨⟨n0, n1⟩, rfl, ⟨w0, w1⟩⟩
theorem p_muntinref03_Make.ok {h : Hp} {z : T_muntinref03_Raw} {most : Int} {v_z_Arcs : V} (s_z_Arcs : Sl e_A3_u8 h v_z_Arcs z.Arcs) {r : Int × (List T_api_Arc)} (hp : p_muntinref03_Make z most = some r) :
    ∃ u k', Is G 37 [.ag [.i .u8 z.N, v_z_Arcs], .i .i64 most] h u k' ∧ ∃ (v₁ : V), V.tu [.i .i64 r.1, v₁] = u ∧ Own (fun r => r < h.n) h k' [eSl e_T_api_Arc v₁ r.2] := by
  refine WC.is (WC_of G_F_muntinref03_Make ?_)
  unfold p_muntinref03_Make at hp
  let B : Nat → Prop := (fun r => r < h.n)
  have hO : Own B h h [] := Own.start0 h
  refine W_sq ?_
  refine W_rg ?_
  refine WO_x (hO.boxd (v := .ag [.i .u8 z.N, v_z_Arcs]) (cs := [.i .u8 z.N, v_z_Arcs]) hO.fr rfl rfl) ?_
  rintro _ k₁ ⟨r₁, rfl, n₁, f₁, hW⟩
  have hO₁ : Own B h k₁ [eBox r₁ [.i .u8 z.N, v_z_Arcs]] := hW
  refine WO_v (a_mv (v := .i .i64 0) rfl) ?_
  refine WO_v (a_mv (v := .sn) rfl) ?_
  refine WO_end ?_
  refine then_n ?_
  refine W_sq ?_
  refine W_rg ?_
  refine WO_v (a_fa (r := r₁) (o := 0) (o' := 0) rfl rfl) ?_
  refine WO_v (a_ldb (cs := [.i .u8 z.N, v_z_Arcs]) (v := .i .u8 z.N) (hO₁.box 0 rfl) rfl rfl) ?_
  obtain ⟨c₁, hp⟩ := ck_some hp
  refine WO_v (a_conv (a := z.N) rfl c₁) ?_
  refine WO_v (a_mv (v := .i .i64 most) rfl) ?_
  obtain ⟨c₂, hp⟩ := ck_some hp
  refine WO_v (a_rem (a := z.N) (b := most) rfl rfl c₂) ?_
  obtain ⟨c₃, hp⟩ := ck_some hp
  refine WO_v (a_add (a := 1) (b := (z.N.tmod most)) rfl rfl c₃) ?_
  refine WO_v (a_mv (v := .i .i64 (1 + (z.N.tmod most))) rfl) ?_
  refine WO_end ?_
  refine then_n ?_
  refine W_sq ?_
  refine W_rg ?_
  refine WO_v (a_mv (v := .sn) rfl) ?_
  refine WO_end ?_
  refine then_n ?_
  refine W_sq ?_
  refine W_sq ?_
  refine W_rg ?_
  refine WO_v (a_mv (v := .i .i64 0) rfl) ?_
  refine WO_end ?_
  refine then_n ?_
  refine W_bl ?_
  obtain ⟨o₁, ho₁, hp⟩ := bd_some hp
  refine W.mono (Q := fun e fr k => match (generalizing := false) o₁ with
      | l1 => e = (.exit 0) ∧ ∃ (v₃ : V), fr 6 = .i .i64 (1 + (z.N.tmod most)) ∧ fr 7 = v₃ ∧ Own B h k [eSl e_T_api_Arc v₃ l1]) ?_ ?_
  · clear hp
    have hO₃ : Own B h k₁ [eBox r₁ [.i .u8 z.N, v_z_Arcs], eSl e_T_api_Arc .sn ([] : List T_api_Arc)] := hO₁.nil e_T_api_Arc
    refine W_loopF (fun st fr k => match st with | (l, i) => ∃ (v₂ : V), fr 2 = .p r₁ 0 ∧ fr 6 = .i .i64 (1 + (z.N.tmod most)) ∧ fr 7 = v₂ ∧ fr 8 = .i .i64 i ∧ Own B h k [eBox r₁ [.i .u8 z.N, v_z_Arcs], eSl e_T_api_Arc v₂ l]) ho₁ (s := (([] : List T_api_Arc), 0)) (Exists.intro V.sn (And.intro (rfl) (And.intro (rfl) (And.intro (rfl) (And.intro (rfl) (hO₃.pick [0, 1] rfl (by decide))))))) ?_
    rintro ⟨l, i⟩ q₂ k₃ ⟨v₂, q₂_2, q₂_6, q₂_7, q₂_8, hO₄⟩ o₂ hp
    dsimp only [p_muntinref03_Make.s0] at hp
    refine W_sq ?_
    refine W_sq ?_
    refine W_rg ?_
    refine WO_v (a_mv (v := .i .i64 i) q₂_8) ?_
    refine WO_v (a_fa (r := r₁) (o := 0) (o' := 1) q₂_2 rfl) ?_
    refine WO_v (a_ldb (cs := [.i .u8 z.N, v_z_Arcs]) (v := v_z_Arcs) (hO₄.box 0 rfl) rfl rfl) ?_
    refine WO_v (a_len (hO₄.rd0 s_z_Arcs.rd : Sl e_A3_u8 k₃ v_z_Arcs z.Arcs) rfl) ?_
    refine WO_v (a_lss (a := i) (b := (z.Arcs.length : Int)) rfl rfl) ?_
    refine WO_v (a_mv (v := .b (decide (i < (z.Arcs.length : Int)))) rfl) ?_
    refine WO_cut 3 (fun fr' k' => k₃ = k' ∧ fr' 26 = .b ((decide (i < (z.Arcs.length : Int))) && (decide (i < 40))) ∧ fr' 2 = .p r₁ 0 ∧ fr' 6 = .i .i64 (1 + (z.N.tmod most)) ∧ fr' 7 = v₂ ∧ fr' 8 = .i .i64 i) ?_ ?_
    · rcases bc (decide (i < (z.Arcs.length : Int))) with b₁ | b₁
      · skip
        refine WO_on rfl b₁ ?_
        refine WO_v (a_mv (v := .i .i64 i) q₂_8) ?_
        refine WO_on rfl b₁ ?_
        refine WO_v (a_lss (a := i) (b := 40) rfl rfl) ?_
        refine WO_v (a_pickT (t := (decide (i < (z.Arcs.length : Int)))) (v := .b ((decide (i < (z.Arcs.length : Int))) && (decide (i < 40)))) rfl b₁ (Eq.trans (b := V.b (decide (i < 40))) rfl (and_on b₁))) ?_
        refine WO_end ?_
        exact ⟨rfl, rfl, q₂_2, q₂_6, q₂_7, q₂_8⟩
      · skip
        refine WO_off rfl b₁ ?_
        refine WO_off rfl b₁ ?_
        refine WO_v (a_pickF (t := (decide (i < (z.Arcs.length : Int)))) (v := .b ((decide (i < (z.Arcs.length : Int))) && (decide (i < 40)))) rfl b₁ (Eq.trans (b := V.b false) rfl (and_off b₁))) ?_
        refine WO_end ?_
        exact ⟨rfl, rfl, q₂_2, q₂_6, q₂_7, q₂_8⟩
    rintro frg₁ _ ⟨rfl, g₁_26, g₁_2, g₁_6, g₁_7, g₁_8⟩
    refine WO_end ?_
    refine then_n ?_
    rcases if_some hp with ⟨b₂, hp⟩ | ⟨b₂, hp⟩
    · refine W_cT (t := ((decide (i < (z.Arcs.length : Int))) && (decide (i < 40)))) g₁_26 b₂ ?_
      refine W_sk ?_
      refine then_n ?_
      refine W_sq ?_
      refine W_bl ?_
      refine W_sq ?_
      refine W_rg ?_
      refine WO_v (a_fa (r := r₁) (o := 0) (o' := 1) g₁_2 rfl) ?_
      refine WO_v (a_ldb (cs := [.i .u8 z.N, v_z_Arcs]) (v := v_z_Arcs) (hO₄.box 0 rfl) rfl rfl) ?_
      refine WO_v (a_mv (v := .i .i64 i) g₁_8) ?_
      obtain ⟨c₄, hp⟩ := ck_some hp
      refine WO_v (a_ixa (E := e_A3_u8) (z := i) (hO₄.rd0 s_z_Arcs.rd : Sl e_A3_u8 k₃ v_z_Arcs z.Arcs) rfl rfl c₄) ?_
      refine WO_v (a_ixaaE (off := 0) (off2 := 0) (z := 0) (hO₄.rd0 s_z_Arcs.rd : Sl e_A3_u8 k₃ v_z_Arcs z.Arcs) (toNat_lt c₄) rfl rfl (by decide) rfl) ?_
      refine WO_v (a_ldE (w := .i .u8 ((gi z.Arcs (i : Int).toNat).get 0)) (hO₄.rd0 s_z_Arcs.rd : Sl e_A3_u8 k₃ v_z_Arcs z.Arcs) rfl (toNat_lt c₄) rfl) ?_
      obtain ⟨c₅, hp⟩ := ck_some hp
      refine WO_v (a_conv (a := ((gi z.Arcs (i : Int).toNat).get 0)) rfl c₅) ?_
      refine WO_v (a_mv (v := .i .i64 (1 + (z.N.tmod most))) g₁_6) ?_
      obtain ⟨c₆, hp⟩ := ck_some hp
      refine WO_v (a_rem (a := ((gi z.Arcs (i : Int).toNat).get 0)) (b := (1 + (z.N.tmod most))) rfl rfl c₆) ?_
      refine WO_v (a_mv (v := .i .i64 (((gi z.Arcs (i : Int).toNat).get 0).tmod (1 + (z.N.tmod most)))) rfl) ?_
      refine WO_end ?_
      refine then_n ?_
      refine W_sq ?_
      refine W_rg ?_
      refine WO_v (a_fa (r := r₁) (o := 0) (o' := 1) g₁_2 rfl) ?_
      refine WO_v (a_ldb (cs := [.i .u8 z.N, v_z_Arcs]) (v := v_z_Arcs) (hO₄.box 0 rfl) rfl rfl) ?_
      refine WO_v (a_mv (v := .i .i64 i) g₁_8) ?_
      refine WO_v (a_ixa (E := e_A3_u8) (z := i) (hO₄.rd0 s_z_Arcs.rd : Sl e_A3_u8 k₃ v_z_Arcs z.Arcs) rfl rfl c₄) ?_
      refine WO_v (a_ixaaE (off := 0) (off2 := 1) (z := 1) (hO₄.rd0 s_z_Arcs.rd : Sl e_A3_u8 k₃ v_z_Arcs z.Arcs) (toNat_lt c₄) rfl rfl (by decide) rfl) ?_
      refine WO_v (a_ldE (w := .i .u8 ((gi z.Arcs (i : Int).toNat).get 1)) (hO₄.rd0 s_z_Arcs.rd : Sl e_A3_u8 k₃ v_z_Arcs z.Arcs) rfl (toNat_lt c₄) rfl) ?_
      obtain ⟨c₇, hp⟩ := ck_some hp
      refine WO_v (a_conv (a := ((gi z.Arcs (i : Int).toNat).get 1)) rfl c₇) ?_
      refine WO_v (a_mv (v := .i .i64 (1 + (z.N.tmod most))) g₁_6) ?_
      refine WO_v (a_rem (a := ((gi z.Arcs (i : Int).toNat).get 1)) (b := (1 + (z.N.tmod most))) rfl rfl c₆) ?_
      refine WO_v (a_mv (v := .i .i64 (((gi z.Arcs (i : Int).toNat).get 1).tmod (1 + (z.N.tmod most)))) rfl) ?_
      refine WO_end ?_
      refine then_n ?_
      refine W_sq ?_
      refine W_sq ?_
      refine W_rg ?_
      refine WO_v (a_mv (v := .i .i64 (((gi z.Arcs (i : Int).toNat).get 0).tmod (1 + (z.N.tmod most)))) rfl) ?_
      refine WO_v (a_mv (v := .i .i64 (((gi z.Arcs (i : Int).toNat).get 1).tmod (1 + (z.N.tmod most)))) rfl) ?_
      refine WO_v (a_gtr (a := (((gi z.Arcs (i : Int).toNat).get 0).tmod (1 + (z.N.tmod most)))) (b := (((gi z.Arcs (i : Int).toNat).get 1).tmod (1 + (z.N.tmod most)))) rfl rfl) ?_
      refine WO_end ?_
      refine then_n ?_
      obtain ⟨o₃, ho₂, hp⟩ := bd_some hp
      refine W.mono (Q := fun e fr k => match (generalizing := false) o₃ with
          | (a, b) => e = .normal ∧ fr 2 = .p r₁ 0 ∧ fr 6 = .i .i64 (1 + (z.N.tmod most)) ∧ fr 7 = v₂ ∧ fr 8 = .i .i64 i ∧ fr 9 = .i .i64 a ∧ fr 10 = .i .i64 b ∧ Own B h k [eBox r₁ [.i .u8 z.N, v_z_Arcs], eSl e_T_api_Arc v₂ l]) ?_ ?_
      · clear hp; have hp := ho₂; clear ho₂
        rcases if_some hp with ⟨b₃, hp⟩ | ⟨b₃, hp⟩
        · refine W_cT (t := (decide ((((gi z.Arcs (i : Int).toNat).get 1).tmod (1 + (z.N.tmod most))) < (((gi z.Arcs (i : Int).toNat).get 0).tmod (1 + (z.N.tmod most)))))) rfl b₃ ?_
          refine W_sq ?_
          refine W_rg ?_
          refine WO_v (a_mv (v := .i .i64 (((gi z.Arcs (i : Int).toNat).get 0).tmod (1 + (z.N.tmod most)))) rfl) ?_
          refine WO_v (a_mv (v := .i .i64 (((gi z.Arcs (i : Int).toNat).get 0).tmod (1 + (z.N.tmod most)))) rfl) ?_
          refine WO_end ?_
          refine then_n ?_
          refine W_sq ?_
          refine W_rg ?_
          refine WO_v (a_mv (v := .i .i64 (((gi z.Arcs (i : Int).toNat).get 1).tmod (1 + (z.N.tmod most)))) rfl) ?_
          refine WO_v (a_mv (v := .i .i64 (((gi z.Arcs (i : Int).toNat).get 1).tmod (1 + (z.N.tmod most)))) rfl) ?_
          refine WO_end ?_
          refine then_n ?_
          refine W_rg ?_
          refine WO_v (a_mv (v := .i .i64 (((gi z.Arcs (i : Int).toNat).get 0).tmod (1 + (z.N.tmod most)))) rfl) ?_
          refine WO_v (a_mv (v := .i .i64 (((gi z.Arcs (i : Int).toNat).get 0).tmod (1 + (z.N.tmod most)))) rfl) ?_
          refine WO_end ?_
          have hp := Option.some.inj hp; subst hp
          exact (And.intro rfl (And.intro (g₁_2) (And.intro (g₁_6) (And.intro (g₁_7) (And.intro (g₁_8) (And.intro (rfl) (And.intro (rfl) (hO₄.pick [0, 1] rfl (by decide)))))))))
        · refine W_cF (t := (decide ((((gi z.Arcs (i : Int).toNat).get 1).tmod (1 + (z.N.tmod most))) < (((gi z.Arcs (i : Int).toNat).get 0).tmod (1 + (z.N.tmod most)))))) rfl b₃ ?_
          refine W_sk ?_
          have hp := Option.some.inj hp; subst hp
          exact (And.intro rfl (And.intro (g₁_2) (And.intro (g₁_6) (And.intro (g₁_7) (And.intro (g₁_8) (And.intro (rfl) (And.intro (rfl) (hO₄.pick [0, 1] rfl (by decide)))))))))
      intro e₂ q₃ k₄ hJ₂
      obtain ⟨a, b⟩ := o₃
      obtain ⟨rfl, q₃_2, q₃_6, q₃_7, q₃_8, q₃_9, q₃_10, hO₅⟩ := hJ₂
      refine then_n ?_
      refine W_sq ?_
      refine W_rg ?_
      refine WO_v (a_mv (v := .i .i64 a) q₃_9) ?_
      refine WO_v (a_mv (v := .i .i64 b) q₃_10) ?_
      refine WO_v (a_lss (a := a) (b := b) rfl rfl) ?_
      refine WO_end ?_
      refine then_n ?_
      rcases if_some hp with ⟨b₄, hp⟩ | ⟨b₄, hp⟩
      · refine W_cT (t := (decide (a < b))) rfl b₄ ?_
        refine W_rg ?_
        refine WO_v (a_mv (v := v₂) q₃_7) ?_
        refine WO_v (a_mv (v := .i .i64 a) q₃_9) ?_
        refine WO_v (a_mv (v := .i .i64 b) q₃_10) ?_
        refine WO_v (a_fa (r := r₁) (o := 0) (o' := 1) q₃_2 rfl) ?_
        refine WO_v (a_ldb (cs := [.i .u8 z.N, v_z_Arcs]) (v := v_z_Arcs) (hO₅.box 0 rfl) rfl rfl) ?_
        refine WO_v (a_mv (v := .i .i64 i) q₃_8) ?_
        refine WO_v (a_ixa (E := e_A3_u8) (z := i) (hO₅.rd0 s_z_Arcs.rd : Sl e_A3_u8 k₄ v_z_Arcs z.Arcs) rfl rfl c₄) ?_
        refine WO_v (a_ixaaE (off := 0) (off2 := 2) (z := 2) (hO₅.rd0 s_z_Arcs.rd : Sl e_A3_u8 k₄ v_z_Arcs z.Arcs) (toNat_lt c₄) rfl rfl (by decide) rfl) ?_
        refine WO_v (a_ldE (w := .i .u8 ((gi z.Arcs (i : Int).toNat).get 2)) (hO₅.rd0 s_z_Arcs.rd : Sl e_A3_u8 k₄ v_z_Arcs z.Arcs) rfl (toNat_lt c₄) rfl) ?_
        obtain ⟨c₈, hp⟩ := ck_some hp
        refine WO_v (a_conv (a := ((gi z.Arcs (i : Int).toNat).get 2)) rfl c₈) ?_
        refine WO_v (a_rem (a := ((gi z.Arcs (i : Int).toNat).get 2)) (b := 8) rfl rfl (by decide)) ?_
        refine WO_v (a_build (cs := e_T_api_Arc.c (⟨a, b, ((gi z.Arcs (i : Int).toNat).get 2).tmod 8⟩ : T_api_Arc)) (by rw [(ev_cons (v := .i .i64 a) rfl (ev_cons (v := .i .i64 b) rfl (ev_cons (v := .i .i64 (((gi z.Arcs (i : Int).toNat).get 2).tmod 8)) rfl ev_nil)))]; rfl)) ?_
        refine WO_x (hO₅.bsl (E := e_T_api_Arc) (l := [(⟨a, b, ((gi z.Arcs (i : Int).toNat).get 2).tmod 8⟩ : T_api_Arc)]) hO₅.fr (by rw [(ev_cons (v := .ag (e_T_api_Arc.c (⟨a, b, ((gi z.Arcs (i : Int).toNat).get 2).tmod 8⟩ : T_api_Arc))) rfl ev_nil)]; rfl) rfl) ?_
        rintro v₄ k₅ ⟨r₂, f₂, hW⟩
        have hO₆ : Own B h k₅ [eBox r₁ [.i .u8 z.N, v_z_Arcs], eSl e_T_api_Arc v₂ l, eSl e_T_api_Arc v₄ [(⟨a, b, ((gi z.Arcs (i : Int).toNat).get 2).tmod 8⟩ : T_api_Arc)]] := hW
        obtain ⟨c₉, hp⟩ := ck_some hp
        refine WO_x (hO₆.app (E := e_T_api_Arc) (bytes := 24) 1 hO₆.fr rfl (hO₆.sl 2 rfl : Sl e_T_api_Arc k₅ v₄ [(⟨a, b, ((gi z.Arcs (i : Int).toNat).get 2).tmod 8⟩ : T_api_Arc)]) rfl rfl (fun _ => rfl) c₉ (by decide)) ?_
        rintro v₅ k₆ ⟨f₃, hW⟩
        have hO₇ : Own B h k₆ [eBox r₁ [.i .u8 z.N, v_z_Arcs], eSl e_T_api_Arc v₅ (l ++ [(⟨a, b, ((gi z.Arcs (i : Int).toNat).get 2).tmod 8⟩ : T_api_Arc)]), eSl e_T_api_Arc v₄ [(⟨a, b, ((gi z.Arcs (i : Int).toNat).get 2).tmod 8⟩ : T_api_Arc)]] := hW
        refine WO_v (a_mv (v := v₅) rfl) ?_
        refine WO_end ?_
        refine blk_n ?_
        refine then_n ?_
        refine W_rg ?_
        refine WO_v (a_mv (v := .i .i64 i) q₃_8) ?_
        obtain ⟨c₁₀, hp⟩ := ck_some hp
        refine WO_v (a_add (a := i) (b := 1) rfl rfl c₁₀) ?_
        refine WO_v (a_mv (v := .i .i64 (i + 1)) rfl) ?_
        refine WO_end ?_
        have hp := Option.some.inj hp; subst hp
        exact (Or.inl (Exists.intro (l ++ [(⟨a, b, ((gi z.Arcs (i : Int).toNat).get 2).tmod 8⟩ : T_api_Arc)], i + 1) (And.intro rfl (And.intro rfl (Exists.intro v₅ (And.intro (q₃_2) (And.intro (q₃_6) (And.intro (rfl) (And.intro (rfl) (hO₇.pick [0, 1] rfl (by decide)))))))))))
      · refine W_cF (t := (decide (a < b))) rfl b₄ ?_
        refine W_sk ?_
        refine blk_n ?_
        refine then_n ?_
        refine W_rg ?_
        refine WO_v (a_mv (v := .i .i64 i) q₃_8) ?_
        obtain ⟨c₁₁, hp⟩ := ck_some hp
        refine WO_v (a_add (a := i) (b := 1) rfl rfl c₁₁) ?_
        refine WO_v (a_mv (v := .i .i64 (i + 1)) rfl) ?_
        refine WO_end ?_
        have hp := Option.some.inj hp; subst hp
        exact (Or.inl (Exists.intro (l, i + 1) (And.intro rfl (And.intro rfl (Exists.intro v₂ (And.intro (q₃_2) (And.intro (q₃_6) (And.intro (q₃_7) (And.intro (rfl) (hO₅.pick [0, 1] rfl (by decide)))))))))))
    · refine W_cF (t := ((decide (i < (z.Arcs.length : Int))) && (decide (i < 40)))) g₁_26 b₂ ?_
      refine W_ex ?_
      refine then_e ?_
      have hp := Option.some.inj hp; subst hp
      refine (Or.inr (Exists.intro l (And.intro rfl (And.intro (fun h => nomatch h) (fun he => ?_)))))
      subst he; exact (And.intro rfl (Exists.intro v₂ (And.intro (g₁_6) (And.intro (g₁_7) (hO₄.pick [1] rfl (by decide))))))
  intro e₁ q₁ k₂ hJ₁
  obtain ⟨l1, rfl⟩ : ∃ x, x = o₁ := ⟨_, rfl⟩
  obtain ⟨rfl, v₃, q₁_6, q₁_7, hO₂⟩ := hJ₁
  refine blk_i ?_
  refine then_n ?_
  refine W_sq ?_
  refine W_rg ?_
  refine WO_v (a_mv (v := .i .i64 (1 + (z.N.tmod most))) q₁_6) ?_
  refine WO_v (a_mv (v := v₃) q₁_7) ?_
  refine WO_v (a_mv (v := .i .i64 (1 + (z.N.tmod most))) rfl) ?_
  refine WO_v (a_mv (v := v₃) rfl) ?_
  refine WO_end ?_
  refine then_n ?_
  refine W_rt ?_
  refine Ret_r (rs_t (n := 4) (v := .i .i64 (1 + (z.N.tmod most))) rfl (rs_t (n := 5) (v := v₃) rfl rs_nil)) ?_
  have hp := Option.some.inj hp; subst hp
  exact (Exists.intro v₃ (And.intro rfl (hO₂.pick [0] rfl (by decide))))

theorem p_slices_IndexFunc_api_Arc.ok {h : Hp} {s : List T_api_Arc} {f : T_api_Arc → Option Bool} {v_s : V} {id_f : Nat} {cap_f : List V} (s_s : Sl e_T_api_Arc h v_s s) (f_f : ∀ (k : Hp) (x0 : T_api_Arc) (y : Bool), Ex' (fun r => r < h.n) h k → f x0 = some y → ∃ u k', Is G id_f (.ag (e_T_api_Arc.c x0) :: cap_f) k u k' ∧ V.b y = u ∧ Own (fun r => r < k.n) k k' []) {r : Int} (hp : p_slices_IndexFunc_api_Arc s f = some r) :
    ∃ u k', Is G 72 [v_s, .f id_f cap_f] h u k' ∧ V.i .i64 r = u ∧ Own (fun r => r < h.n) h k' [] := by
  refine WC.is (WC_of G_F_slices_IndexFunc_api_Arc ?_)
  unfold p_slices_IndexFunc_api_Arc at hp
  let B : Nat → Prop := (fun r => r < h.n)
  have hO : Own B h h [] := Own.start0 h
  refine W_sq ?_
  refine W_rg ?_
  refine WO_v (a_mv (v := .i .i64 0) rfl) ?_
  refine WO_end ?_
  refine then_n ?_
  refine W_sq ?_
  refine W_sq ?_
  refine W_rg ?_
  refine WO_v (a_mv (v := v_s) rfl) ?_
  refine WO_v (a_len (hO.rd0 s_s.rd : Sl e_T_api_Arc h v_s s) rfl) ?_
  refine WO_v (a_mv (v := .i .i64 0) rfl) ?_
  refine WO_end ?_
  refine then_n ?_
  refine W_bl ?_
  obtain ⟨o₁, ho₁, hp⟩ := bd_some hp
  refine W.mono (Q := fun e fr k => match (generalizing := false) o₁ with
      | .inl _ => e = (.exit 0) ∧ Own B h k []
      | .inr x1 => e = .ret ∧ fr 4 = .i .i64 x1 ∧ Own B h k []) ?_ ?_
  · clear hp
    refine W_loopF (fun st fr k => match st with | x => fr 0 = v_s ∧ fr 1 = .f id_f cap_f ∧ fr 7 = .i .i64 (s.length : Int) ∧ fr 8 = .i .i64 x ∧ Own B h k []) ho₁ (s := 0) (And.intro (rfl) (And.intro (rfl) (And.intro (rfl) (And.intro (rfl) (hO.pick [] rfl (by decide)))))) ?_
    rintro x q₂ k₂ ⟨q₂_0, q₂_1, q₂_7, q₂_8, hO₂⟩ o₂ hp
    dsimp only [p_slices_IndexFunc_api_Arc.s0] at hp
    refine W_sq ?_
    refine W_rg ?_
    refine WO_v (a_lss (a := x) (b := (s.length : Int)) q₂_8 q₂_7) ?_
    refine WO_end ?_
    refine then_n ?_
    refine W_sq ?_
    rcases if_some hp with ⟨b₁, hp⟩ | ⟨b₁, hp⟩
    · refine W_cT (t := (decide (x < (s.length : Int)))) rfl b₁ ?_
      refine W_sk ?_
      refine then_n ?_
      refine W_sq ?_
      refine W_bl ?_
      refine W_sq ?_
      refine W_rg ?_
      refine WO_v (a_mv (v := .i .i64 x) q₂_8) ?_
      refine WO_v (a_mv (v := .i .i64 x) rfl) ?_
      refine WO_end ?_
      refine then_n ?_
      refine W_sq ?_
      refine W_rg ?_
      refine WO_v (a_mv (v := .f id_f cap_f) q₂_1) ?_
      refine WO_v (a_mv (v := v_s) q₂_0) ?_
      refine WO_v (a_mv (v := .i .i64 x) rfl) ?_
      obtain ⟨c₁, hp⟩ := ck_some hp
      refine WO_v (a_ixa (E := e_T_api_Arc) (z := x) (hO₂.rd0 s_s.rd : Sl e_T_api_Arc k₂ v_s s) rfl rfl c₁) ?_
      refine WO_v (a_ldA (E := e_T_api_Arc) (hO₂.rd0 s_s.rd : Sl e_T_api_Arc k₂ v_s s) rfl (toNat_lt c₁)) ?_
      obtain ⟨x2, hx₁, hp⟩ := bd_some hp
      obtain ⟨u₁, k₃, ca₁, rfl, hW₁⟩ := f_f _ _ _ hO₂.ext hx₁
      refine WO_c (id := id_f) (caps := cap_f) rfl (mp_cons (v := .ag (e_T_api_Arc.c (gi s (x : Int).toNat))) rfl mp_nil) ca₁ ?_
      have hO₃ : Own B h k₃ [] := hO₂.call hW₁ rfl
      refine WO_end ?_
      refine then_n ?_
      rcases if_some hp with ⟨b₂, hp⟩ | ⟨b₂, hp⟩
      · refine W_cT (t := x2) rfl b₂ ?_
        refine W_sq ?_
        refine W_rg ?_
        refine WO_v (a_mv (v := .i .i64 x) rfl) ?_
        refine WO_v (a_mv (v := .i .i64 x) rfl) ?_
        refine WO_end ?_
        refine then_n ?_
        refine W_rt ?_
        refine blk_r ?_
        refine then_r ?_
        have hp := Option.some.inj hp; subst hp
        refine (Or.inr (Exists.intro (.inr x) (And.intro rfl (And.intro (fun h => nomatch h) (fun he => ?_)))))
        subst he; exact (And.intro rfl (And.intro (rfl) (hO₃.pick [] rfl (by decide))))
      · refine W_cF (t := x2) rfl b₂ ?_
        refine W_sk ?_
        refine blk_n ?_
        refine then_n ?_
        refine W_rg ?_
        obtain ⟨c₂, hp⟩ := ck_some hp
        refine WO_v (a_add (a := x) (b := 1) q₂_8 rfl c₂) ?_
        refine WO_v (a_mv (v := .i .i64 (x + 1)) rfl) ?_
        refine WO_end ?_
        have hp := Option.some.inj hp; subst hp
        exact (Or.inl (Exists.intro (x + 1) (And.intro rfl (And.intro rfl (And.intro (q₂_0) (And.intro (q₂_1) (And.intro (q₂_7) (And.intro (rfl) (hO₃.pick [] rfl (by decide))))))))))
    · refine W_cF (t := (decide (x < (s.length : Int)))) rfl b₁ ?_
      refine W_ex ?_
      refine then_e ?_
      have hp := Option.some.inj hp; subst hp
      refine (Or.inr (Exists.intro (.inl ()) (And.intro rfl (And.intro (fun h => nomatch h) (fun he => ?_)))))
      subst he; exact (And.intro rfl (hO₂.pick [] rfl (by decide)))
  intro e₁ q₁ k₁ hJ₁
  rcases o₁ with _ | x1
  · obtain ⟨rfl, hO₁⟩ := hJ₁
    refine blk_i ?_
    refine then_n ?_
    refine W_sq ?_
    refine W_rg ?_
    refine WO_v (a_mv (v := .i .i64 (-1)) rfl) ?_
    refine WO_end ?_
    refine then_n ?_
    refine W_rt ?_
    refine Ret_r (rs_t (n := 4) (v := .i .i64 (-1)) rfl rs_nil) ?_
    have hp := Option.some.inj hp; subst hp
    exact (And.intro rfl (hO₁.pick [] rfl (by decide)))
  · obtain ⟨rfl, q₁_4, hO₁⟩ := hJ₁
    refine blk_r ?_
    refine then_r ?_
    refine Ret_r (rs_t (n := 4) (v := .i .i64 x1) q₁_4 rs_nil) ?_
    have hp := Option.some.inj hp; subst hp
    exact (And.intro rfl (hO₁.pick [] rfl (by decide)))

theorem p_slices_ContainsFunc_api_Arc.ok {h : Hp} {s : List T_api_Arc} {f : T_api_Arc → Option Bool} {v_s : V} {id_f : Nat} {cap_f : List V} (s_s : Sl e_T_api_Arc h v_s s) (f_f : ∀ (k : Hp) (x0 : T_api_Arc) (y : Bool), Ex' (fun r => r < h.n) h k → f x0 = some y → ∃ u k', Is G id_f (.ag (e_T_api_Arc.c x0) :: cap_f) k u k' ∧ V.b y = u ∧ Own (fun r => r < k.n) k k' []) {r : Bool} (hp : p_slices_ContainsFunc_api_Arc s f = some r) :
    ∃ u k', Is G 42 [v_s, .f id_f cap_f] h u k' ∧ V.b r = u ∧ Own (fun r => r < h.n) h k' [] := by
  refine WC.is (WC_of G_F_slices_ContainsFunc_api_Arc ?_)
  unfold p_slices_ContainsFunc_api_Arc at hp
  let B : Nat → Prop := (fun r => r < h.n)
  have hO : Own B h h [] := Own.start0 h
  refine W_sq ?_
  refine W_rg ?_
  refine WO_v (a_mv (v := .b false) rfl) ?_
  refine WO_end ?_
  refine then_n ?_
  refine W_sq ?_
  refine W_rg ?_
  refine WO_v (a_mv (v := v_s) rfl) ?_
  refine WO_v (a_mv (v := .f id_f cap_f) rfl) ?_
  obtain ⟨x, hx₁, hp⟩ := bd_some hp
  obtain ⟨u₁, k₁, ca₁, rfl, hW₁⟩ := p_slices_IndexFunc_api_Arc.ok (h := h)  (hO.rd0 s_s.rd : Sl e_T_api_Arc h v_s s) (fun k z0 y hk hx => f_f k z0 y (exTo hO hk) hx) hx₁
  refine WO_c (id := 72) (caps := []) rfl (mp_cons (v := v_s) rfl (mp_cons (v := .f id_f cap_f) rfl mp_nil)) ca₁ ?_
  have hO₁ : Own B h k₁ [] := hO.call hW₁ rfl
  refine WO_v (a_geq (a := x) (b := 0) rfl rfl) ?_
  refine WO_v (a_mv (v := .b (decide (0 ≤ x))) rfl) ?_
  refine WO_end ?_
  refine then_n ?_
  refine W_rt ?_
  refine Ret_r (rs_t (n := 4) (v := .b (decide (0 ≤ x))) rfl rs_nil) ?_
  have hp := Option.some.inj hp; subst hp
  exact (And.intro rfl (hO₁.pick [] rfl (by decide)))

theorem p_dag_right_1.ok {h : Hp} {a : T_api_Arc} {c0 : Int} {r_c0 : Nat} {w_c0 : Bool} (b_c0 : h.m r_c0 = some (.cells w_c0 [.i .i64 c0])) {r : Bool} (hp : p_dag_right_1 a c0 = some r) :
    ∃ u k', Is G 92 [.ag (e_T_api_Arc.c a), .p r_c0 0] h u k' ∧ V.b r = u ∧ Own (fun r => r < h.n) h k' [] := by
  refine WC.is (WC_of G_F_dag_right_1 ?_)
  unfold p_dag_right_1 at hp
  let B : Nat → Prop := (fun r => r < h.n)
  have hO : Own B h h [] := Own.start0 h
  refine W_sq ?_
  refine W_rg ?_
  refine WO_x (hO.boxd (v := .ag (e_T_api_Arc.c a)) (cs := e_T_api_Arc.c a) hO.fr rfl rfl) ?_
  rintro _ k₁ ⟨r₁, rfl, n₁, f₁, hW⟩
  have hO₁ : Own B h k₁ [eBox r₁ (e_T_api_Arc.c a)] := hW
  refine WO_v (a_mv (v := .b false) rfl) ?_
  refine WO_end ?_
  refine then_n ?_
  refine W_sq ?_
  refine W_rg ?_
  refine WO_v (a_fa (r := r₁) (o := 0) (o' := 0) rfl rfl) ?_
  refine WO_v (a_ldb (cs := (e_T_api_Arc.c a)) (v := .i .i64 a.From) (hO₁.box 0 rfl) rfl rfl) ?_
  refine WO_v (a_lss (a := a.From) (b := 0) rfl rfl) ?_
  refine WO_v (a_mv (v := .b (decide (a.From < 0))) rfl) ?_
  refine WO_cut 5 (fun fr' k' => k₁ = k' ∧ fr' 12 = .b ((decide (a.From < 0)) || (decide (c0 ≤ a.From))) ∧ fr' 1 = .p r_c0 0 ∧ fr' 2 = .p r₁ 0) ?_ ?_
  · rcases bc (decide (a.From < 0)) with b₁ | b₁
    · skip
      refine WO_off rfl b₁ ?_
      refine WO_off rfl b₁ ?_
      refine WO_off rfl b₁ ?_
      refine WO_off rfl b₁ ?_
      refine WO_v (a_pickT (t := (decide (a.From < 0))) (v := .b ((decide (a.From < 0)) || (decide (c0 ≤ a.From)))) rfl b₁ (Eq.trans (b := V.b true) rfl (or_off b₁))) ?_
      refine WO_end ?_
      exact ⟨rfl, rfl, rfl, rfl⟩
    · skip
      refine WO_on rfl b₁ ?_
      refine WO_v (a_fa (r := r₁) (o := 0) (o' := 0) rfl rfl) ?_
      refine WO_on rfl b₁ ?_
      refine WO_v (a_ldb (cs := (e_T_api_Arc.c a)) (v := .i .i64 a.From) (hO₁.box 0 rfl) rfl rfl) ?_
      refine WO_on rfl b₁ ?_
      refine WO_v (a_ldb (cs := [.i .i64 c0]) (v := .i .i64 c0) (hO₁.rdB0 (RdB.of b_c0)).choose_spec rfl rfl) ?_
      refine WO_on rfl b₁ ?_
      refine WO_v (a_geq (a := a.From) (b := c0) rfl rfl) ?_
      refine WO_v (a_pickF (t := (decide (a.From < 0))) (v := .b ((decide (a.From < 0)) || (decide (c0 ≤ a.From)))) rfl b₁ (Eq.trans (b := V.b (decide (c0 ≤ a.From))) rfl (or_on b₁))) ?_
      refine WO_end ?_
      exact ⟨rfl, rfl, rfl, rfl⟩
  rintro frg₁ _ ⟨rfl, g₁_12, g₁_1, g₁_2⟩
  refine WO_v (a_mv (v := .b ((decide (a.From < 0)) || (decide (c0 ≤ a.From)))) g₁_12) ?_
  refine WO_cut 4 (fun fr' k' => k₁ = k' ∧ fr' 17 = .b (((decide (a.From < 0)) || (decide (c0 ≤ a.From))) || (decide (a.To < 0))) ∧ fr' 1 = .p r_c0 0 ∧ fr' 2 = .p r₁ 0) ?_ ?_
  · rcases bc ((decide (a.From < 0)) || (decide (c0 ≤ a.From))) with b₂ | b₂
    · skip
      refine WO_off rfl b₂ ?_
      refine WO_off rfl b₂ ?_
      refine WO_off rfl b₂ ?_
      refine WO_v (a_pickT (t := ((decide (a.From < 0)) || (decide (c0 ≤ a.From)))) (v := .b (((decide (a.From < 0)) || (decide (c0 ≤ a.From))) || (decide (a.To < 0)))) rfl b₂ (Eq.trans (b := V.b true) rfl (or_off b₂))) ?_
      refine WO_end ?_
      exact ⟨rfl, rfl, g₁_1, g₁_2⟩
    · skip
      refine WO_on rfl b₂ ?_
      refine WO_v (a_fa (r := r₁) (o := 0) (o' := 1) g₁_2 rfl) ?_
      refine WO_on rfl b₂ ?_
      refine WO_v (a_ldb (cs := (e_T_api_Arc.c a)) (v := .i .i64 a.To) (hO₁.box 0 rfl) rfl rfl) ?_
      refine WO_on rfl b₂ ?_
      refine WO_v (a_lss (a := a.To) (b := 0) rfl rfl) ?_
      refine WO_v (a_pickF (t := ((decide (a.From < 0)) || (decide (c0 ≤ a.From)))) (v := .b (((decide (a.From < 0)) || (decide (c0 ≤ a.From))) || (decide (a.To < 0)))) rfl b₂ (Eq.trans (b := V.b (decide (a.To < 0))) rfl (or_on b₂))) ?_
      refine WO_end ?_
      exact ⟨rfl, rfl, g₁_1, g₁_2⟩
  rintro frg₂ _ ⟨rfl, g₂_17, g₂_1, g₂_2⟩
  refine WO_v (a_mv (v := .b (((decide (a.From < 0)) || (decide (c0 ≤ a.From))) || (decide (a.To < 0)))) g₂_17) ?_
  refine WO_cut 5 (fun fr' k' => k₁ = k' ∧ fr' 23 = .b ((((decide (a.From < 0)) || (decide (c0 ≤ a.From))) || (decide (a.To < 0))) || (decide (c0 ≤ a.To))) ∧ fr' 2 = .p r₁ 0) ?_ ?_
  · rcases bc (((decide (a.From < 0)) || (decide (c0 ≤ a.From))) || (decide (a.To < 0))) with b₃ | b₃
    · skip
      refine WO_off rfl b₃ ?_
      refine WO_off rfl b₃ ?_
      refine WO_off rfl b₃ ?_
      refine WO_off rfl b₃ ?_
      refine WO_v (a_pickT (t := (((decide (a.From < 0)) || (decide (c0 ≤ a.From))) || (decide (a.To < 0)))) (v := .b ((((decide (a.From < 0)) || (decide (c0 ≤ a.From))) || (decide (a.To < 0))) || (decide (c0 ≤ a.To)))) rfl b₃ (Eq.trans (b := V.b true) rfl (or_off b₃))) ?_
      refine WO_end ?_
      exact ⟨rfl, rfl, g₂_2⟩
    · skip
      refine WO_on rfl b₃ ?_
      refine WO_v (a_fa (r := r₁) (o := 0) (o' := 1) g₂_2 rfl) ?_
      refine WO_on rfl b₃ ?_
      refine WO_v (a_ldb (cs := (e_T_api_Arc.c a)) (v := .i .i64 a.To) (hO₁.box 0 rfl) rfl rfl) ?_
      refine WO_on rfl b₃ ?_
      refine WO_v (a_ldb (cs := [.i .i64 c0]) (v := .i .i64 c0) (hO₁.rdB0 (RdB.of b_c0)).choose_spec g₂_1 rfl) ?_
      refine WO_on rfl b₃ ?_
      refine WO_v (a_geq (a := a.To) (b := c0) rfl rfl) ?_
      refine WO_v (a_pickF (t := (((decide (a.From < 0)) || (decide (c0 ≤ a.From))) || (decide (a.To < 0)))) (v := .b ((((decide (a.From < 0)) || (decide (c0 ≤ a.From))) || (decide (a.To < 0))) || (decide (c0 ≤ a.To)))) rfl b₃ (Eq.trans (b := V.b (decide (c0 ≤ a.To))) rfl (or_on b₃))) ?_
      refine WO_end ?_
      exact ⟨rfl, rfl, g₂_2⟩
  rintro frg₃ _ ⟨rfl, g₃_23, g₃_2⟩
  refine WO_v (a_mv (v := .b ((((decide (a.From < 0)) || (decide (c0 ≤ a.From))) || (decide (a.To < 0))) || (decide (c0 ≤ a.To)))) g₃_23) ?_
  refine WO_cut 4 (fun fr' k' => k₁ = k' ∧ fr' 28 = .b (((((decide (a.From < 0)) || (decide (c0 ≤ a.From))) || (decide (a.To < 0))) || (decide (c0 ≤ a.To))) || (decide (a.Weight < 0))) ∧ fr' 2 = .p r₁ 0) ?_ ?_
  · rcases bc ((((decide (a.From < 0)) || (decide (c0 ≤ a.From))) || (decide (a.To < 0))) || (decide (c0 ≤ a.To))) with b₄ | b₄
    · skip
      refine WO_off rfl b₄ ?_
      refine WO_off rfl b₄ ?_
      refine WO_off rfl b₄ ?_
      refine WO_v (a_pickT (t := ((((decide (a.From < 0)) || (decide (c0 ≤ a.From))) || (decide (a.To < 0))) || (decide (c0 ≤ a.To)))) (v := .b (((((decide (a.From < 0)) || (decide (c0 ≤ a.From))) || (decide (a.To < 0))) || (decide (c0 ≤ a.To))) || (decide (a.Weight < 0)))) rfl b₄ (Eq.trans (b := V.b true) rfl (or_off b₄))) ?_
      refine WO_end ?_
      exact ⟨rfl, rfl, g₃_2⟩
    · skip
      refine WO_on rfl b₄ ?_
      refine WO_v (a_fa (r := r₁) (o := 0) (o' := 2) g₃_2 rfl) ?_
      refine WO_on rfl b₄ ?_
      refine WO_v (a_ldb (cs := (e_T_api_Arc.c a)) (v := .i .i64 a.Weight) (hO₁.box 0 rfl) rfl rfl) ?_
      refine WO_on rfl b₄ ?_
      refine WO_v (a_lss (a := a.Weight) (b := 0) rfl rfl) ?_
      refine WO_v (a_pickF (t := ((((decide (a.From < 0)) || (decide (c0 ≤ a.From))) || (decide (a.To < 0))) || (decide (c0 ≤ a.To)))) (v := .b (((((decide (a.From < 0)) || (decide (c0 ≤ a.From))) || (decide (a.To < 0))) || (decide (c0 ≤ a.To))) || (decide (a.Weight < 0)))) rfl b₄ (Eq.trans (b := V.b (decide (a.Weight < 0))) rfl (or_on b₄))) ?_
      refine WO_end ?_
      exact ⟨rfl, rfl, g₃_2⟩
  rintro frg₄ _ ⟨rfl, g₄_28, g₄_2⟩
  refine WO_v (a_mv (v := .b (((((decide (a.From < 0)) || (decide (c0 ≤ a.From))) || (decide (a.To < 0))) || (decide (c0 ≤ a.To))) || (decide (a.Weight < 0)))) g₄_28) ?_
  refine WO_cut 4 (fun fr' k' => k₁ = k' ∧ fr' 33 = .b ((((((decide (a.From < 0)) || (decide (c0 ≤ a.From))) || (decide (a.To < 0))) || (decide (c0 ≤ a.To))) || (decide (a.Weight < 0))) || (decide (1000000 < a.Weight)))) ?_ ?_
  · rcases bc (((((decide (a.From < 0)) || (decide (c0 ≤ a.From))) || (decide (a.To < 0))) || (decide (c0 ≤ a.To))) || (decide (a.Weight < 0))) with b₅ | b₅
    · skip
      refine WO_off rfl b₅ ?_
      refine WO_off rfl b₅ ?_
      refine WO_off rfl b₅ ?_
      refine WO_v (a_pickT (t := (((((decide (a.From < 0)) || (decide (c0 ≤ a.From))) || (decide (a.To < 0))) || (decide (c0 ≤ a.To))) || (decide (a.Weight < 0)))) (v := .b ((((((decide (a.From < 0)) || (decide (c0 ≤ a.From))) || (decide (a.To < 0))) || (decide (c0 ≤ a.To))) || (decide (a.Weight < 0))) || (decide (1000000 < a.Weight)))) rfl b₅ (Eq.trans (b := V.b true) rfl (or_off b₅))) ?_
      refine WO_end ?_
      exact ⟨rfl, rfl⟩
    · skip
      refine WO_on rfl b₅ ?_
      refine WO_v (a_fa (r := r₁) (o := 0) (o' := 2) g₄_2 rfl) ?_
      refine WO_on rfl b₅ ?_
      refine WO_v (a_ldb (cs := (e_T_api_Arc.c a)) (v := .i .i64 a.Weight) (hO₁.box 0 rfl) rfl rfl) ?_
      refine WO_on rfl b₅ ?_
      refine WO_v (a_gtr (a := a.Weight) (b := 1000000) rfl rfl) ?_
      refine WO_v (a_pickF (t := (((((decide (a.From < 0)) || (decide (c0 ≤ a.From))) || (decide (a.To < 0))) || (decide (c0 ≤ a.To))) || (decide (a.Weight < 0)))) (v := .b ((((((decide (a.From < 0)) || (decide (c0 ≤ a.From))) || (decide (a.To < 0))) || (decide (c0 ≤ a.To))) || (decide (a.Weight < 0))) || (decide (1000000 < a.Weight)))) rfl b₅ (Eq.trans (b := V.b (decide (1000000 < a.Weight))) rfl (or_on b₅))) ?_
      refine WO_end ?_
      exact ⟨rfl, rfl⟩
  rintro frg₅ _ ⟨rfl, g₅_33⟩
  refine WO_v (a_mv (v := .b ((((((decide (a.From < 0)) || (decide (c0 ≤ a.From))) || (decide (a.To < 0))) || (decide (c0 ≤ a.To))) || (decide (a.Weight < 0))) || (decide (1000000 < a.Weight)))) g₅_33) ?_
  refine WO_end ?_
  refine then_n ?_
  refine W_rt ?_
  refine Ret_r (rs_t (n := 3) (v := .b ((((((decide (a.From < 0)) || (decide (c0 ≤ a.From))) || (decide (a.To < 0))) || (decide (c0 ≤ a.To))) || (decide (a.Weight < 0))) || (decide (1000000 < a.Weight)))) rfl rs_nil) ?_
  have hp := Option.some.inj hp; subst hp
  exact (And.intro rfl (hO₁.pick [] rfl (by decide)))

theorem p_dag_right.ok {h : Hp} {n : Int} {arcs : List T_api_Arc} {v_arcs : V} (s_arcs : Sl e_T_api_Arc h v_arcs arcs) {r : Bool} (hp : p_dag_right n arcs = some r) :
    ∃ u k', Is G 84 [.i .i64 n, v_arcs] h u k' ∧ V.b r = u ∧ Own (fun r => r < h.n) h k' [] := by
  refine WC.is (WC_of G_F_dag_right ?_)
  unfold p_dag_right at hp
  let B : Nat → Prop := (fun r => r < h.n)
  have hO : Own B h h [] := Own.start0 h
  refine W_sq ?_
  refine W_rg ?_
  refine WO_x (hO.boxd (v := .i .i64 n) (cs := [.i .i64 n]) hO.fr rfl rfl) ?_
  rintro _ k₁ ⟨r₁, rfl, n₁, f₁, hW⟩
  have hO₁ : Own B h k₁ [eBox r₁ [.i .i64 n]] := hW
  refine WO_v (a_mv (v := .b false) rfl) ?_
  refine WO_end ?_
  refine then_n ?_
  refine W_sq ?_
  refine W_sq ?_
  refine W_rg ?_
  refine WO_v (a_ldb (cs := [.i .i64 n]) (v := .i .i64 n) (hO₁.box 0 rfl) rfl rfl) ?_
  refine WO_v (a_lss (a := n) (b := 0) rfl rfl) ?_
  refine WO_v (a_mv (v := .b (decide (n < 0))) rfl) ?_
  refine WO_cut 3 (fun fr' k' => k₁ = k' ∧ fr' 10 = .b ((decide (n < 0)) || (decide (4096 < n))) ∧ fr' 1 = v_arcs ∧ fr' 2 = .p r₁ 0) ?_ ?_
  · rcases bc (decide (n < 0)) with b₁ | b₁
    · skip
      refine WO_off rfl b₁ ?_
      refine WO_off rfl b₁ ?_
      refine WO_v (a_pickT (t := (decide (n < 0))) (v := .b ((decide (n < 0)) || (decide (4096 < n)))) rfl b₁ (Eq.trans (b := V.b true) rfl (or_off b₁))) ?_
      refine WO_end ?_
      exact ⟨rfl, rfl, rfl, rfl⟩
    · skip
      refine WO_on rfl b₁ ?_
      refine WO_v (a_ldb (cs := [.i .i64 n]) (v := .i .i64 n) (hO₁.box 0 rfl) rfl rfl) ?_
      refine WO_on rfl b₁ ?_
      refine WO_v (a_gtr (a := n) (b := 4096) rfl rfl) ?_
      refine WO_v (a_pickF (t := (decide (n < 0))) (v := .b ((decide (n < 0)) || (decide (4096 < n)))) rfl b₁ (Eq.trans (b := V.b (decide (4096 < n))) rfl (or_on b₁))) ?_
      refine WO_end ?_
      exact ⟨rfl, rfl, rfl, rfl⟩
  rintro frg₁ _ ⟨rfl, g₁_10, g₁_1, g₁_2⟩
  refine WO_v (a_mv (v := .b ((decide (n < 0)) || (decide (4096 < n)))) g₁_10) ?_
  refine WO_cut 4 (fun fr' k' => k₁ = k' ∧ fr' 15 = .b (((decide (n < 0)) || (decide (4096 < n))) || (decide (16384 < (arcs.length : Int)))) ∧ fr' 1 = v_arcs ∧ fr' 2 = .p r₁ 0) ?_ ?_
  · rcases bc ((decide (n < 0)) || (decide (4096 < n))) with b₂ | b₂
    · skip
      refine WO_off rfl b₂ ?_
      refine WO_off rfl b₂ ?_
      refine WO_off rfl b₂ ?_
      refine WO_v (a_pickT (t := ((decide (n < 0)) || (decide (4096 < n)))) (v := .b (((decide (n < 0)) || (decide (4096 < n))) || (decide (16384 < (arcs.length : Int))))) rfl b₂ (Eq.trans (b := V.b true) rfl (or_off b₂))) ?_
      refine WO_end ?_
      exact ⟨rfl, rfl, g₁_1, g₁_2⟩
    · skip
      refine WO_on rfl b₂ ?_
      refine WO_v (a_mv (v := v_arcs) g₁_1) ?_
      refine WO_on rfl b₂ ?_
      refine WO_v (a_len (hO₁.rd0 s_arcs.rd : Sl e_T_api_Arc k₁ v_arcs arcs) rfl) ?_
      refine WO_on rfl b₂ ?_
      refine WO_v (a_gtr (a := (arcs.length : Int)) (b := 16384) rfl rfl) ?_
      refine WO_v (a_pickF (t := ((decide (n < 0)) || (decide (4096 < n)))) (v := .b (((decide (n < 0)) || (decide (4096 < n))) || (decide (16384 < (arcs.length : Int))))) rfl b₂ (Eq.trans (b := V.b (decide (16384 < (arcs.length : Int)))) rfl (or_on b₂))) ?_
      refine WO_end ?_
      exact ⟨rfl, rfl, g₁_1, g₁_2⟩
  rintro frg₂ _ ⟨rfl, g₂_15, g₂_1, g₂_2⟩
  refine WO_end ?_
  refine then_n ?_
  rcases if_some hp with ⟨b₃, hp⟩ | ⟨b₃, hp⟩
  · refine W_cT (t := (((decide (n < 0)) || (decide (4096 < n))) || (decide (16384 < (arcs.length : Int))))) g₂_15 b₃ ?_
    refine W_sq ?_
    refine W_rg ?_
    refine WO_v (a_mv (v := .b false) rfl) ?_
    refine WO_end ?_
    refine then_n ?_
    refine W_rt ?_
    refine then_r ?_
    refine Ret_r (rs_t (n := 4) (v := .b false) rfl rs_nil) ?_
    have hp := Option.some.inj hp; subst hp
    exact (And.intro rfl (hO₁.pick [] rfl (by decide)))
  · refine W_cF (t := (((decide (n < 0)) || (decide (4096 < n))) || (decide (16384 < (arcs.length : Int))))) g₂_15 b₃ ?_
    refine W_sk ?_
    refine then_n ?_
    refine W_sq ?_
    refine W_rg ?_
    refine WO_v (a_mv (v := v_arcs) g₂_1) ?_
    refine WO_v (a_clo (vs := [.p r₁ 0]) (mq_cons (v := .p r₁ 0) g₂_2 mq_nil)) ?_
    obtain ⟨x, hx₁, hp⟩ := bd_some hp
    obtain ⟨u₁, k₂, ca₁, rfl, hW₁⟩ := p_slices_ContainsFunc_api_Arc.ok (h := k₁)  (hO₁.rd0 s_arcs.rd : Sl e_T_api_Arc k₁ v_arcs arcs) (fun k z0 y hk hx => p_dag_right_1.ok (h := k) ((hk.2 _ (Hp.lt (hO₁.box 0 rfl))).trans (hO₁.box 0 rfl)) hx) hx₁
    refine WO_c (id := 42) (caps := []) rfl (mp_cons (v := v_arcs) rfl (mp_cons (v := .f 92 [.p r₁ 0]) rfl mp_nil)) ca₁ ?_
    have hO₂ : Own B h k₂ [eBox r₁ [.i .i64 n]] := hO₁.call hW₁ rfl
    refine WO_v (a_not (t := x) rfl) ?_
    refine WO_v (a_mv (v := .b (!x)) rfl) ?_
    refine WO_end ?_
    refine then_n ?_
    refine W_rt ?_
    refine Ret_r (rs_t (n := 4) (v := .b (!x)) rfl rs_nil) ?_
    have hp := Option.some.inj hp; subst hp
    exact (And.intro rfl (hO₂.pick [] rfl (by decide)))

theorem p_heap_New_int.ok {h : Hp} {less : Int → Int → Option Bool} {id_less : Nat} {cap_less : List V} (f_less : ∀ (k : Hp) (x0 : Int) (x1 : Int) (y : Bool), Ex' (fun r => r < h.n) h k → less x0 x1 = some y → ∃ u k', Is G id_less (.i .i64 x0 :: .i .i64 x1 :: cap_less) k u k' ∧ V.b y = u ∧ Own (fun r => r < k.n) k k' []) {r : T_heap_Heap_int} (hp : p_heap_New_int less = some r) :
    ∃ u k', Is G 85 [.f id_less cap_less] h u k' ∧ ∃ (r₁ : Nat), ∃ (v₁ : V), V.p r₁ 0 = u ∧ Own (fun r => r < h.n) h k' [eBox r₁ [.f id_less cap_less, v₁, .i .i64 r.time], eSl e_T_heap_item_int v₁ r.items] := by
  refine WC.is (WC_of G_F_heap_New_int ?_)
  unfold p_heap_New_int at hp
  let B : Nat → Prop := (fun r => r < h.n)
  have hO : Own B h h [] := Own.start0 h
  refine W_sq ?_
  refine W_rg ?_
  refine WO_v (a_mv (v := .pn) rfl) ?_
  refine WO_end ?_
  refine then_n ?_
  refine W_sq ?_
  refine W_rg ?_
  refine WO_v (a_mv (v := .f id_less cap_less) rfl) ?_
  refine WO_v (a_build (cs := [.f id_less cap_less, .sn, .i .i64 (0 : Int)]) (by rw [(ev_cons (v := .f id_less cap_less) rfl ev_nil)]; simp [fill, over, cells_i, cells_b, cells_f, cells_p, cells_a, cells_n, (Sl.nil : Sl e_T_heap_item_int h .sn ([] : List T_heap_item_int)).cells])) ?_
  refine WO_x (hO.boxd (v := .ag [.f id_less cap_less, .sn, .i .i64 (0 : Int)]) (cs := [.f id_less cap_less, .sn, .i .i64 (0 : Int)]) hO.fr rfl rfl) ?_
  rintro _ k₁ ⟨r₂, rfl, n₁, f₁, hW⟩
  have hO₁ : Own B h k₁ [eBox r₂ [.f id_less cap_less, .sn, .i .i64 (0 : Int)]] := hW
  refine WO_v (a_mv (v := .p r₂ 0) rfl) ?_
  refine WO_end ?_
  refine then_n ?_
  refine W_rt ?_
  have hO₂ : Own B h k₁ [eBox r₂ [.f id_less cap_less, .sn, .i .i64 (0 : Int)], eSl e_T_heap_item_int .sn ([] : List T_heap_item_int)] := hO₁.nil e_T_heap_item_int
  refine Ret_r (rs_t (n := 2) (v := .p r₂ 0) rfl rs_nil) ?_
  have hp := Option.some.inj hp; subst hp
  exact (Exists.intro r₂ (Exists.intro V.sn (And.intro rfl (hO₂.pick [0, 1] rfl (by decide)))))

theorem p_dag_Order_1.ok {h : Hp} {a : Int} {b : Int}   {r : Bool} (hp : p_dag_Order_1 a b = some r) :
    ∃ u k', Is G 86 [.i .i64 a, .i .i64 b] h u k' ∧ V.b r = u ∧ Own (fun r => r < h.n) h k' [] := by
  refine WC.is (WC_of G_F_dag_Order_1 ?_)
  unfold p_dag_Order_1 at hp
  let B : Nat → Prop := (fun r => r < h.n)
  have hO : Own B h h [] := Own.start0 h
  refine W_sq ?_
  refine W_rg ?_
  refine WO_v (a_mv (v := .b false) rfl) ?_
  refine WO_end ?_
  refine then_n ?_
  refine W_sq ?_
  refine W_rg ?_
  refine WO_v (a_mv (v := .i .i64 a) rfl) ?_
  refine WO_v (a_mv (v := .i .i64 b) rfl) ?_
  refine WO_v (a_lss (a := a) (b := b) rfl rfl) ?_
  refine WO_v (a_mv (v := .b (decide (a < b))) rfl) ?_
  refine WO_end ?_
  refine then_n ?_
  refine W_rt ?_
  refine Ret_r (rs_t (n := 4) (v := .b (decide (a < b))) rfl rs_nil) ?_
  have hp := Option.some.inj hp; subst hp
  exact (And.intro rfl (hO.pick [] rfl (by decide)))

theorem p_heap_Heap_int_ahead.ok {h : Hp} {h_ : T_heap_Heap_int} {i : Int} {k_ : Int} {h__less : Int → Int → Option Bool} {r_h_ : Nat} {id_h__less : Nat} {cap_h__less : List V} {v_h__items : V} {w_h_ : Bool} (b_h_ : h.m r_h_ = some (.cells w_h_ [.f id_h__less cap_h__less, v_h__items, .i .i64 h_.time])) (f_h__less : ∀ (k : Hp) (x0 : Int) (x1 : Int) (y : Bool), Ex' (fun r => r < h.n) h k → h__less x0 x1 = some y → ∃ u k', Is G id_h__less (.i .i64 x0 :: .i .i64 x1 :: cap_h__less) k u k' ∧ V.b y = u ∧ Own (fun r => r < k.n) k k' []) (s_h__items : Sl e_T_heap_item_int h v_h__items h_.items) {r : Bool} (hp : p_heap_Heap_int_ahead h_ i k_ h__less = some r) :
    ∃ u k', Is G 93 [.p r_h_ 0, .i .i64 i, .i .i64 k_] h u k' ∧ V.b r = u ∧ Own (fun r => r < h.n) h k' [] := by
  refine WC.is (WC_of G_F_heap_Heap_int_ahead ?_)
  unfold p_heap_Heap_int_ahead at hp
  let B : Nat → Prop := (fun r => r < h.n)
  have hO : Own B h h [] := Own.start0 h
  refine W_sq ?_
  refine W_rg ?_
  refine WO_v (a_mv (v := .b false) rfl) ?_
  refine WO_end ?_
  refine then_n ?_
  refine W_sq ?_
  refine W_dr ?_
  have hW := hO.bump 18
  have fr₁ := Fresh.start h 18
  have nb₁ : ∀ {i : Nat}, h.n ≤ h.n + i := Nat.le_trans hO.n (Nat.le_add_right _ _)
  have hO₁ : Own B h (h.bump 18) [] := hW
  refine WD_v (a_mv (v := .p r_h_ 0) rfl) ?_
  refine WD_v (a_nilp (r := r_h_) (o := 0) rfl) ?_
  refine WD_v (a_fa (r := r_h_) (o := 0) (o' := 1) rfl rfl) ?_
  refine WD_v (a_ldb (cs := [.f id_h__less cap_h__less, v_h__items, .i .i64 h_.time]) (v := v_h__items) (hO₁.rdB0 (RdB.of b_h_)).choose_spec rfl rfl) ?_
  refine WD_v (a_mv (v := .i .i64 i) rfl) ?_
  obtain ⟨c₁, hp⟩ := ck_some hp
  refine WD_v (a_ixa (E := e_T_heap_item_int) (z := i) (hO₁.rd0 s_h__items.rd : Sl e_T_heap_item_int (h.bump 18) v_h__items h_.items) rfl rfl c₁) ?_
  refine WD_v (a_ldA (E := e_T_heap_item_int) (hO₁.rd0 s_h__items.rd : Sl e_T_heap_item_int (h.bump 18) v_h__items h_.items) rfl (toNat_lt c₁)) ?_
  refine WD_v (a_mv (v := .p r_h_ 0) rfl) ?_
  refine WD_v (a_nilp (r := r_h_) (o := 0) rfl) ?_
  refine WD_v (a_fa (r := r_h_) (o := 0) (o' := 1) rfl rfl) ?_
  refine WD_v (a_ldb (cs := [.f id_h__less cap_h__less, v_h__items, .i .i64 h_.time]) (v := v_h__items) (hO₁.rdB0 (RdB.of b_h_)).choose_spec rfl rfl) ?_
  refine WD_v (a_mv (v := .i .i64 k_) rfl) ?_
  obtain ⟨c₂, hp⟩ := ck_some hp
  refine WD_v (a_ixa (E := e_T_heap_item_int) (z := k_) (hO₁.rd0 s_h__items.rd : Sl e_T_heap_item_int (h.bump 18) v_h__items h_.items) rfl rfl c₂) ?_
  refine WD_v (a_ldA (E := e_T_heap_item_int) (hO₁.rd0 s_h__items.rd : Sl e_T_heap_item_int (h.bump 18) v_h__items h_.items) rfl (toNat_lt c₂)) ?_
  refine WD_x (hO₁.alloc (cs := e_T_heap_item_int.c (⟨0, 0⟩ : T_heap_item_int)) ⟨fr₁.m 14 (by decide) (by decide), nb₁⟩) ?_
  rintro _ k₂ z₁ ⟨r₁, rfl, n₁, f₁, hW⟩
  have fr₂ := fr₁.kept f₁ (by decide)
  have hO₂ : Own B h k₂ [eBox r₁ (e_T_heap_item_int.c (⟨0, 0⟩ : T_heap_item_int))] := hW
  refine WD_x (hO₂.alloc (cs := e_T_heap_item_int.c (⟨0, 0⟩ : T_heap_item_int)) ⟨fr₂.m 15 (by decide) (by decide), nb₁⟩) ?_
  rintro _ k₃ z₂ ⟨r₂, rfl, n₂, f₂, hW⟩
  have fr₃ := fr₂.kept f₂ (by decide)
  have hO₃ : Own B h k₃ [eBox r₁ (e_T_heap_item_int.c (⟨0, 0⟩ : T_heap_item_int)), eBox r₂ (e_T_heap_item_int.c (⟨0, 0⟩ : T_heap_item_int))] := hW
  refine WD_x (hO₃.stb (ws := e_T_heap_item_int.c (gi h_.items (i : Int).toNat)) (cs' := e_T_heap_item_int.c (gi h_.items (i : Int).toNat)) (v := .ag (e_T_heap_item_int.c (gi h_.items (i : Int).toNat))) 0 rfl rfl rfl rfl ⟨rfl, Nat.le_of_ble_eq_true rfl, rfl⟩ rfl) ?_
  rintro _ k₄ z₃ ⟨rfl, f₃, m₁, hW⟩
  have fr₄ := fr₃.kept f₃ (by decide)
  have hO₄ : Own B h k₄ [eBox r₁ (e_T_heap_item_int.c (gi h_.items (i : Int).toNat)), eBox r₂ (e_T_heap_item_int.c (⟨0, 0⟩ : T_heap_item_int))] := hW
  refine WD_x (hO₄.stb (ws := e_T_heap_item_int.c (gi h_.items (k_ : Int).toNat)) (cs' := e_T_heap_item_int.c (gi h_.items (k_ : Int).toNat)) (v := .ag (e_T_heap_item_int.c (gi h_.items (k_ : Int).toNat))) 1 rfl rfl rfl rfl ⟨rfl, Nat.le_of_ble_eq_true rfl, rfl⟩ rfl) ?_
  rintro _ k₅ z₄ ⟨rfl, f₄, m₂, hW⟩
  have fr₅ := fr₄.kept f₄ (by decide)
  have hO₅ : Own B h k₅ [eBox r₁ (e_T_heap_item_int.c (gi h_.items (i : Int).toNat)), eBox r₂ (e_T_heap_item_int.c (gi h_.items (k_ : Int).toNat))] := hW
  refine WD_end ?_
  refine And.intro ?_ ?_
  · intro q hq
    simp only [List.mem_cons, List.not_mem_nil, or_false] at hq
    rcases hq with rfl | rfl | rfl | rfl | rfl | rfl | rfl | rfl | rfl | rfl | rfl | rfl | rfl | rfl | rfl
    · refine ap_ll ?_ ?_
      · exact (fun h => nomatch h)
      · exact (fun h => nomatch h)
    · refine ap_ll ?_ ?_
      · exact (fun h => nomatch h)
      · exact (fun h => nomatch h)
    · refine ap_ll ?_ ?_
      · exact (fun h => nomatch h)
      · exact (fun h => nomatch h)
    · refine ap_ll ?_ ?_
      · exact (fun h => nomatch h)
      · exact (fun h => nomatch h)
    · refine ap_ll ?_ ?_
      · exact (fun h => nomatch h)
      · exact (fun _ hm => Nat.lt_irrefl _ (Nat.lt_of_lt_of_le (Nat.lt_of_lt_of_le (hO.lo _ (RdB.mem (RdB.of b_h_) (tch (v := V.p r_h_ 1) (ld_el hm) rfl))) hO.n) (Nat.le_add_right _ _)))
    · refine ap_ll ?_ ?_
      · exact (fun h => nomatch h)
      · exact (fun _ hm => Nat.lt_irrefl _ (Nat.lt_of_lt_of_le (Nat.lt_of_lt_of_le (hO.lo _ (Rd.B s_h__items.rd hO.lo (toNat_lt c₁) _ (refs_elt (tch (v := V.elt v_h__items (i : Int).toNat 0) (ld_el hm) rfl)))) hO.n) (Nat.le_add_right _ _)))
    · refine ap_ll ?_ ?_
      · exact (fun h => nomatch h)
      · exact (fun _ hm => Nat.lt_irrefl _ (Nat.lt_of_lt_of_le (Nat.lt_of_lt_of_le (hO.lo _ (RdB.mem (RdB.of b_h_) (tch (v := V.p r_h_ 1) (ld_el hm) rfl))) hO.n) (Nat.le_add_right _ _)))
    · refine ap_ll ?_ ?_
      · exact (fun h => nomatch h)
      · exact (fun _ hm => Nat.lt_irrefl _ (Nat.lt_of_lt_of_le (Nat.lt_of_lt_of_le (hO.lo _ (Rd.B s_h__items.rd hO.lo (toNat_lt c₂) _ (refs_elt (tch (v := V.elt v_h__items (k_ : Int).toNat 0) (ld_el hm) rfl)))) hO.n) (Nat.le_add_right _ _)))
    · refine ap_ll ?_ ?_
      · exact (fun h => nomatch h)
      · exact (fun _ hm => Nat.lt_irrefl _ (Nat.lt_of_lt_of_le (Nat.lt_of_lt_of_le (hO.lo _ (RdB.mem (RdB.of b_h_) (tch (v := V.p r_h_ 1) (ld_el hm) rfl))) hO.n) (Nat.le_add_right _ _)))
    · refine ap_ll ?_ ?_
      · exact (fun h => nomatch h)
      · exact (fun _ hm => Nat.lt_irrefl _ (Nat.lt_of_lt_of_le (Nat.lt_of_lt_of_le (hO.lo _ (Rd.B s_h__items.rd hO.lo (toNat_lt c₁) _ (refs_elt (tch (v := V.elt v_h__items (i : Int).toNat 0) (ld_el hm) rfl)))) hO.n) (Nat.le_add_right _ _)))
    · refine ap_ll ?_ ?_
      · exact (fun h => nomatch h)
      · exact (fun _ hm => Nat.lt_irrefl _ (Nat.lt_of_lt_of_le (Nat.lt_of_lt_of_le (hO.lo _ (RdB.mem (RdB.of b_h_) (tch (v := V.p r_h_ 1) (ld_el hm) rfl))) hO.n) (Nat.le_add_right _ _)))
    · refine ap_ll ?_ ?_
      · exact (fun h => nomatch h)
      · exact (fun _ hm => Nat.lt_irrefl _ (Nat.lt_of_lt_of_le (Nat.lt_of_lt_of_le (hO.lo _ (Rd.B s_h__items.rd hO.lo (toNat_lt c₂) _ (refs_elt (tch (v := V.elt v_h__items (k_ : Int).toNat 0) (ld_el hm) rfl)))) hO.n) (Nat.le_add_right _ _)))
    · refine ap_ll ?_ ?_
      · exact (fun _ => List.not_mem_nil)
      · exact (fun _ => List.not_mem_nil)
    · refine ap_oo ?_ ?_ ?_
      · exact (fun r h1 h2 => by have h3 := (Nat.lt_of_lt_of_le (hO.lo _ (RdB.mem (RdB.of b_h_) (tch (v := V.p r_h_ 1) (ld_el h1) rfl))) hO.n); have h4 := (new_box n₁ (tch (v := V.p r₁ 0) (st_el h2) rfl)); omega)
      · exact (fun h => nomatch h)
      · exact (fun _ hm => Nat.lt_irrefl _ (Nat.lt_of_lt_of_le (Nat.lt_of_lt_of_le (hO.lo _ (RdB.mem (RdB.of b_h_) (tch (v := V.p r_h_ 1) (ld_el hm) rfl))) hO.n) (Nat.le_add_right _ _)))
    · refine ap_oo ?_ ?_ ?_
      · exact (fun r h1 h2 => by have h3 := (Nat.lt_of_lt_of_le (hO.lo _ (Rd.B s_h__items.rd hO.lo (toNat_lt c₂) _ (refs_elt (tch (v := V.elt v_h__items (k_ : Int).toNat 0) (ld_el h1) rfl)))) hO.n); have h4 := (new_box n₁ (tch (v := V.p r₁ 0) (st_el h2) rfl)); omega)
      · exact (fun h => nomatch h)
      · exact (fun _ hm => Nat.lt_irrefl _ (Nat.lt_of_lt_of_le (Nat.lt_of_lt_of_le (hO.lo _ (Rd.B s_h__items.rd hO.lo (toNat_lt c₂) _ (refs_elt (tch (v := V.elt v_h__items (k_ : Int).toNat 0) (ld_el hm) rfl)))) hO.n) (Nat.le_add_right _ _)))
  refine then_n ?_
  refine W_sq ?_
  refine W_sq ?_
  refine W_dr ?_
  have hW := hO₅.bump 9
  have fr₆ := Fresh.start k₅ 9
  have nb₂ : ∀ {i : Nat}, h.n ≤ k₅.n + i := Nat.le_trans hO₅.n (Nat.le_add_right _ _)
  have hO₆ : Own B h (k₅.bump 9) [eBox r₁ (e_T_heap_item_int.c (gi h_.items (i : Int).toNat)), eBox r₂ (e_T_heap_item_int.c (gi h_.items (k_ : Int).toNat))] := hW
  refine WD_v (a_mv (v := .p r_h_ 0) rfl) ?_
  refine WD_v (a_nilp (r := r_h_) (o := 0) rfl) ?_
  refine WD_v (a_fa (r := r_h_) (o := 0) (o' := 0) rfl rfl) ?_
  refine WD_v (a_ldb (cs := [.f id_h__less cap_h__less, v_h__items, .i .i64 h_.time]) (v := .f id_h__less cap_h__less) (hO₆.rdB0 (RdB.of b_h_)).choose_spec rfl rfl) ?_
  refine WD_v (a_fa (r := r₁) (o := 0) (o' := 0) rfl rfl) ?_
  refine WD_v (a_ldb (cs := (e_T_heap_item_int.c (gi h_.items (i : Int).toNat))) (v := .i .i64 ((gi h_.items (i : Int).toNat).x)) (hO₆.box 0 rfl) rfl rfl) ?_
  refine WD_v (a_fa (r := r₂) (o := 0) (o' := 0) rfl rfl) ?_
  refine WD_v (a_ldb (cs := (e_T_heap_item_int.c (gi h_.items (k_ : Int).toNat))) (v := .i .i64 ((gi h_.items (k_ : Int).toNat).x)) (hO₆.box 1 rfl) rfl rfl) ?_
  obtain ⟨x, hx₁, hp⟩ := bd_some hp
  obtain ⟨u₁, k₇, ca₁, rfl, hW₁⟩ := f_h__less _ _ _ _ hO₆.ext hx₁
  refine WD_c (id := id_h__less) (caps := cap_h__less) rfl (mp_cons (v := .i .i64 ((gi h_.items (i : Int).toNat).x)) rfl (mp_cons (v := .i .i64 ((gi h_.items (k_ : Int).toNat).x)) rfl mp_nil)) ca₁ ?_
  have fr₇ := fr₆.call hW₁
  have hO₇ : Own B h k₇ [eBox r₁ (e_T_heap_item_int.c (gi h_.items (i : Int).toNat)), eBox r₂ (e_T_heap_item_int.c (gi h_.items (k_ : Int).toNat))] := hO₆.call hW₁ rfl
  refine WD_end ?_
  refine And.intro ?_ ?_
  · intro q hq
    simp only [List.mem_cons, List.not_mem_nil, or_false] at hq
    rcases hq with rfl | rfl | rfl
    · refine ap_ll ?_ ?_
      · exact (fun h => nomatch h)
      · exact (fun h => nomatch h)
    · refine ap_ll ?_ ?_
      · exact (fun h => nomatch h)
      · exact (fun h => nomatch h)
    · refine ap_ll ?_ ?_
      · exact (fun h => nomatch h)
      · exact (fun h => nomatch h)
  refine then_n ?_
  rcases if_some hp with ⟨b₁, hp⟩ | ⟨b₁, hp⟩
  · refine W_cT (t := x) rfl b₁ ?_
    refine W_sq ?_
    refine W_rg ?_
    refine WO_v (a_mv (v := .b true) rfl) ?_
    refine WO_end ?_
    refine then_n ?_
    refine W_rt ?_
    refine then_r ?_
    refine Ret_r (rs_t (n := 6) (v := .b true) rfl rs_nil) ?_
    have hp := Option.some.inj hp; subst hp
    exact (And.intro rfl (hO₇.pick [] rfl (by decide)))
  · refine W_cF (t := x) rfl b₁ ?_
    refine W_sk ?_
    refine then_n ?_
    refine W_sq ?_
    refine W_dr ?_
    have hW := hO₇.bump 18
    have fr₈ := Fresh.start k₇ 18
    have nb₃ : ∀ {i : Nat}, h.n ≤ k₇.n + i := Nat.le_trans hO₇.n (Nat.le_add_right _ _)
    have hO₈ : Own B h (k₇.bump 18) [eBox r₁ (e_T_heap_item_int.c (gi h_.items (i : Int).toNat)), eBox r₂ (e_T_heap_item_int.c (gi h_.items (k_ : Int).toNat))] := hW
    refine WD_v (a_mv (v := .p r_h_ 0) rfl) ?_
    refine WD_v (a_nilp (r := r_h_) (o := 0) rfl) ?_
    refine WD_v (a_fa (r := r_h_) (o := 0) (o' := 0) rfl rfl) ?_
    refine WD_v (a_ldb (cs := [.f id_h__less cap_h__less, v_h__items, .i .i64 h_.time]) (v := .f id_h__less cap_h__less) (hO₈.rdB0 (RdB.of b_h_)).choose_spec rfl rfl) ?_
    refine WD_v (a_fa (r := r₂) (o := 0) (o' := 0) rfl rfl) ?_
    refine WD_v (a_ldb (cs := (e_T_heap_item_int.c (gi h_.items (k_ : Int).toNat))) (v := .i .i64 ((gi h_.items (k_ : Int).toNat).x)) (hO₈.box 1 rfl) rfl rfl) ?_
    refine WD_v (a_fa (r := r₁) (o := 0) (o' := 0) rfl rfl) ?_
    refine WD_v (a_ldb (cs := (e_T_heap_item_int.c (gi h_.items (i : Int).toNat))) (v := .i .i64 ((gi h_.items (i : Int).toNat).x)) (hO₈.box 0 rfl) rfl rfl) ?_
    obtain ⟨x1, hx₂, hp⟩ := bd_some hp
    obtain ⟨u₂, k₉, ca₂, rfl, hW₂⟩ := f_h__less _ _ _ _ hO₈.ext hx₂
    refine WD_c (id := id_h__less) (caps := cap_h__less) rfl (mp_cons (v := .i .i64 ((gi h_.items (k_ : Int).toNat).x)) rfl (mp_cons (v := .i .i64 ((gi h_.items (i : Int).toNat).x)) rfl mp_nil)) ca₂ ?_
    have fr₉ := fr₈.call hW₂
    have hO₉ : Own B h k₉ [eBox r₁ (e_T_heap_item_int.c (gi h_.items (i : Int).toNat)), eBox r₂ (e_T_heap_item_int.c (gi h_.items (k_ : Int).toNat))] := hO₈.call hW₂ rfl
    refine WD_v (a_not (t := x1) rfl) ?_
    refine WD_v (a_mv (v := .b (!x1)) rfl) ?_
    rcases if_some hp with ⟨b₂, hp⟩ | ⟨b₂, hp⟩
    · skip
      refine WD_on rfl b₂ ?_
      refine WD_v (a_fa (r := r₁) (o := 0) (o' := 1) rfl rfl) ?_
      refine WD_on rfl b₂ ?_
      refine WD_v (a_ldb (cs := (e_T_heap_item_int.c (gi h_.items (i : Int).toNat))) (v := .i .i64 ((gi h_.items (i : Int).toNat).time)) (hO₉.box 0 rfl) rfl rfl) ?_
      refine WD_on rfl b₂ ?_
      refine WD_v (a_fa (r := r₂) (o := 0) (o' := 1) rfl rfl) ?_
      refine WD_on rfl b₂ ?_
      refine WD_v (a_ldb (cs := (e_T_heap_item_int.c (gi h_.items (k_ : Int).toNat))) (v := .i .i64 ((gi h_.items (k_ : Int).toNat).time)) (hO₉.box 1 rfl) rfl rfl) ?_
      refine WD_on rfl b₂ ?_
      refine WD_v (a_lss (a := ((gi h_.items (i : Int).toNat).time)) (b := ((gi h_.items (k_ : Int).toNat).time)) rfl rfl) ?_
      refine WD_v (a_pickT (t := (!x1)) (v := .b (decide (((gi h_.items (i : Int).toNat).time) < ((gi h_.items (k_ : Int).toNat).time)))) rfl b₂ rfl) ?_
      refine WD_v (a_mv (v := .b (decide (((gi h_.items (i : Int).toNat).time) < ((gi h_.items (k_ : Int).toNat).time)))) rfl) ?_
      refine WD_end ?_
      refine And.intro ?_ ?_
      · intro q hq
        simp only [List.mem_cons, List.not_mem_nil, or_false] at hq
        rcases hq with rfl | rfl | rfl | rfl
        · refine ap_ll ?_ ?_
          · exact (fun h => nomatch h)
          · exact (fun h => nomatch h)
        · refine ap_ll ?_ ?_
          · exact (fun h => nomatch h)
          · exact (fun h => nomatch h)
        · refine ap_ll ?_ ?_
          · exact (fun h => nomatch h)
          · exact (fun h => nomatch h)
        · refine ap_ll ?_ ?_
          · exact (fun h => nomatch h)
          · exact (fun h => nomatch h)
      refine then_n ?_
      refine W_rt ?_
      refine Ret_r (rs_t (n := 6) (v := .b (decide (((gi h_.items (i : Int).toNat).time) < ((gi h_.items (k_ : Int).toNat).time)))) rfl rs_nil) ?_
      have hp := Option.some.inj hp; subst hp
      exact (And.intro rfl (hO₉.pick [] rfl (by decide)))
    · skip
      refine WD_off rfl b₂ ?_
      refine WD_off rfl b₂ ?_
      refine WD_off rfl b₂ ?_
      refine WD_off rfl b₂ ?_
      refine WD_off rfl b₂ ?_
      refine WD_v (a_pickF (t := (!x1)) (v := .b false) rfl b₂ rfl) ?_
      refine WD_v (a_mv (v := .b false) rfl) ?_
      refine WD_end ?_
      refine And.intro ?_ ?_
      · intro q hq
        simp only [List.mem_cons, List.not_mem_nil, or_false] at hq
        rcases hq with rfl | rfl | rfl | rfl
        · refine ap_ll ?_ ?_
          · exact (fun h => nomatch h)
          · exact (fun h => nomatch h)
        · refine ap_ll ?_ ?_
          · exact (fun h => nomatch h)
          · exact (fun h => nomatch h)
        · refine ap_ll ?_ ?_
          · exact (fun h => nomatch h)
          · exact (fun h => nomatch h)
        · exact ap_n1
      refine then_n ?_
      refine W_rt ?_
      refine Ret_r (rs_t (n := 6) (v := .b false) rfl rs_nil) ?_
      have hp := Option.some.inj hp; subst hp
      exact (And.intro rfl (hO₉.pick [] rfl (by decide)))

theorem p_heap_Heap_int_swap.ok {h : Hp} {h_ : T_heap_Heap_int} {i : Int} {k_ : Int} {h__less : Int → Int → Option Bool} {r_h_ : Nat} {id_h__less : Nat} {cap_h__less : List V} {v_h__items : V} (H : Own (Bm h [eBox r_h_ [.f id_h__less cap_h__less, v_h__items, .i .i64 h_.time], eSl e_T_heap_item_int v_h__items h_.items]) h h [eBox r_h_ [.f id_h__less cap_h__less, v_h__items, .i .i64 h_.time], eSl e_T_heap_item_int v_h__items h_.items]) (f_h__less : ∀ (k : Hp) (x0 : Int) (x1 : Int) (y : Bool), Ex' (Bm h [eBox r_h_ [.f id_h__less cap_h__less, v_h__items, .i .i64 h_.time], eSl e_T_heap_item_int v_h__items h_.items]) h k → h__less x0 x1 = some y → ∃ u k', Is G id_h__less (.i .i64 x0 :: .i .i64 x1 :: cap_h__less) k u k' ∧ V.b y = u ∧ Own (fun r => r < k.n) k k' []) {r : T_heap_Heap_int} (hp : p_heap_Heap_int_swap h_ i k_ h__less = some r) :
    ∃ u k', Is G 94 [.p r_h_ 0, .i .i64 i, .i .i64 k_] h u k' ∧ ∃ (v₁ : V), V.tu [] = u ∧ Own (Bm h [eBox r_h_ [.f id_h__less cap_h__less, v_h__items, .i .i64 h_.time], eSl e_T_heap_item_int v_h__items h_.items]) h k' [eBox r_h_ [.f id_h__less cap_h__less, v₁, .i .i64 r.time], eSl e_T_heap_item_int v₁ r.items] := by
  refine WC.is (WC_of G_F_heap_Heap_int_swap ?_)
  unfold p_heap_Heap_int_swap at hp
  let B : Nat → Prop := (Bm h [eBox r_h_ [.f id_h__less cap_h__less, v_h__items, .i .i64 h_.time], eSl e_T_heap_item_int v_h__items h_.items])
  have hO : Own B h h [eBox r_h_ [.f id_h__less cap_h__less, v_h__items, .i .i64 h_.time], eSl e_T_heap_item_int v_h__items h_.items] := H
  refine W_dr ?_
  have hW := hO.bump 28
  have fr₁ := Fresh.start h 28
  have nb₁ : ∀ {i : Nat}, h.n ≤ h.n + i := Nat.le_trans hO.n (Nat.le_add_right _ _)
  have hO₁ : Own B h (h.bump 28) [eBox r_h_ [.f id_h__less cap_h__less, v_h__items, .i .i64 h_.time], eSl e_T_heap_item_int v_h__items h_.items] := hW
  refine WD_v (a_mv (v := .p r_h_ 0) rfl) ?_
  refine WD_v (a_nilp (r := r_h_) (o := 0) rfl) ?_
  refine WD_v (a_fa (r := r_h_) (o := 0) (o' := 1) rfl rfl) ?_
  refine WD_v (a_ldb (cs := [.f id_h__less cap_h__less, v_h__items, .i .i64 h_.time]) (v := v_h__items) (hO₁.box 0 rfl) rfl rfl) ?_
  refine WD_v (a_mv (v := .i .i64 i) rfl) ?_
  refine WD_v (a_mv (v := .p r_h_ 0) rfl) ?_
  refine WD_v (a_nilp (r := r_h_) (o := 0) rfl) ?_
  refine WD_v (a_fa (r := r_h_) (o := 0) (o' := 1) rfl rfl) ?_
  refine WD_v (a_ldb (cs := [.f id_h__less cap_h__less, v_h__items, .i .i64 h_.time]) (v := v_h__items) (hO₁.box 0 rfl) rfl rfl) ?_
  refine WD_v (a_mv (v := .i .i64 k_) rfl) ?_
  refine WD_v (a_mv (v := .p r_h_ 0) rfl) ?_
  refine WD_v (a_nilp (r := r_h_) (o := 0) rfl) ?_
  refine WD_v (a_fa (r := r_h_) (o := 0) (o' := 1) rfl rfl) ?_
  refine WD_v (a_ldb (cs := [.f id_h__less cap_h__less, v_h__items, .i .i64 h_.time]) (v := v_h__items) (hO₁.box 0 rfl) rfl rfl) ?_
  refine WD_v (a_mv (v := .i .i64 k_) rfl) ?_
  obtain ⟨c₁, hp⟩ := ck_some hp
  refine WD_v (a_ixa (E := e_T_heap_item_int) (z := k_) (hO₁.sl 1 rfl : Sl e_T_heap_item_int (h.bump 28) v_h__items h_.items) rfl rfl c₁) ?_
  refine WD_v (a_ldA (E := e_T_heap_item_int) (hO₁.sl 1 rfl : Sl e_T_heap_item_int (h.bump 28) v_h__items h_.items) rfl (toNat_lt c₁)) ?_
  refine WD_v (a_mv (v := .p r_h_ 0) rfl) ?_
  refine WD_v (a_nilp (r := r_h_) (o := 0) rfl) ?_
  refine WD_v (a_fa (r := r_h_) (o := 0) (o' := 1) rfl rfl) ?_
  refine WD_v (a_ldb (cs := [.f id_h__less cap_h__less, v_h__items, .i .i64 h_.time]) (v := v_h__items) (hO₁.box 0 rfl) rfl rfl) ?_
  refine WD_v (a_mv (v := .i .i64 i) rfl) ?_
  obtain ⟨c₂, hp⟩ := ck_some hp
  refine WD_v (a_ixa (E := e_T_heap_item_int) (z := i) (hO₁.sl 1 rfl : Sl e_T_heap_item_int (h.bump 28) v_h__items h_.items) rfl rfl c₂) ?_
  refine WD_v (a_ldA (E := e_T_heap_item_int) (hO₁.sl 1 rfl : Sl e_T_heap_item_int (h.bump 28) v_h__items h_.items) rfl (toNat_lt c₂)) ?_
  refine WD_v (a_ixa (E := e_T_heap_item_int) (z := i) (hO₁.sl 1 rfl : Sl e_T_heap_item_int (h.bump 28) v_h__items h_.items) rfl rfl c₂) ?_
  refine WD_x (hO₁.ste (E := e_T_heap_item_int) (y := (gi h_.items (k_ : Int).toNat)) (ws := e_T_heap_item_int.c (gi h_.items (k_ : Int).toNat)) 1 rfl rfl (toNat_lt c₂) rfl rfl ⟨rfl, Nat.le_of_ble_eq_true rfl, rfl⟩ rfl) ?_
  rintro _ k₂ z₁ ⟨rfl, f₁, m₁, hW⟩
  have fr₂ := fr₁.kept f₁ (by decide)
  have hO₂ : Own B h k₂ [eBox r_h_ [.f id_h__less cap_h__less, v_h__items, .i .i64 h_.time], eSl e_T_heap_item_int v_h__items (h_.items.set (i : Int).toNat (gi h_.items (k_ : Int).toNat))] := hW
  obtain ⟨c₃, hp⟩ := ck_some hp
  refine WD_v (a_ixa (E := e_T_heap_item_int) (z := k_) (hO₂.sl 1 rfl : Sl e_T_heap_item_int k₂ v_h__items (h_.items.set (i : Int).toNat (gi h_.items (k_ : Int).toNat))) rfl rfl c₃) ?_
  refine WD_x (hO₂.ste (E := e_T_heap_item_int) (y := (gi h_.items (i : Int).toNat)) (ws := e_T_heap_item_int.c (gi h_.items (i : Int).toNat)) 1 rfl rfl (toNat_lt c₃) rfl rfl ⟨rfl, Nat.le_of_ble_eq_true rfl, rfl⟩ rfl) ?_
  rintro _ k₃ z₂ ⟨rfl, f₂, m₂, hW⟩
  have fr₃ := fr₂.kept f₂ (by decide)
  have hO₃ : Own B h k₃ [eBox r_h_ [.f id_h__less cap_h__less, v_h__items, .i .i64 h_.time], eSl e_T_heap_item_int v_h__items ((h_.items.set (i : Int).toNat (gi h_.items (k_ : Int).toNat)).set (k_ : Int).toNat (gi h_.items (i : Int).toNat))] := hW
  refine WD_end ?_
  refine And.intro ?_ ?_
  · intro q hq
    simp only [List.mem_cons, List.not_mem_nil, or_false] at hq
    rcases hq with rfl | rfl | rfl | rfl | rfl | rfl | rfl | rfl | rfl | rfl | rfl | rfl | rfl
    · refine ap_ll ?_ ?_
      · exact (fun h => nomatch h)
      · exact (fun h => nomatch h)
    · refine ap_ll ?_ ?_
      · exact (fun h => nomatch h)
      · exact (fun h => nomatch h)
    · refine ap_ll ?_ ?_
      · exact (fun h => nomatch h)
      · exact (fun h => nomatch h)
    · refine ap_ll ?_ ?_
      · exact (fun h => nomatch h)
      · exact (fun h => nomatch h)
    · refine ap_ll ?_ ?_
      · exact (fun h => nomatch h)
      · exact (fun h => nomatch h)
    · refine ap_ll ?_ ?_
      · exact (fun h => nomatch h)
      · exact (fun h => nomatch h)
    · refine ap_ll ?_ ?_
      · exact (fun h => nomatch h)
      · exact (fun h => nomatch h)
    · refine ap_ll ?_ ?_
      · exact (fun h => nomatch h)
      · exact (fun h => nomatch h)
    · refine ap_ll ?_ ?_
      · exact (fun h => nomatch h)
      · exact (fun h => nomatch h)
    · refine ap_ll ?_ ?_
      · exact (fun h => nomatch h)
      · exact (fun h => nomatch h)
    · refine ap_ll ?_ ?_
      · exact (fun h => nomatch h)
      · exact (fun h => nomatch h)
    · refine ap_ll ?_ ?_
      · exact (fun h => nomatch h)
      · exact (fun h => nomatch h)
    · refine ap_ll ?_ ?_
      · exact (fun h => nomatch h)
      · exact (fun h => nomatch h)
  refine Ret_n rs_nil ?_
  have hp := Option.some.inj hp; subst hp
  exact (Exists.intro v_h__items (And.intro rfl (hO₃.pick [0, 1] rfl (by decide))))

theorem p_heap_Heap_int_Push.ok {h : Hp} {h_ : T_heap_Heap_int} {x : Int} {h__less : Int → Int → Option Bool} {r_h_ : Nat} {id_h__less : Nat} {cap_h__less : List V} {v_h__items : V} (H : Own (Bm h [eBox r_h_ [.f id_h__less cap_h__less, v_h__items, .i .i64 h_.time], eSl e_T_heap_item_int v_h__items h_.items]) h h [eBox r_h_ [.f id_h__less cap_h__less, v_h__items, .i .i64 h_.time], eSl e_T_heap_item_int v_h__items h_.items]) (f_h__less : ∀ (k : Hp) (x0 : Int) (x1 : Int) (y : Bool), Ex' (Bm h [eBox r_h_ [.f id_h__less cap_h__less, v_h__items, .i .i64 h_.time], eSl e_T_heap_item_int v_h__items h_.items]) h k → h__less x0 x1 = some y → ∃ u k', Is G id_h__less (.i .i64 x0 :: .i .i64 x1 :: cap_h__less) k u k' ∧ V.b y = u ∧ Own (fun r => r < k.n) k k' []) {r : T_heap_Heap_int} (hp : p_heap_Heap_int_Push h_ x h__less = some r) :
    ∃ u k', Is G 87 [.p r_h_ 0, .i .i64 x] h u k' ∧ ∃ (v₁ : V), V.tu [] = u ∧ Own (Bm h [eBox r_h_ [.f id_h__less cap_h__less, v_h__items, .i .i64 h_.time], eSl e_T_heap_item_int v_h__items h_.items]) h k' [eBox r_h_ [.f id_h__less cap_h__less, v₁, .i .i64 r.time], eSl e_T_heap_item_int v₁ r.items] := by
  refine WC.is (WC_of G_F_heap_Heap_int_Push ?_)
  unfold p_heap_Heap_int_Push at hp
  let B : Nat → Prop := (Bm h [eBox r_h_ [.f id_h__less cap_h__less, v_h__items, .i .i64 h_.time], eSl e_T_heap_item_int v_h__items h_.items])
  have hO : Own B h h [eBox r_h_ [.f id_h__less cap_h__less, v_h__items, .i .i64 h_.time], eSl e_T_heap_item_int v_h__items h_.items] := H
  refine W_sq ?_
  refine W_sq ?_
  refine W_rg ?_
  refine WO_v (a_mv (v := .p r_h_ 0) rfl) ?_
  refine WO_v (a_eqP rfl rfl) ?_
  refine WO_end ?_
  refine then_n ?_
  refine W_cF (t := false) rfl rfl ?_
  refine W_sk ?_
  refine then_n ?_
  refine W_sq ?_
  refine W_rg ?_
  refine WO_v (a_mv (v := .p r_h_ 0) rfl) ?_
  refine WO_v (a_nilp (r := r_h_) (o := 0) rfl) ?_
  refine WO_v (a_fa (r := r_h_) (o := 0) (o' := 2) rfl rfl) ?_
  refine WO_v (a_ldb (cs := [.f id_h__less cap_h__less, v_h__items, .i .i64 h_.time]) (v := .i .i64 h_.time) (hO.box 0 rfl) rfl rfl) ?_
  obtain ⟨c₁, hp⟩ := ck_some hp
  refine WO_v (a_add (a := h_.time) (b := 1) rfl rfl c₁) ?_
  refine WO_v (a_nilp (r := r_h_) (o := 0) rfl) ?_
  refine WO_v (a_fa (r := r_h_) (o := 0) (o' := 2) rfl rfl) ?_
  refine WO_x (hO.stb (ws := [.i .i64 (h_.time + 1)]) (cs' := [.f id_h__less cap_h__less, v_h__items, .i .i64 (h_.time + 1)]) (v := .i .i64 (h_.time + 1)) 0 rfl rfl rfl rfl ⟨rfl, Nat.le_of_ble_eq_true rfl, rfl⟩ rfl) ?_
  rintro _ k₁ ⟨rfl, f₁, m₁, hW⟩
  have hO₁ : Own B h k₁ [eBox r_h_ [.f id_h__less cap_h__less, v_h__items, .i .i64 (h_.time + 1)], eSl e_T_heap_item_int v_h__items h_.items] := hW
  refine WO_end ?_
  refine then_n ?_
  refine W_sq ?_
  refine W_dr ?_
  have hW := hO₁.bump 16
  have fr₁ := Fresh.start k₁ 16
  have nb₁ : ∀ {i : Nat}, h.n ≤ k₁.n + i := Nat.le_trans hO₁.n (Nat.le_add_right _ _)
  have hO₂ : Own B h (k₁.bump 16) [eBox r_h_ [.f id_h__less cap_h__less, v_h__items, .i .i64 (h_.time + 1)], eSl e_T_heap_item_int v_h__items h_.items] := hW
  refine WD_v (a_mv (v := .p r_h_ 0) rfl) ?_
  refine WD_v (a_mv (v := .p r_h_ 0) rfl) ?_
  refine WD_v (a_nilp (r := r_h_) (o := 0) rfl) ?_
  refine WD_v (a_fa (r := r_h_) (o := 0) (o' := 1) rfl rfl) ?_
  refine WD_v (a_ldb (cs := [.f id_h__less cap_h__less, v_h__items, .i .i64 (h_.time + 1)]) (v := v_h__items) (hO₂.box 0 rfl) rfl rfl) ?_
  refine WD_v (a_mv (v := .i .i64 x) rfl) ?_
  refine WD_v (a_mv (v := .p r_h_ 0) rfl) ?_
  refine WD_v (a_nilp (r := r_h_) (o := 0) rfl) ?_
  refine WD_v (a_fa (r := r_h_) (o := 0) (o' := 2) rfl rfl) ?_
  refine WD_v (a_ldb (cs := [.f id_h__less cap_h__less, v_h__items, .i .i64 (h_.time + 1)]) (v := .i .i64 (h_.time + 1)) (hO₂.box 0 rfl) rfl rfl) ?_
  refine WD_v (a_build (cs := e_T_heap_item_int.c (⟨x, h_.time + 1⟩ : T_heap_item_int)) (by rw [(ev_cons (v := .i .i64 x) rfl (ev_cons (v := .i .i64 (h_.time + 1)) rfl ev_nil))]; rfl)) ?_
  refine WD_x (hO₂.bsl (E := e_T_heap_item_int) (l := [(⟨x, h_.time + 1⟩ : T_heap_item_int)]) ⟨fr₁.m 11 (by decide) (by decide), nb₁⟩ (by rw [(ev_cons (v := .ag (e_T_heap_item_int.c (⟨x, h_.time + 1⟩ : T_heap_item_int))) rfl ev_nil)]; rfl) rfl) ?_
  rintro v₂ k₃ z₁ ⟨r₁, f₂, hW⟩
  have fr₂ := fr₁.kept f₂ (by decide)
  have hO₃ : Own B h k₃ [eBox r_h_ [.f id_h__less cap_h__less, v_h__items, .i .i64 (h_.time + 1)], eSl e_T_heap_item_int v_h__items h_.items, eSl e_T_heap_item_int v₂ [(⟨x, h_.time + 1⟩ : T_heap_item_int)]] := hW
  obtain ⟨c₂, hp⟩ := ck_some hp
  refine WD_x (hO₃.app (E := e_T_heap_item_int) (bytes := 16) 1 ⟨fr₂.m 12 (by decide) (by decide), nb₁⟩ rfl (hO₃.sl 2 rfl : Sl e_T_heap_item_int k₃ v₂ [(⟨x, h_.time + 1⟩ : T_heap_item_int)]) rfl rfl (fun _ => rfl) c₂ (by decide)) ?_
  rintro v₃ k₄ z₂ ⟨f₃, hW⟩
  have fr₃ := fr₂.kept f₃ (by decide)
  have hO₄ : Own B h k₄ [eBox r_h_ [.f id_h__less cap_h__less, v_h__items, .i .i64 (h_.time + 1)], eSl e_T_heap_item_int v₃ (h_.items ++ [(⟨x, h_.time + 1⟩ : T_heap_item_int)]), eSl e_T_heap_item_int v₂ [(⟨x, h_.time + 1⟩ : T_heap_item_int)]] := hW
  refine WD_v (a_nilp (r := r_h_) (o := 0) rfl) ?_
  refine WD_v (a_fa (r := r_h_) (o := 0) (o' := 1) rfl rfl) ?_
  refine WD_x (hO₄.stb (ws := [v₃]) (cs' := [.f id_h__less cap_h__less, v₃, .i .i64 (h_.time + 1)]) (v := v₃) 0 rfl rfl rfl (hO₄.sl 1 rfl : Sl e_T_heap_item_int k₄ v₃ (h_.items ++ [(⟨x, h_.time + 1⟩ : T_heap_item_int)])).cells ⟨rfl, Nat.le_of_ble_eq_true rfl, (all_cons (hO₄.sl 1 rfl : Sl e_T_heap_item_int k₄ v₃ (h_.items ++ [(⟨x, h_.time + 1⟩ : T_heap_item_int)])).oneV rfl)⟩ rfl) ?_
  rintro _ k₅ z₃ ⟨rfl, f₄, m₂, hW⟩
  have fr₄ := fr₃.kept f₄ (by decide)
  have hO₅ : Own B h k₅ [eBox r_h_ [.f id_h__less cap_h__less, v₃, .i .i64 (h_.time + 1)], eSl e_T_heap_item_int v₃ (h_.items ++ [(⟨x, h_.time + 1⟩ : T_heap_item_int)]), eSl e_T_heap_item_int v₂ [(⟨x, h_.time + 1⟩ : T_heap_item_int)]] := hW
  refine WD_end ?_
  refine And.intro ?_ ?_
  · intro q hq
    simp only [List.mem_cons, List.not_mem_nil, or_false] at hq
    rcases hq with rfl | rfl
    · refine ap_ll ?_ ?_
      · exact (fun h => nomatch h)
      · exact (fun h => nomatch h)
    · refine ap_ll ?_ ?_
      · exact (fun h => nomatch h)
      · exact (fun _ hm => Nat.lt_irrefl _ (Nat.lt_of_lt_of_le (hO₁.ltAt 0 rfl _ (tch (v := V.p r_h_ 1) (ld_el hm) rfl)) (Nat.le_add_right _ _)))
  refine then_n ?_
  refine W_sq ?_
  refine W_rg ?_
  refine WO_v (a_mv (v := .p r_h_ 0) rfl) ?_
  refine WO_v (a_nilp (r := r_h_) (o := 0) rfl) ?_
  refine WO_v (a_fa (r := r_h_) (o := 0) (o' := 1) rfl rfl) ?_
  refine WO_v (a_ldb (cs := [.f id_h__less cap_h__less, v₃, .i .i64 (h_.time + 1)]) (v := v₃) (hO₅.box 0 rfl) rfl rfl) ?_
  refine WO_v (a_len (hO₅.sl 1 rfl : Sl e_T_heap_item_int k₅ v₃ (h_.items ++ [(⟨x, h_.time + 1⟩ : T_heap_item_int)])) rfl) ?_
  obtain ⟨c₃, hp⟩ := ck_some hp
  refine WO_v (a_sub (a := ((h_.items ++ [(⟨x, h_.time + 1⟩ : T_heap_item_int)]).length : Int)) (b := 1) rfl rfl c₃) ?_
  refine WO_v (a_mv (v := .i .i64 (((h_.items ++ [(⟨x, h_.time + 1⟩ : T_heap_item_int)]).length : Int) - 1)) rfl) ?_
  refine WO_end ?_
  refine then_n ?_
  refine W_bl ?_
  obtain ⟨o₁, ho₁, hp⟩ := bd_some hp
  refine W.mono (Q := fun e fr k => match (generalizing := false) o₁ with
      | (p0, p01) => e = (.exit 0) ∧ ∃ (v₅ : V), Own B h k [eBox r_h_ [.f id_h__less cap_h__less, v₅, .i .i64 p01], eSl e_T_heap_item_int v₅ p0]) ?_ ?_
  · clear hp
    refine W_loopF (fun st fr k => match st with | (h_1, h_2, i) => ∃ (v₄ : V), fr 0 = .p r_h_ 0 ∧ fr 4 = .i .i64 i ∧ Own B h k [eBox r_h_ [.f id_h__less cap_h__less, v₄, .i .i64 h_2], eSl e_T_heap_item_int v₄ h_1]) ho₁ (s := (h_.items ++ [(⟨x, h_.time + 1⟩ : T_heap_item_int)], h_.time + 1, ((h_.items ++ [(⟨x, h_.time + 1⟩ : T_heap_item_int)]).length : Int) - 1)) (Exists.intro v₃ (And.intro (rfl) (And.intro (rfl) (hO₅.pick [0, 1] rfl (by decide))))) ?_
    rintro ⟨h_1, h_2, i⟩ q₂ k₇ ⟨v₄, q₂_0, q₂_4, hO₇⟩ o₂ hp
    dsimp only [p_heap_Heap_int_Push.s0] at hp
    refine W_sq ?_
    refine W_sq ?_
    refine W_rg ?_
    refine WO_v (a_mv (v := .i .i64 i) q₂_4) ?_
    refine WO_v (a_gtr (a := i) (b := 0) rfl rfl) ?_
    refine WO_v (a_mv (v := .b (decide (0 < i))) rfl) ?_
    obtain ⟨t, hv₁, hp⟩ := bd_some hp
    refine WO_cut 7 (fun fr' k' => Own B h k' [eBox r_h_ [.f id_h__less cap_h__less, v₄, .i .i64 h_2], eSl e_T_heap_item_int v₄ h_1] ∧ fr' 44 = .b t ∧ fr' 0 = .p r_h_ 0 ∧ fr' 4 = .i .i64 i) ?_ ?_
    · clear hp; rcases if_some hv₁ with ⟨b₁, hp⟩ | ⟨b₁, hp⟩
      · skip
        refine WO_on rfl b₁ ?_
        refine WO_v (a_mv (v := .p r_h_ 0) q₂_0) ?_
        refine WO_on rfl b₁ ?_
        refine WO_v (a_mv (v := .i .i64 i) q₂_4) ?_
        refine WO_on rfl b₁ ?_
        refine WO_v (a_mv (v := .i .i64 i) q₂_4) ?_
        refine WO_on rfl b₁ ?_
        obtain ⟨c₄, hp⟩ := ck_some hp
        refine WO_v (a_sub (a := i) (b := 1) rfl rfl c₄) ?_
        refine WO_on rfl b₁ ?_
        obtain ⟨c₅, hp⟩ := ck_some hp
        refine WO_v (a_quo (a := (i - 1)) (b := 2) rfl rfl c₅) ?_
        refine WO_on rfl b₁ ?_
        obtain ⟨x1, hx₁, hp⟩ := bd_some hp
        obtain ⟨u₁, k₈, ca₁, rfl, hW₁⟩ := p_heap_Heap_int_ahead.ok (h := k₇) (h_ := (⟨h_1, h_2⟩ : T_heap_Heap_int)) (i := i) (k_ := ((i - 1).tdiv 2)) (h__less := h__less) (hO₇.box 0 rfl) (fun k z0 z1 y hk hx => f_h__less k z0 z1 y (exTo hO₇ hk) hx) (hO₇.sl 1 rfl : Sl e_T_heap_item_int k₇ v₄ h_1) hx₁
        refine WO_c (id := 93) (caps := []) rfl (mp_cons (v := .p r_h_ 0) rfl (mp_cons (v := .i .i64 i) rfl (mp_cons (v := .i .i64 ((i - 1).tdiv 2)) rfl mp_nil))) ca₁ ?_
        have hO₈ : Own B h k₈ [eBox r_h_ [.f id_h__less cap_h__less, v₄, .i .i64 h_2], eSl e_T_heap_item_int v₄ h_1] := hO₇.call hW₁ rfl
        refine WO_v (a_pickT (t := (decide (0 < i))) (v := .b t) rfl b₁ (Eq.trans (b := V.b x1) rfl (congrArg V.b (Option.some.inj hp)))) ?_
        refine WO_end ?_
        exact ⟨hO₈.pick [0, 1] rfl (by decide), rfl, q₂_0, q₂_4⟩
      · skip
        refine WO_off rfl b₁ ?_
        refine WO_off rfl b₁ ?_
        refine WO_off rfl b₁ ?_
        refine WO_off rfl b₁ ?_
        refine WO_off rfl b₁ ?_
        refine WO_off rfl b₁ ?_
        refine WO_v (a_pickF (t := (decide (0 < i))) (v := .b t) rfl b₁ (Eq.trans (b := V.b false) rfl (congrArg V.b (Option.some.inj hp)))) ?_
        refine WO_end ?_
        exact ⟨hO₇.pick [0, 1] rfl (by decide), rfl, q₂_0, q₂_4⟩
    rintro frg₁ k₉ ⟨hO₉, g₁_44, g₁_0, g₁_4⟩
    refine WO_end ?_
    refine then_n ?_
    rcases if_some hp with ⟨b₂, hp⟩ | ⟨b₂, hp⟩
    · refine W_cT (t := t) g₁_44 b₂ ?_
      refine W_sk ?_
      refine then_n ?_
      refine W_sq ?_
      refine W_bl ?_
      refine W_rg ?_
      refine WO_v (a_mv (v := .p r_h_ 0) g₁_0) ?_
      refine WO_v (a_mv (v := .i .i64 i) g₁_4) ?_
      refine WO_v (a_mv (v := .i .i64 i) g₁_4) ?_
      obtain ⟨c₆, hp⟩ := ck_some hp
      refine WO_v (a_sub (a := i) (b := 1) rfl rfl c₆) ?_
      obtain ⟨c₇, hp⟩ := ck_some hp
      refine WO_v (a_quo (a := (i - 1)) (b := 2) rfl rfl c₇) ?_
      obtain ⟨m, hx₂, hp⟩ := bd_some hp
      obtain ⟨u₂, k₁₀, ca₂, v₆, rfl, hW₂⟩ := p_heap_Heap_int_swap.ok (h := k₉) (h_ := (⟨h_1, h_2⟩ : T_heap_Heap_int)) (i := i) (k_ := ((i - 1).tdiv 2)) (h__less := h__less) (hO₉.toM [0, 1] rfl (by decide)) (fun k z0 z1 y hk hx => f_h__less k z0 z1 y (exToM hO₉ [0, 1] rfl hk) hx) hx₂
      refine WO_c (id := 94) (caps := []) rfl (mp_cons (v := .p r_h_ 0) rfl (mp_cons (v := .i .i64 i) rfl (mp_cons (v := .i .i64 ((i - 1).tdiv 2)) rfl mp_nil))) ca₂ ?_
      have hO₁₀ : Own B h k₁₀ [eBox r_h_ [.f id_h__less cap_h__less, v₆, .i .i64 m.time], eSl e_T_heap_item_int v₆ m.items] := (hO₉.callM [0, 1] [] rfl rfl (by decide) hW₂ rfl).pick [0, 1] rfl (by decide)
      refine WO_end ?_
      refine blk_n ?_
      refine then_n ?_
      refine W_rg ?_
      refine WO_v (a_mv (v := .i .i64 i) g₁_4) ?_
      refine WO_v (a_sub (a := i) (b := 1) rfl rfl c₆) ?_
      refine WO_v (a_quo (a := (i - 1)) (b := 2) rfl rfl c₇) ?_
      refine WO_v (a_mv (v := .i .i64 ((i - 1).tdiv 2)) rfl) ?_
      refine WO_end ?_
      have hp := Option.some.inj hp; subst hp
      exact (Or.inl (Exists.intro (m.items, m.time, (i - 1).tdiv 2) (And.intro rfl (And.intro rfl (Exists.intro v₆ (And.intro (g₁_0) (And.intro (rfl) (hO₁₀.pick [0, 1] rfl (by decide)))))))))
    · refine W_cF (t := t) g₁_44 b₂ ?_
      refine W_ex ?_
      refine then_e ?_
      have hp := Option.some.inj hp; subst hp
      refine (Or.inr (Exists.intro (h_1, h_2) (And.intro rfl (And.intro (fun h => nomatch h) (fun he => ?_)))))
      subst he; exact (And.intro rfl (Exists.intro v₄ (hO₉.pick [0, 1] rfl (by decide))))
  intro e₁ q₁ k₆ hJ₁
  obtain ⟨p0, p01⟩ := o₁
  obtain ⟨rfl, v₅, hO₆⟩ := hJ₁
  refine blk_i ?_
  refine Ret_n rs_nil ?_
  have hp := Option.some.inj hp; subst hp
  exact (Exists.intro v₅ (And.intro rfl (hO₆.pick [0, 1] rfl (by decide))))

theorem p_heap_Heap_int_Len.ok {h : Hp} {h_ : T_heap_Heap_int} {h__less : Int → Int → Option Bool} {r_h_ : Nat} {id_h__less : Nat} {cap_h__less : List V} {v_h__items : V} {w_h_ : Bool} (b_h_ : h.m r_h_ = some (.cells w_h_ [.f id_h__less cap_h__less, v_h__items, .i .i64 h_.time])) (f_h__less : ∀ (k : Hp) (x0 : Int) (x1 : Int) (y : Bool), Ex' (fun r => r < h.n) h k → h__less x0 x1 = some y → ∃ u k', Is G id_h__less (.i .i64 x0 :: .i .i64 x1 :: cap_h__less) k u k' ∧ V.b y = u ∧ Own (fun r => r < k.n) k k' []) (s_h__items : Sl e_T_heap_item_int h v_h__items h_.items) {r : Int} (hp : p_heap_Heap_int_Len h_ h__less = some r) :
    ∃ u k', Is G 99 [.p r_h_ 0] h u k' ∧ V.i .i64 r = u ∧ Own (fun r => r < h.n) h k' [] := by
  refine WC.is (WC_of G_F_heap_Heap_int_Len ?_)
  unfold p_heap_Heap_int_Len at hp
  let B : Nat → Prop := (fun r => r < h.n)
  have hO : Own B h h [] := Own.start0 h
  refine W_sq ?_
  refine W_rg ?_
  refine WO_v (a_mv (v := .i .i64 0) rfl) ?_
  refine WO_end ?_
  refine then_n ?_
  refine W_sq ?_
  refine W_sq ?_
  refine W_rg ?_
  refine WO_v (a_mv (v := .p r_h_ 0) rfl) ?_
  refine WO_v (a_eqP rfl rfl) ?_
  refine WO_end ?_
  refine then_n ?_
  refine W_cF (t := false) rfl rfl ?_
  refine W_sk ?_
  refine then_n ?_
  refine W_sq ?_
  refine W_rg ?_
  refine WO_v (a_mv (v := .p r_h_ 0) rfl) ?_
  refine WO_v (a_nilp (r := r_h_) (o := 0) rfl) ?_
  refine WO_v (a_fa (r := r_h_) (o := 0) (o' := 1) rfl rfl) ?_
  refine WO_v (a_ldb (cs := [.f id_h__less cap_h__less, v_h__items, .i .i64 h_.time]) (v := v_h__items) (hO.rdB0 (RdB.of b_h_)).choose_spec rfl rfl) ?_
  refine WO_v (a_len (hO.rd0 s_h__items.rd : Sl e_T_heap_item_int h v_h__items h_.items) rfl) ?_
  refine WO_v (a_mv (v := .i .i64 (h_.items.length : Int)) rfl) ?_
  refine WO_end ?_
  refine then_n ?_
  refine W_rt ?_
  refine Ret_r (rs_t (n := 2) (v := .i .i64 (h_.items.length : Int)) rfl rs_nil) ?_
  have hp := Option.some.inj hp; subst hp
  exact (And.intro rfl (hO.pick [] rfl (by decide)))

theorem p_heap_Heap_int_Top.ok {h : Hp} {h_ : T_heap_Heap_int} {h__less : Int → Int → Option Bool} {r_h_ : Nat} {id_h__less : Nat} {cap_h__less : List V} {v_h__items : V} {w_h_ : Bool} (b_h_ : h.m r_h_ = some (.cells w_h_ [.f id_h__less cap_h__less, v_h__items, .i .i64 h_.time])) (f_h__less : ∀ (k : Hp) (x0 : Int) (x1 : Int) (y : Bool), Ex' (fun r => r < h.n) h k → h__less x0 x1 = some y → ∃ u k', Is G id_h__less (.i .i64 x0 :: .i .i64 x1 :: cap_h__less) k u k' ∧ V.b y = u ∧ Own (fun r => r < k.n) k k' []) (s_h__items : Sl e_T_heap_item_int h v_h__items h_.items) {r : Int × Bool} (hp : p_heap_Heap_int_Top h_ h__less = some r) :
    ∃ u k', Is G 95 [.p r_h_ 0] h u k' ∧ V.tu [.i .i64 r.1, .b r.2] = u ∧ Own (fun r => r < h.n) h k' [] := by
  refine WC.is (WC_of G_F_heap_Heap_int_Top ?_)
  unfold p_heap_Heap_int_Top at hp
  let B : Nat → Prop := (fun r => r < h.n)
  have hO : Own B h h [] := Own.start0 h
  refine W_sq ?_
  refine W_rg ?_
  refine WO_v (a_mv (v := .i .i64 0) rfl) ?_
  refine WO_v (a_mv (v := .b false) rfl) ?_
  refine WO_end ?_
  refine then_n ?_
  refine W_sq ?_
  refine W_sq ?_
  refine W_rg ?_
  refine WO_v (a_mv (v := .p r_h_ 0) rfl) ?_
  obtain ⟨x, hx₁, hp⟩ := bd_some hp
  obtain ⟨u₁, k₁, ca₁, rfl, hW₁⟩ := p_heap_Heap_int_Len.ok (h := h) (h_ := h_) (h__less := h__less) (hO.rdB0 (RdB.of b_h_)).choose_spec (fun k z0 z1 y hk hx => f_h__less k z0 z1 y (exTo hO hk) hx) (hO.rd0 s_h__items.rd : Sl e_T_heap_item_int h v_h__items h_.items) hx₁
  refine WO_c (id := 99) (caps := []) rfl (mp_cons (v := .p r_h_ 0) rfl mp_nil) ca₁ ?_
  have hO₁ : Own B h k₁ [] := hO.call hW₁ rfl
  refine WO_v (a_eqI (a := x) (b := 0) rfl rfl) ?_
  refine WO_end ?_
  refine then_n ?_
  rcases if_some hp with ⟨b₁, hp⟩ | ⟨b₁, hp⟩
  · refine W_cT (t := (decide (x = 0))) rfl b₁ ?_
    refine W_sq ?_
    refine W_rg ?_
    refine WO_v (a_mv (v := .i .i64 0) rfl) ?_
    refine WO_end ?_
    refine then_n ?_
    refine W_sq ?_
    refine W_rg ?_
    refine WO_v (a_mv (v := .i .i64 0) rfl) ?_
    refine WO_v (a_mv (v := .i .i64 0) rfl) ?_
    refine WO_v (a_mv (v := .b false) rfl) ?_
    refine WO_end ?_
    refine then_n ?_
    refine W_rt ?_
    refine then_r ?_
    refine Ret_r (rs_t (n := 2) (v := .i .i64 0) rfl (rs_t (n := 3) (v := .b false) rfl rs_nil)) ?_
    have hp := Option.some.inj hp; subst hp
    exact (And.intro rfl (hO₁.pick [] rfl (by decide)))
  · refine W_cF (t := (decide (x = 0))) rfl b₁ ?_
    refine W_sk ?_
    refine then_n ?_
    refine W_sq ?_
    refine W_rg ?_
    refine WO_v (a_mv (v := .p r_h_ 0) rfl) ?_
    refine WO_v (a_nilp (r := r_h_) (o := 0) rfl) ?_
    refine WO_v (a_fa (r := r_h_) (o := 0) (o' := 1) rfl rfl) ?_
    refine WO_v (a_ldb (cs := [.f id_h__less cap_h__less, v_h__items, .i .i64 h_.time]) (v := v_h__items) (hO₁.rdB0 (RdB.of b_h_)).choose_spec rfl rfl) ?_
    obtain ⟨c₁, hp⟩ := ck_some hp
    refine WO_v (a_ixa (E := e_T_heap_item_int) (z := 0) (hO₁.rd0 s_h__items.rd : Sl e_T_heap_item_int k₁ v_h__items h_.items) rfl rfl c₁) ?_
    refine WO_v (a_faE (off' := 0) (off2 := 0) (hO₁.rd0 s_h__items.rd : Sl e_T_heap_item_int k₁ v_h__items h_.items) (toNat_lt c₁) rfl rfl) ?_
    refine WO_v (a_ldE (w := .i .i64 ((gi h_.items (0 : Int).toNat).x)) (hO₁.rd0 s_h__items.rd : Sl e_T_heap_item_int k₁ v_h__items h_.items) rfl (toNat_lt c₁) rfl) ?_
    refine WO_v (a_mv (v := .i .i64 ((gi h_.items (0 : Int).toNat).x)) rfl) ?_
    refine WO_v (a_mv (v := .b true) rfl) ?_
    refine WO_end ?_
    refine then_n ?_
    refine W_rt ?_
    refine Ret_r (rs_t (n := 2) (v := .i .i64 ((gi h_.items (0 : Int).toNat).x)) rfl (rs_t (n := 3) (v := .b true) rfl rs_nil)) ?_
    have hp := Option.some.inj hp; subst hp
    exact (And.intro rfl (hO₁.pick [] rfl (by decide)))

theorem p_heap_Heap_int_sink.ok {h : Hp} {h_ : T_heap_Heap_int} {h__less : Int → Int → Option Bool} {r_h_ : Nat} {id_h__less : Nat} {cap_h__less : List V} {v_h__items : V} (H : Own (Bm h [eBox r_h_ [.f id_h__less cap_h__less, v_h__items, .i .i64 h_.time], eSl e_T_heap_item_int v_h__items h_.items]) h h [eBox r_h_ [.f id_h__less cap_h__less, v_h__items, .i .i64 h_.time], eSl e_T_heap_item_int v_h__items h_.items]) (f_h__less : ∀ (k : Hp) (x0 : Int) (x1 : Int) (y : Bool), Ex' (Bm h [eBox r_h_ [.f id_h__less cap_h__less, v_h__items, .i .i64 h_.time], eSl e_T_heap_item_int v_h__items h_.items]) h k → h__less x0 x1 = some y → ∃ u k', Is G id_h__less (.i .i64 x0 :: .i .i64 x1 :: cap_h__less) k u k' ∧ V.b y = u ∧ Own (fun r => r < k.n) k k' []) {r : T_heap_Heap_int} (hp : p_heap_Heap_int_sink h_ h__less = some r) :
    ∃ u k', Is G 96 [.p r_h_ 0] h u k' ∧ ∃ (v₁ : V), V.tu [] = u ∧ Own (Bm h [eBox r_h_ [.f id_h__less cap_h__less, v_h__items, .i .i64 h_.time], eSl e_T_heap_item_int v_h__items h_.items]) h k' [eBox r_h_ [.f id_h__less cap_h__less, v₁, .i .i64 r.time], eSl e_T_heap_item_int v₁ r.items] := by
  refine WC.is (WC_of G_F_heap_Heap_int_sink ?_)
  unfold p_heap_Heap_int_sink at hp
  let B : Nat → Prop := (Bm h [eBox r_h_ [.f id_h__less cap_h__less, v_h__items, .i .i64 h_.time], eSl e_T_heap_item_int v_h__items h_.items])
  have hO : Own B h h [eBox r_h_ [.f id_h__less cap_h__less, v_h__items, .i .i64 h_.time], eSl e_T_heap_item_int v_h__items h_.items] := H
  refine W_sq ?_
  refine W_rg ?_
  refine WO_v (a_mv (v := .i .i64 0) rfl) ?_
  refine WO_end ?_
  refine then_n ?_
  refine W_bl ?_
  obtain ⟨o₁, ho₁, hp⟩ := bd_some hp
  refine W.mono (Q := fun e fr k => match (generalizing := false) o₁ with
      | (p0, p01) => e = .ret ∧ ∃ (v₃ : V), Own B h k [eBox r_h_ [.f id_h__less cap_h__less, v₃, .i .i64 p01], eSl e_T_heap_item_int v₃ p0]) ?_ ?_
  · clear hp
    refine W_loopF (fun st fr k => match st with | (h_1, h_2, i) => ∃ (v₂ : V), fr 0 = .p r_h_ 0 ∧ fr 2 = .i .i64 i ∧ Own B h k [eBox r_h_ [.f id_h__less cap_h__less, v₂, .i .i64 h_2], eSl e_T_heap_item_int v₂ h_1]) ho₁ (s := (h_.items, h_.time, 0)) (Exists.intro v_h__items (And.intro (rfl) (And.intro (rfl) (hO.pick [0, 1] rfl (by decide))))) ?_
    rintro ⟨h_1, h_2, i⟩ q₂ k₂ ⟨v₂, q₂_0, q₂_2, hO₂⟩ o₂ hp
    dsimp only [p_heap_Heap_int_sink.s0] at hp
    refine W_bl ?_
    refine W_sq ?_
    refine W_rg ?_
    refine WO_v (a_mv (v := .i .i64 i) q₂_2) ?_
    obtain ⟨c₁, hp⟩ := ck_some hp
    refine WO_v (a_mul (a := 2) (b := i) rfl rfl c₁) ?_
    obtain ⟨c₂, hp⟩ := ck_some hp
    refine WO_v (a_add (a := (2 * i)) (b := 1) rfl rfl c₂) ?_
    refine WO_v (a_mv (v := .i .i64 ((2 * i) + 1)) rfl) ?_
    refine WO_end ?_
    refine then_n ?_
    refine W_sq ?_
    refine W_sq ?_
    refine W_rg ?_
    refine WO_v (a_mv (v := .i .i64 ((2 * i) + 1)) rfl) ?_
    refine WO_v (a_mv (v := .p r_h_ 0) q₂_0) ?_
    refine WO_v (a_nilp (r := r_h_) (o := 0) rfl) ?_
    refine WO_v (a_fa (r := r_h_) (o := 0) (o' := 1) rfl rfl) ?_
    refine WO_v (a_ldb (cs := [.f id_h__less cap_h__less, v₂, .i .i64 h_2]) (v := v₂) (hO₂.box 0 rfl) rfl rfl) ?_
    refine WO_v (a_len (hO₂.sl 1 rfl : Sl e_T_heap_item_int k₂ v₂ h_1) rfl) ?_
    refine WO_v (a_geq (a := ((2 * i) + 1)) (b := (h_1.length : Int)) rfl rfl) ?_
    refine WO_end ?_
    refine then_n ?_
    rcases if_some hp with ⟨b₁, hp⟩ | ⟨b₁, hp⟩
    · refine W_cT (t := (decide ((h_1.length : Int) ≤ ((2 * i) + 1)))) rfl b₁ ?_
      refine W_rt ?_
      refine then_r ?_
      refine blk_r ?_
      have hp := Option.some.inj hp; subst hp
      refine (Or.inr (Exists.intro (h_1, h_2) (And.intro rfl (And.intro (fun h => nomatch h) (fun he => ?_)))))
      subst he; exact (And.intro rfl (Exists.intro v₂ (hO₂.pick [0, 1] rfl (by decide))))
    · refine W_cF (t := (decide ((h_1.length : Int) ≤ ((2 * i) + 1)))) rfl b₁ ?_
      refine W_sk ?_
      refine then_n ?_
      refine W_sq ?_
      refine W_sq ?_
      refine W_rg ?_
      refine WO_v (a_mv (v := .i .i64 ((2 * i) + 1)) rfl) ?_
      obtain ⟨c₃, hp⟩ := ck_some hp
      refine WO_v (a_add (a := ((2 * i) + 1)) (b := 1) rfl rfl c₃) ?_
      refine WO_v (a_mv (v := .p r_h_ 0) q₂_0) ?_
      refine WO_v (a_nilp (r := r_h_) (o := 0) rfl) ?_
      refine WO_v (a_fa (r := r_h_) (o := 0) (o' := 1) rfl rfl) ?_
      refine WO_v (a_ldb (cs := [.f id_h__less cap_h__less, v₂, .i .i64 h_2]) (v := v₂) (hO₂.box 0 rfl) rfl rfl) ?_
      refine WO_v (a_len (hO₂.sl 1 rfl : Sl e_T_heap_item_int k₂ v₂ h_1) rfl) ?_
      refine WO_v (a_lss (a := (((2 * i) + 1) + 1)) (b := (h_1.length : Int)) rfl rfl) ?_
      refine WO_v (a_mv (v := .b (decide ((((2 * i) + 1) + 1) < (h_1.length : Int)))) rfl) ?_
      obtain ⟨t, hv₁, hp⟩ := bd_some hp
      refine WO_cut 6 (fun fr' k' => Own B h k' [eBox r_h_ [.f id_h__less cap_h__less, v₂, .i .i64 h_2], eSl e_T_heap_item_int v₂ h_1] ∧ fr' 28 = .b t ∧ fr' 0 = .p r_h_ 0 ∧ fr' 2 = .i .i64 i ∧ fr' 3 = .i .i64 ((2 * i) + 1)) ?_ ?_
      · clear hp; rcases if_some hv₁ with ⟨b₂, hp⟩ | ⟨b₂, hp⟩
        · skip
          refine WO_on rfl b₂ ?_
          refine WO_v (a_mv (v := .p r_h_ 0) q₂_0) ?_
          refine WO_on rfl b₂ ?_
          refine WO_v (a_mv (v := .i .i64 ((2 * i) + 1)) rfl) ?_
          refine WO_on rfl b₂ ?_
          refine WO_v (a_add (a := ((2 * i) + 1)) (b := 1) rfl rfl c₃) ?_
          refine WO_on rfl b₂ ?_
          refine WO_v (a_mv (v := .i .i64 ((2 * i) + 1)) rfl) ?_
          refine WO_on rfl b₂ ?_
          obtain ⟨x, hx₁, hp⟩ := bd_some hp
          obtain ⟨u₁, k₃, ca₁, rfl, hW₁⟩ := p_heap_Heap_int_ahead.ok (h := k₂) (h_ := (⟨h_1, h_2⟩ : T_heap_Heap_int)) (i := (((2 * i) + 1) + 1)) (k_ := ((2 * i) + 1)) (h__less := h__less) (hO₂.box 0 rfl) (fun k z0 z1 y hk hx => f_h__less k z0 z1 y (exTo hO₂ hk) hx) (hO₂.sl 1 rfl : Sl e_T_heap_item_int k₂ v₂ h_1) hx₁
          refine WO_c (id := 93) (caps := []) rfl (mp_cons (v := .p r_h_ 0) rfl (mp_cons (v := .i .i64 (((2 * i) + 1) + 1)) rfl (mp_cons (v := .i .i64 ((2 * i) + 1)) rfl mp_nil))) ca₁ ?_
          have hO₃ : Own B h k₃ [eBox r_h_ [.f id_h__less cap_h__less, v₂, .i .i64 h_2], eSl e_T_heap_item_int v₂ h_1] := hO₂.call hW₁ rfl
          refine WO_v (a_pickT (t := (decide ((((2 * i) + 1) + 1) < (h_1.length : Int)))) (v := .b t) rfl b₂ (Eq.trans (b := V.b x) rfl (congrArg V.b (Option.some.inj hp)))) ?_
          refine WO_end ?_
          exact ⟨hO₃.pick [0, 1] rfl (by decide), rfl, q₂_0, q₂_2, rfl⟩
        · skip
          refine WO_off rfl b₂ ?_
          refine WO_off rfl b₂ ?_
          refine WO_off rfl b₂ ?_
          refine WO_off rfl b₂ ?_
          refine WO_off rfl b₂ ?_
          refine WO_v (a_pickF (t := (decide ((((2 * i) + 1) + 1) < (h_1.length : Int)))) (v := .b t) rfl b₂ (Eq.trans (b := V.b false) rfl (congrArg V.b (Option.some.inj hp)))) ?_
          refine WO_end ?_
          exact ⟨hO₂.pick [0, 1] rfl (by decide), rfl, q₂_0, q₂_2, rfl⟩
      rintro frg₁ k₄ ⟨hO₄, g₁_28, g₁_0, g₁_2, g₁_3⟩
      refine WO_end ?_
      refine then_n ?_
      obtain ⟨o₃, ho₂, hp⟩ := bd_some hp
      refine W.mono (Q := fun e fr k => match (generalizing := false) o₃ with
          | k_ => e = .normal ∧ fr 0 = .p r_h_ 0 ∧ fr 2 = .i .i64 i ∧ fr 3 = .i .i64 k_ ∧ Own B h k [eBox r_h_ [.f id_h__less cap_h__less, v₂, .i .i64 h_2], eSl e_T_heap_item_int v₂ h_1]) ?_ ?_
      · clear hp; have hp := ho₂; clear ho₂
        rcases if_some hp with ⟨b₃, hp⟩ | ⟨b₃, hp⟩
        · refine W_cT (t := t) g₁_28 b₃ ?_
          refine W_rg ?_
          refine WO_v (a_mv (v := .i .i64 ((2 * i) + 1)) g₁_3) ?_
          refine WO_v (a_add (a := ((2 * i) + 1)) (b := 1) rfl rfl c₃) ?_
          refine WO_v (a_mv (v := .i .i64 (((2 * i) + 1) + 1)) rfl) ?_
          refine WO_end ?_
          have hp := Option.some.inj hp; subst hp
          exact (And.intro rfl (And.intro (g₁_0) (And.intro (g₁_2) (And.intro (rfl) (hO₄.pick [0, 1] rfl (by decide))))))
        · refine W_cF (t := t) g₁_28 b₃ ?_
          refine W_sk ?_
          have hp := Option.some.inj hp; subst hp
          exact (And.intro rfl (And.intro (g₁_0) (And.intro (g₁_2) (And.intro (g₁_3) (hO₄.pick [0, 1] rfl (by decide))))))
      intro e₂ q₃ k₅ hJ₂
      obtain ⟨k_, rfl⟩ : ∃ x, x = o₃ := ⟨_, rfl⟩
      obtain ⟨rfl, q₃_0, q₃_2, q₃_3, hO₅⟩ := hJ₂
      refine then_n ?_
      refine W_sq ?_
      refine W_sq ?_
      refine W_rg ?_
      refine WO_v (a_mv (v := .p r_h_ 0) q₃_0) ?_
      refine WO_v (a_mv (v := .i .i64 k_) q₃_3) ?_
      refine WO_v (a_mv (v := .i .i64 i) q₃_2) ?_
      obtain ⟨x1, hx₂, hp⟩ := bd_some hp
      obtain ⟨u₂, k₆, ca₂, rfl, hW₂⟩ := p_heap_Heap_int_ahead.ok (h := k₅) (h_ := (⟨h_1, h_2⟩ : T_heap_Heap_int)) (i := k_) (k_ := i) (h__less := h__less) (hO₅.box 0 rfl) (fun k z0 z1 y hk hx => f_h__less k z0 z1 y (exTo hO₅ hk) hx) (hO₅.sl 1 rfl : Sl e_T_heap_item_int k₅ v₂ h_1) hx₂
      refine WO_c (id := 93) (caps := []) rfl (mp_cons (v := .p r_h_ 0) rfl (mp_cons (v := .i .i64 k_) rfl (mp_cons (v := .i .i64 i) rfl mp_nil))) ca₂ ?_
      have hO₆ : Own B h k₆ [eBox r_h_ [.f id_h__less cap_h__less, v₂, .i .i64 h_2], eSl e_T_heap_item_int v₂ h_1] := hO₅.call hW₂ rfl
      refine WO_v (a_not (t := x1) rfl) ?_
      refine WO_end ?_
      refine then_n ?_
      rcases if_some hp with ⟨b₄, hp⟩ | ⟨b₄, hp⟩
      · refine W_cT (t := (!x1)) rfl b₄ ?_
        refine W_rt ?_
        refine then_r ?_
        refine blk_r ?_
        have hp := Option.some.inj hp; subst hp
        refine (Or.inr (Exists.intro (h_1, h_2) (And.intro rfl (And.intro (fun h => nomatch h) (fun he => ?_)))))
        subst he; exact (And.intro rfl (Exists.intro v₂ (hO₆.pick [0, 1] rfl (by decide))))
      · refine W_cF (t := (!x1)) rfl b₄ ?_
        refine W_sk ?_
        refine then_n ?_
        refine W_sq ?_
        refine W_rg ?_
        refine WO_v (a_mv (v := .p r_h_ 0) q₃_0) ?_
        refine WO_v (a_mv (v := .i .i64 i) q₃_2) ?_
        refine WO_v (a_mv (v := .i .i64 k_) q₃_3) ?_
        obtain ⟨m, hx₃, hp⟩ := bd_some hp
        obtain ⟨u₃, k₇, ca₃, v₄, rfl, hW₃⟩ := p_heap_Heap_int_swap.ok (h := k₆) (h_ := (⟨h_1, h_2⟩ : T_heap_Heap_int)) (i := i) (k_ := k_) (h__less := h__less) (hO₆.toM [0, 1] rfl (by decide)) (fun k z0 z1 y hk hx => f_h__less k z0 z1 y (exToM hO₆ [0, 1] rfl hk) hx) hx₃
        refine WO_c (id := 94) (caps := []) rfl (mp_cons (v := .p r_h_ 0) rfl (mp_cons (v := .i .i64 i) rfl (mp_cons (v := .i .i64 k_) rfl mp_nil))) ca₃ ?_
        have hO₇ : Own B h k₇ [eBox r_h_ [.f id_h__less cap_h__less, v₄, .i .i64 m.time], eSl e_T_heap_item_int v₄ m.items] := (hO₆.callM [0, 1] [] rfl rfl (by decide) hW₃ rfl).pick [0, 1] rfl (by decide)
        refine WO_end ?_
        refine then_n ?_
        refine W_rg ?_
        refine WO_v (a_mv (v := .i .i64 k_) q₃_3) ?_
        refine WO_v (a_mv (v := .i .i64 k_) rfl) ?_
        refine WO_end ?_
        refine blk_n ?_
        have hp := Option.some.inj hp; subst hp
        exact (Or.inl (Exists.intro (m.items, m.time, k_) (And.intro rfl (And.intro rfl (Exists.intro v₄ (And.intro (q₃_0) (And.intro (rfl) (hO₇.pick [0, 1] rfl (by decide)))))))))
  intro e₁ q₁ k₁ hJ₁
  obtain ⟨p0, p01⟩ := o₁
  obtain ⟨rfl, v₃, hO₁⟩ := hJ₁
  refine blk_r ?_
  refine Ret_r rs_nil ?_
  have hp := Option.some.inj hp; subst hp
  exact (Exists.intro v₃ (And.intro rfl (hO₁.pick [0, 1] rfl (by decide))))

theorem p_heap_Heap_int_Pop.ok {h : Hp} {h_ : T_heap_Heap_int} {h__less : Int → Int → Option Bool} {r_h_ : Nat} {id_h__less : Nat} {cap_h__less : List V} {v_h__items : V} (H : Own (Bm h [eBox r_h_ [.f id_h__less cap_h__less, v_h__items, .i .i64 h_.time], eSl e_T_heap_item_int v_h__items h_.items]) h h [eBox r_h_ [.f id_h__less cap_h__less, v_h__items, .i .i64 h_.time], eSl e_T_heap_item_int v_h__items h_.items]) (f_h__less : ∀ (k : Hp) (x0 : Int) (x1 : Int) (y : Bool), Ex' (Bm h [eBox r_h_ [.f id_h__less cap_h__less, v_h__items, .i .i64 h_.time], eSl e_T_heap_item_int v_h__items h_.items]) h k → h__less x0 x1 = some y → ∃ u k', Is G id_h__less (.i .i64 x0 :: .i .i64 x1 :: cap_h__less) k u k' ∧ V.b y = u ∧ Own (fun r => r < k.n) k k' []) {r : Int × Bool × T_heap_Heap_int} (hp : p_heap_Heap_int_Pop h_ h__less = some r) :
    ∃ u k', Is G 88 [.p r_h_ 0] h u k' ∧ ∃ (v₁ : V), V.tu [.i .i64 r.1, .b r.2.1] = u ∧ Own (Bm h [eBox r_h_ [.f id_h__less cap_h__less, v_h__items, .i .i64 h_.time], eSl e_T_heap_item_int v_h__items h_.items]) h k' [eBox r_h_ [.f id_h__less cap_h__less, v₁, .i .i64 r.2.2.time], eSl e_T_heap_item_int v₁ r.2.2.items] := by
  refine WC.is (WC_of G_F_heap_Heap_int_Pop ?_)
  unfold p_heap_Heap_int_Pop at hp
  let B : Nat → Prop := (Bm h [eBox r_h_ [.f id_h__less cap_h__less, v_h__items, .i .i64 h_.time], eSl e_T_heap_item_int v_h__items h_.items])
  have hO : Own B h h [eBox r_h_ [.f id_h__less cap_h__less, v_h__items, .i .i64 h_.time], eSl e_T_heap_item_int v_h__items h_.items] := H
  refine W_sq ?_
  refine W_rg ?_
  refine WO_v (a_mv (v := .i .i64 0) rfl) ?_
  refine WO_v (a_mv (v := .b false) rfl) ?_
  refine WO_end ?_
  refine then_n ?_
  refine W_sq ?_
  refine W_rg ?_
  refine WO_v (a_mv (v := .p r_h_ 0) rfl) ?_
  obtain ⟨⟨x, x1⟩, hx₁, hp⟩ := bd_some hp
  obtain ⟨u₁, k₁, ca₁, rfl, hW₁⟩ := p_heap_Heap_int_Top.ok (h := h) (h_ := h_) (h__less := h__less) (hO.box 0 rfl) (fun k z0 z1 y hk hx => f_h__less k z0 z1 y (exTo hO hk) hx) (hO.sl 1 rfl : Sl e_T_heap_item_int h v_h__items h_.items) hx₁
  refine WO_c (id := 95) (caps := []) rfl (mp_cons (v := .p r_h_ 0) rfl mp_nil) ca₁ ?_
  have hO₁ : Own B h k₁ [eBox r_h_ [.f id_h__less cap_h__less, v_h__items, .i .i64 h_.time], eSl e_T_heap_item_int v_h__items h_.items] := hO.call hW₁ rfl
  refine WO_v (a_mv (v := .tu [.i .i64 x, .b x1]) rfl) ?_
  refine WO_v (a_ext (vs := [.i .i64 x, .b x1]) (v := .i .i64 x) rfl rfl) ?_
  refine WO_v (a_ext (vs := [.i .i64 x, .b x1]) (v := .b x1) rfl rfl) ?_
  refine WO_v (a_mv (v := .i .i64 x) rfl) ?_
  refine WO_v (a_mv (v := .b x1) rfl) ?_
  refine WO_end ?_
  refine then_n ?_
  refine W_sq ?_
  refine W_sq ?_
  refine W_rg ?_
  refine WO_v (a_mv (v := .b x1) rfl) ?_
  refine WO_v (a_not (t := x1) rfl) ?_
  refine WO_end ?_
  refine then_n ?_
  rcases if_some hp with ⟨b₁, hp⟩ | ⟨b₁, hp⟩
  · refine W_cT (t := (!x1)) rfl b₁ ?_
    refine W_sq ?_
    refine W_rg ?_
    refine WO_v (a_mv (v := .i .i64 x) rfl) ?_
    refine WO_v (a_mv (v := .i .i64 x) rfl) ?_
    refine WO_v (a_mv (v := .b false) rfl) ?_
    refine WO_end ?_
    refine then_n ?_
    refine W_rt ?_
    refine then_r ?_
    refine Ret_r (rs_t (n := 2) (v := .i .i64 x) rfl (rs_t (n := 3) (v := .b false) rfl rs_nil)) ?_
    have hp := Option.some.inj hp; subst hp
    exact (Exists.intro v_h__items (And.intro rfl (hO₁.pick [0, 1] rfl (by decide))))
  · refine W_cF (t := (!x1)) rfl b₁ ?_
    refine W_sk ?_
    refine then_n ?_
    refine W_sq ?_
    refine W_rg ?_
    refine WO_v (a_mv (v := .p r_h_ 0) rfl) ?_
    refine WO_v (a_nilp (r := r_h_) (o := 0) rfl) ?_
    refine WO_v (a_fa (r := r_h_) (o := 0) (o' := 1) rfl rfl) ?_
    refine WO_v (a_ldb (cs := [.f id_h__less cap_h__less, v_h__items, .i .i64 h_.time]) (v := v_h__items) (hO₁.box 0 rfl) rfl rfl) ?_
    refine WO_v (a_len (hO₁.sl 1 rfl : Sl e_T_heap_item_int k₁ v_h__items h_.items) rfl) ?_
    obtain ⟨c₁, hp⟩ := ck_some hp
    refine WO_v (a_sub (a := (h_.items.length : Int)) (b := 1) rfl rfl c₁) ?_
    refine WO_v (a_mv (v := .i .i64 ((h_.items.length : Int) - 1)) rfl) ?_
    refine WO_end ?_
    refine then_n ?_
    refine W_sq ?_
    refine W_rg ?_
    refine WO_v (a_mv (v := .p r_h_ 0) rfl) ?_
    refine WO_v (a_mv (v := .i .i64 ((h_.items.length : Int) - 1)) rfl) ?_
    obtain ⟨m, hx₂, hp⟩ := bd_some hp
    obtain ⟨u₂, k₂, ca₂, v₂, rfl, hW₂⟩ := p_heap_Heap_int_swap.ok (h := k₁) (h_ := h_) (i := 0) (k_ := ((h_.items.length : Int) - 1)) (h__less := h__less) (hO₁.toM [0, 1] rfl (by decide)) (fun k z0 z1 y hk hx => f_h__less k z0 z1 y (exToM hO₁ [0, 1] rfl hk) hx) hx₂
    refine WO_c (id := 94) (caps := []) rfl (mp_cons (v := .p r_h_ 0) rfl (mp_cons (v := .i .i64 0) rfl (mp_cons (v := .i .i64 ((h_.items.length : Int) - 1)) rfl mp_nil))) ca₂ ?_
    have hO₂ : Own B h k₂ [eBox r_h_ [.f id_h__less cap_h__less, v₂, .i .i64 m.time], eSl e_T_heap_item_int v₂ m.items] := (hO₁.callM [0, 1] [] rfl rfl (by decide) hW₂ rfl).pick [0, 1] rfl (by decide)
    refine WO_end ?_
    refine then_n ?_
    refine W_sq ?_
    refine W_rg ?_
    refine WO_v (a_mv (v := .p r_h_ 0) rfl) ?_
    refine WO_v (a_mv (v := .p r_h_ 0) rfl) ?_
    refine WO_v (a_nilp (r := r_h_) (o := 0) rfl) ?_
    refine WO_v (a_fa (r := r_h_) (o := 0) (o' := 1) rfl rfl) ?_
    refine WO_v (a_ldb (cs := [.f id_h__less cap_h__less, v₂, .i .i64 m.time]) (v := v₂) (hO₂.box 0 rfl) rfl rfl) ?_
    refine WO_v (a_mv (v := .i .i64 ((h_.items.length : Int) - 1)) rfl) ?_
    obtain ⟨c₂, hp⟩ := ck_some hp
    refine WO_v (a_slcU (E := e_T_heap_item_int) (z := ((h_.items.length : Int) - 1)) (hO₂.sl 1 rfl : Sl e_T_heap_item_int k₂ v₂ m.items) rfl rfl c₂) ?_
    refine WO_v (a_nilp (r := r_h_) (o := 0) rfl) ?_
    refine WO_v (a_fa (r := r_h_) (o := 0) (o' := 1) rfl rfl) ?_
    refine WO_x (hO₂.stb (ws := [(V.cut v₂ 0 ((h_.items.length : Int) - 1 : Int).toNat)]) (cs' := [.f id_h__less cap_h__less, (V.cut v₂ 0 ((h_.items.length : Int) - 1 : Int).toNat), .i .i64 m.time]) (v := (V.cut v₂ 0 ((h_.items.length : Int) - 1 : Int).toNat)) 0 rfl rfl rfl (Sl.cutU (hO₂.sl 1 rfl : Sl e_T_heap_item_int k₂ v₂ m.items) c₂ : Sl e_T_heap_item_int k₂ (V.cut v₂ 0 ((h_.items.length : Int) - 1 : Int).toNat) (m.items.take ((h_.items.length : Int) - 1 : Int).toNat)).cells ⟨rfl, Nat.le_of_ble_eq_true rfl, (all_cons (Sl.cutU (hO₂.sl 1 rfl : Sl e_T_heap_item_int k₂ v₂ m.items) c₂ : Sl e_T_heap_item_int k₂ (V.cut v₂ 0 ((h_.items.length : Int) - 1 : Int).toNat) (m.items.take ((h_.items.length : Int) - 1 : Int).toNat)).oneV rfl)⟩ rfl) ?_
    rintro _ k₃ ⟨rfl, f₁, m₁, hW⟩
    have hO₃ : Own B h k₃ [eBox r_h_ [.f id_h__less cap_h__less, (V.cut v₂ 0 ((h_.items.length : Int) - 1 : Int).toNat), .i .i64 m.time], eSl e_T_heap_item_int v₂ m.items] := hW
    refine WO_end ?_
    refine then_n ?_
    refine W_sq ?_
    refine W_rg ?_
    refine WO_v (a_mv (v := .p r_h_ 0) rfl) ?_
    have hO₄ : Own B h k₃ [eBox r_h_ [.f id_h__less cap_h__less, (V.cut v₂ 0 ((h_.items.length : Int) - 1 : Int).toNat), .i .i64 m.time], eSl e_T_heap_item_int (V.cut v₂ 0 ((h_.items.length : Int) - 1 : Int).toNat) (m.items.take ((h_.items.length : Int) - 1 : Int).toNat)] := hO₃.cutU 1 rfl c₂
    obtain ⟨m1, hx₃, hp⟩ := bd_some hp
    obtain ⟨u₃, k₄, ca₃, v₃, rfl, hW₃⟩ := p_heap_Heap_int_sink.ok (h := k₃) (h_ := (⟨m.items.take ((h_.items.length : Int) - 1 : Int).toNat, m.time⟩ : T_heap_Heap_int)) (h__less := h__less) (hO₄.toM [0, 1] rfl (by decide)) (fun k z0 z1 y hk hx => f_h__less k z0 z1 y (exToM hO₄ [0, 1] rfl hk) hx) hx₃
    refine WO_c (id := 96) (caps := []) rfl (mp_cons (v := .p r_h_ 0) rfl mp_nil) ca₃ ?_
    have hO₅ : Own B h k₄ [eBox r_h_ [.f id_h__less cap_h__less, v₃, .i .i64 m1.time], eSl e_T_heap_item_int v₃ m1.items] := (hO₄.callM [0, 1] [] rfl rfl (by decide) hW₃ rfl).pick [0, 1] rfl (by decide)
    refine WO_end ?_
    refine then_n ?_
    refine W_sq ?_
    refine W_rg ?_
    refine WO_v (a_mv (v := .i .i64 x) rfl) ?_
    refine WO_v (a_mv (v := .i .i64 x) rfl) ?_
    refine WO_v (a_mv (v := .b true) rfl) ?_
    refine WO_end ?_
    refine then_n ?_
    refine W_rt ?_
    refine Ret_r (rs_t (n := 2) (v := .i .i64 x) rfl (rs_t (n := 3) (v := .b true) rfl rs_nil)) ?_
    have hp := Option.some.inj hp; subst hp
    exact (Exists.intro v₃ (And.intro rfl (hO₅.pick [0, 1] rfl (by decide))))

theorem p_dag_Order.ok {h : Hp} {n : Int} {arcs : List T_api_Arc} {v_arcs : V} (s_arcs : Sl e_T_api_Arc h v_arcs arcs) {r : (List Int) × Int} (hp : p_dag_Order n arcs = some r) :
    ∃ u k', Is G 69 [.i .i64 n, v_arcs] h u k' ∧ ∃ (v₁ : V), V.tu [v₁, .i .i64 r.2] = u ∧ Own (fun r => r < h.n) h k' [eSl eInt v₁ r.1] := by
  refine WC.is (WC_of G_F_dag_Order ?_)
  unfold p_dag_Order at hp
  let B : Nat → Prop := (fun r => r < h.n)
  have hO : Own B h h [] := Own.start0 h
  refine W_sq ?_
  refine W_rg ?_
  refine WO_v (a_mv (v := .sn) rfl) ?_
  refine WO_v (a_mv (v := .i .i64 0) rfl) ?_
  refine WO_end ?_
  refine then_n ?_
  refine W_sq ?_
  refine W_sq ?_
  refine W_rg ?_
  refine WO_v (a_mv (v := .i .i64 n) rfl) ?_
  refine WO_v (a_mv (v := v_arcs) rfl) ?_
  obtain ⟨x, hx₁, hp⟩ := bd_some hp
  obtain ⟨u₁, k₁, ca₁, rfl, hW₁⟩ := p_dag_right.ok (h := h)  (hO.rd0 s_arcs.rd : Sl e_T_api_Arc h v_arcs arcs) hx₁
  refine WO_c (id := 84) (caps := []) rfl (mp_cons (v := .i .i64 n) rfl (mp_cons (v := v_arcs) rfl mp_nil)) ca₁ ?_
  have hO₁ : Own B h k₁ [] := hO.call hW₁ rfl
  refine WO_v (a_not (t := x) rfl) ?_
  refine WO_end ?_
  refine then_n ?_
  rcases if_some hp with ⟨b₁, hp⟩ | ⟨b₁, hp⟩
  · refine W_cT (t := (!x)) rfl b₁ ?_
    refine W_sq ?_
    refine W_rg ?_
    refine WO_v (a_mv (v := .sn) rfl) ?_
    refine WO_v (a_mv (v := .i .i64 2) rfl) ?_
    refine WO_end ?_
    refine then_n ?_
    refine W_rt ?_
    refine then_r ?_
    have hO₂ : Own B h k₁ [eSl eInt .sn ([] : List Int)] := hO₁.nil eInt
    refine Ret_r (rs_t (n := 4) (v := .sn) rfl (rs_t (n := 5) (v := .i .i64 2) rfl rs_nil)) ?_
    have hp := Option.some.inj hp; subst hp
    exact (Exists.intro V.sn (And.intro rfl (hO₂.pick [0] rfl (by decide))))
  · refine W_cF (t := (!x)) rfl b₁ ?_
    refine W_sk ?_
    refine then_n ?_
    refine W_sq ?_
    refine W_rg ?_
    refine WO_v (a_mv (v := .i .i64 n) rfl) ?_
    obtain ⟨c₁, hp⟩ := ck_some hp
    refine WO_x (hO₁.mks (E := eV) (y := .sn) (bytes := 24) (z := n) hO₁.fr rfl rfl rfl c₁ (by decide)) ?_
    rintro v₂ k₂ ⟨r₁, f₁, hW⟩
    have hO₃ : Own B h k₂ [eSl eV v₂ (List.replicate (n : Int).toNat .sn)] := hW
    have hO₄ : Own B h k₂ [eSl eV v₂ (List.replicate (n : Int).toNat .sn), eAll eInt (List.replicate (n : Int).toNat .sn) (List.replicate (n : Int).toNat [])] := hO₃.allNil eInt (n : Int).toNat
    refine WO_v (a_mv (v := v₂) rfl) ?_
    refine WO_end ?_
    refine then_n ?_
    refine W_sq ?_
    refine W_rg ?_
    refine WO_v (a_mv (v := .i .i64 n) rfl) ?_
    refine WO_x (hO₄.mks (E := eInt) (y := (0 : Int)) (bytes := 8) (z := n) hO₄.fr rfl rfl rfl c₁ (by decide)) ?_
    rintro v₃ k₃ ⟨r₂, f₂, hW⟩
    have hO₅ : Own B h k₃ [eSl eV v₂ (List.replicate (n : Int).toNat .sn), eAll eInt (List.replicate (n : Int).toNat .sn) (List.replicate (n : Int).toNat []), eSl eInt v₃ (List.replicate (n : Int).toNat (0 : Int))] := hW
    refine WO_v (a_mv (v := v₃) rfl) ?_
    refine WO_end ?_
    refine then_n ?_
    refine W_sq ?_
    refine W_sq ?_
    refine W_rg ?_
    refine WO_v (a_mv (v := v_arcs) rfl) ?_
    refine WO_v (a_len (hO₅.rd0 s_arcs.rd : Sl e_T_api_Arc k₃ v_arcs arcs) rfl) ?_
    refine WO_v (a_mv (v := .i .i64 0) rfl) ?_
    refine WO_end ?_
    refine then_n ?_
    refine W_bl ?_
    obtain ⟨o₁, ho₁, hp⟩ := bd_some hp
    refine W.mono (Q := fun e fr k => match (generalizing := false) o₁ with
        | (next_1, open_1) => e = (.exit 0) ∧ ∃ (v₅ : V), ∃ (vs₂ : List V), fr 0 = .i .i64 n ∧ fr 6 = v₅ ∧ fr 7 = v₃ ∧ Own B h k [eSl eV v₅ vs₂, eAll eInt vs₂ next_1, eSl eInt v₃ open_1]) ?_ ?_
    · clear hp
      refine W_loopF (fun st fr k => match st with | (next_, open_, x1) => ∃ (v₄ : V), ∃ (vs₁ : List V), fr 0 = .i .i64 n ∧ fr 6 = v₄ ∧ fr 7 = v₃ ∧ fr 26 = v_arcs ∧ fr 27 = .i .i64 (arcs.length : Int) ∧ fr 28 = .i .i64 x1 ∧ Own B h k [eSl eV v₄ vs₁, eAll eInt vs₁ next_, eSl eInt v₃ open_]) ho₁ (s := ((List.replicate (n : Int).toNat [] : List (List Int)), List.replicate (n : Int).toNat (0 : Int), 0)) (Exists.intro v₂ (Exists.intro (List.replicate (n : Int).toNat .sn) (And.intro (rfl) (And.intro (rfl) (And.intro (rfl) (And.intro (rfl) (And.intro (rfl) (And.intro (rfl) (hO₅.pick [0, 1, 2] rfl (by decide)))))))))) ?_
      rintro ⟨next_, open_, x1⟩ q₂ k₅ ⟨v₄, vs₁, q₂_0, q₂_6, q₂_7, q₂_26, q₂_27, q₂_28, hO₇⟩ o₂ hp
      dsimp only [p_dag_Order.s0] at hp
      refine W_sq ?_
      refine W_rg ?_
      refine WO_v (a_lss (a := x1) (b := (arcs.length : Int)) q₂_28 q₂_27) ?_
      refine WO_end ?_
      refine then_n ?_
      refine W_sq ?_
      rcases if_some hp with ⟨b₂, hp⟩ | ⟨b₂, hp⟩
      · refine W_cT (t := (decide (x1 < (arcs.length : Int)))) rfl b₂ ?_
        refine W_sk ?_
        refine then_n ?_
        refine W_sq ?_
        refine W_bl ?_
        refine W_sq ?_
        refine W_rg ?_
        obtain ⟨c₂, hp⟩ := ck_some hp
        refine WO_v (a_ixa (E := e_T_api_Arc) (z := x1) (hO₇.rd0 s_arcs.rd : Sl e_T_api_Arc k₅ v_arcs arcs) q₂_26 q₂_28 c₂) ?_
        refine WO_v (a_ldA (E := e_T_api_Arc) (hO₇.rd0 s_arcs.rd : Sl e_T_api_Arc k₅ v_arcs arcs) rfl (toNat_lt c₂)) ?_
        refine WO_x (hO₇.alloc (cs := e_T_api_Arc.c (⟨0, 0, 0⟩ : T_api_Arc)) hO₇.fr) ?_
        rintro _ k₆ ⟨r₃, rfl, n₁, f₃, hW⟩
        have hO₈ : Own B h k₆ [eSl eV v₄ vs₁, eAll eInt vs₁ next_, eSl eInt v₃ open_, eBox r₃ (e_T_api_Arc.c (⟨0, 0, 0⟩ : T_api_Arc))] := hW
        refine WO_x (hO₈.stb (ws := e_T_api_Arc.c (gi arcs (x1 : Int).toNat)) (cs' := e_T_api_Arc.c (gi arcs (x1 : Int).toNat)) (v := .ag (e_T_api_Arc.c (gi arcs (x1 : Int).toNat))) 3 rfl rfl rfl rfl ⟨rfl, Nat.le_of_ble_eq_true rfl, rfl⟩ rfl) ?_
        rintro _ k₇ ⟨rfl, f₄, m₁, hW⟩
        have hO₉ : Own B h k₇ [eSl eV v₄ vs₁, eAll eInt vs₁ next_, eSl eInt v₃ open_, eBox r₃ (e_T_api_Arc.c (gi arcs (x1 : Int).toNat))] := hW
        refine WO_end ?_
        refine then_n ?_
        refine W_sq ?_
        refine W_dr ?_
        have hW := hO₉.bump 14
        have fr₁ := Fresh.start k₇ 14
        have nb₁ : ∀ {i : Nat}, h.n ≤ k₇.n + i := Nat.le_trans hO₉.n (Nat.le_add_right _ _)
        have hO₁₀ : Own B h (k₇.bump 14) [eSl eV v₄ vs₁, eAll eInt vs₁ next_, eSl eInt v₃ open_, eBox r₃ (e_T_api_Arc.c (gi arcs (x1 : Int).toNat))] := hW
        refine WD_v (a_mv (v := v₄) q₂_6) ?_
        refine WD_v (a_fa (r := r₃) (o := 0) (o' := 0) rfl rfl) ?_
        refine WD_v (a_ldb (cs := (e_T_api_Arc.c (gi arcs (x1 : Int).toNat))) (v := .i .i64 ((gi arcs (x1 : Int).toNat).From)) (hO₁₀.box 3 rfl) rfl rfl) ?_
        refine WD_v (a_mv (v := v₄) q₂_6) ?_
        refine WD_v (a_fa (r := r₃) (o := 0) (o' := 0) rfl rfl) ?_
        refine WD_v (a_ldb (cs := (e_T_api_Arc.c (gi arcs (x1 : Int).toNat))) (v := .i .i64 ((gi arcs (x1 : Int).toNat).From)) (hO₁₀.box 3 rfl) rfl rfl) ?_
        obtain ⟨c₃, hp⟩ := ck_some hp
        refine WD_v (a_ixa (E := eV) (z := ((gi arcs (x1 : Int).toNat).From)) (hO₁₀.sl 0 rfl : Sl eV (k₇.bump 14) v₄ vs₁) rfl rfl (by rw [(hO₁₀.allLen 1 rfl : (vs₁).length = (next_).length)]; exact c₃)) ?_
        refine WD_v (a_ldE (w := (gi vs₁ ((gi arcs (x1 : Int).toNat).From : Int).toNat)) (hO₁₀.sl 0 rfl : Sl eV (k₇.bump 14) v₄ vs₁) rfl (by rw [(hO₁₀.allLen 1 rfl : (vs₁).length = (next_).length)]; exact toNat_lt c₃) rfl) ?_
        refine WD_v (a_fa (r := r₃) (o := 0) (o' := 1) rfl rfl) ?_
        refine WD_v (a_ldb (cs := (e_T_api_Arc.c (gi arcs (x1 : Int).toNat))) (v := .i .i64 ((gi arcs (x1 : Int).toNat).To)) (hO₁₀.box 3 rfl) rfl rfl) ?_
        refine WD_x (hO₁₀.bsl (E := eInt) (l := [(gi arcs (x1 : Int).toNat).To]) ⟨fr₁.m 10 (by decide) (by decide), nb₁⟩ (by rw [(ev_cons (v := .i .i64 ((gi arcs (x1 : Int).toNat).To)) rfl ev_nil)]; rfl) rfl) ?_
        rintro v₆ k₉ z₁ ⟨r₄, f₅, hW⟩
        have fr₂ := fr₁.kept f₅ (by decide)
        have hO₁₁ : Own B h k₉ [eSl eV v₄ vs₁, eAll eInt vs₁ next_, eSl eInt v₃ open_, eBox r₃ (e_T_api_Arc.c (gi arcs (x1 : Int).toNat)), eSl eInt v₆ [(gi arcs (x1 : Int).toNat).To]] := hW
        obtain ⟨c₄, hp⟩ := ck_some hp
        refine WD_x (hO₁₁.appInn (E := eInt) (bytes := 8) (j := ((gi arcs (x1 : Int).toNat).From : Int).toNat) 1 ⟨fr₂.m 11 (by decide) (by decide), nb₁⟩ rfl (toNat_lt c₃) (hO₁₁.sl 4 rfl : Sl eInt k₉ v₆ [(gi arcs (x1 : Int).toNat).To]) rfl rfl (fun _ => rfl) c₄ (by decide)) ?_
        rintro v₇ k₁₀ z₂ ⟨f₆, hW⟩
        have fr₃ := fr₂.kept f₆ (by decide)
        have hl₁ := (hO₁₁.allLen 1 rfl : (vs₁).length = (next_).length)
        have hO₁₂ : Own B h k₁₀ [eSl eV v₄ vs₁, eAll eInt (vs₁.set ((gi arcs (x1 : Int).toNat).From : Int).toNat v₇) (next_.set ((gi arcs (x1 : Int).toNat).From : Int).toNat ((gi next_ ((gi arcs (x1 : Int).toNat).From : Int).toNat) ++ [(gi arcs (x1 : Int).toNat).To])), eSl eInt v₃ open_, eBox r₃ (e_T_api_Arc.c (gi arcs (x1 : Int).toNat)), eSl eInt v₆ [(gi arcs (x1 : Int).toNat).To]] := hW
        have hi₁ : SlN eInt 0 k₁₀ v₇ ((gi next_ ((gi arcs (x1 : Int).toNat).From : Int).toNat) ++ [(gi arcs (x1 : Int).toNat).To]) := by
          have := (hO₁₂.at 1 rfl).2.1 ((gi arcs (x1 : Int).toNat).From : Int).toNat (by have := toNat_lt c₃; simp; omega)
          rwa [gi_set (by have := toNat_lt c₃; omega), gi_set (by have := toNat_lt c₃; omega), if_pos rfl, if_pos rfl] at this
        refine WD_v (a_ixa (E := eV) (z := ((gi arcs (x1 : Int).toNat).From)) (hO₁₂.sl 0 rfl : Sl eV k₁₀ v₄ vs₁) rfl rfl (by rw [hl₁]; exact c₃)) ?_
        refine WD_x (hO₁₂.ste (E := eV) (y := v₇) (ws := [v₇]) 0 rfl rfl (by rw [hl₁]; exact toNat_lt c₃) rfl hi₁.to.cells ⟨rfl, Nat.le_of_ble_eq_true rfl, (all_cons hi₁.to.oneV rfl)⟩ rfl) ?_
        rintro _ k₁₁ z₃ ⟨rfl, f₇, m₂, hW⟩
        have fr₄ := fr₃.kept f₇ (by decide)
        have hO₁₃ : Own B h k₁₁ [eSl eV v₄ (vs₁.set ((gi arcs (x1 : Int).toNat).From : Int).toNat v₇), eAll eInt (vs₁.set ((gi arcs (x1 : Int).toNat).From : Int).toNat v₇) (next_.set ((gi arcs (x1 : Int).toNat).From : Int).toNat ((gi next_ ((gi arcs (x1 : Int).toNat).From : Int).toNat) ++ [(gi arcs (x1 : Int).toNat).To])), eSl eInt v₃ open_, eBox r₃ (e_T_api_Arc.c (gi arcs (x1 : Int).toNat)), eSl eInt v₆ [(gi arcs (x1 : Int).toNat).To]] := hW
        refine WD_end ?_
        refine And.intro ?_ ?_
        · intro q hq
          simp only [List.mem_cons, List.not_mem_nil, or_false] at hq
          rcases hq with rfl | rfl | rfl | rfl | rfl | rfl | rfl | rfl | rfl
          · refine ap_ll ?_ ?_
            · exact (fun h => nomatch h)
            · exact (fun h => nomatch h)
          · refine ap_ll ?_ ?_
            · exact (fun h => nomatch h)
            · exact (fun h => nomatch h)
          · refine ap_ll ?_ ?_
            · exact (fun h => nomatch h)
            · exact (fun h => nomatch h)
          · refine ap_ll ?_ ?_
            · exact (fun h => nomatch h)
            · exact (fun h => nomatch h)
          · refine ap_ll ?_ ?_
            · exact (fun h => nomatch h)
            · exact (fun h => nomatch h)
          · refine ap_ll ?_ ?_
            · exact (fun h => nomatch h)
            · exact (fun _ hm => Nat.lt_irrefl _ (Nat.lt_of_lt_of_le (hO₉.ltAt 3 rfl _ (tch (v := V.p r₃ 0) (ld_el hm) rfl)) (Nat.le_add_right _ _)))
          · refine ap_ll ?_ ?_
            · exact (fun h => nomatch h)
            · exact (fun _ hm => Nat.lt_irrefl _ (Nat.lt_of_lt_of_le (hO₉.ltAt 3 rfl _ (tch (v := V.p r₃ 0) (ld_el hm) rfl)) (Nat.le_add_right _ _)))
          · refine ap_ll ?_ ?_
            · exact (fun h => nomatch h)
            · exact (fun _ hm => Nat.lt_irrefl _ (Nat.lt_of_lt_of_le (hO₉.ltAt 0 rfl _ (refs_elt (tch (v := V.elt v₄ ((gi arcs (x1 : Int).toNat).From : Int).toNat 0) (ld_el hm) rfl))) (Nat.le_add_right _ _)))
          · refine ap_oo ?_ ?_ ?_
            · exact (fun r h1 h2 => (app_el h2).elim (fun h2 => hO₉.apartAt (i := 3) (j := 1) rfl rfl (by decide) r (tch (v := V.p r₃ 0) (ld_el h1) rfl) (refs_gi (by have := hO₉.allLen 1 rfl; have := c₃; omega) (tch (v := (gi vs₁ ((gi arcs (x1 : Int).toNat).From : Int).toNat)) h2 rfl))) (fun h2 => by have h3 := (hO₉.ltAt 3 rfl _ (tch (v := V.p r₃ 0) (ld_el h1) rfl)); have h4 := (new_sl r₄ (tch (v := v₆) h2 rfl)); omega))
            · exact (fun h => nomatch h)
            · exact (fun _ hm => Nat.lt_irrefl _ (Nat.lt_of_lt_of_le (hO₉.ltAt 3 rfl _ (tch (v := V.p r₃ 0) (ld_el hm) rfl)) (Nat.le_add_right _ _)))
        refine then_n ?_
        refine W_rg ?_
        refine WO_v (a_mv (v := v₃) q₂_7) ?_
        refine WO_v (a_fa (r := r₃) (o := 0) (o' := 1) rfl rfl) ?_
        refine WO_v (a_ldb (cs := (e_T_api_Arc.c (gi arcs (x1 : Int).toNat))) (v := .i .i64 ((gi arcs (x1 : Int).toNat).To)) (hO₁₃.box 3 rfl) rfl rfl) ?_
        obtain ⟨c₅, hp⟩ := ck_some hp
        refine WO_v (a_ixa (E := eInt) (z := ((gi arcs (x1 : Int).toNat).To)) (hO₁₃.sl 2 rfl : Sl eInt k₁₁ v₃ open_) rfl rfl c₅) ?_
        refine WO_v (a_ldE (w := .i .i64 (gi open_ ((gi arcs (x1 : Int).toNat).To : Int).toNat)) (hO₁₃.sl 2 rfl : Sl eInt k₁₁ v₃ open_) rfl (toNat_lt c₅) rfl) ?_
        obtain ⟨c₆, hp⟩ := ck_some hp
        refine WO_v (a_add (a := (gi open_ ((gi arcs (x1 : Int).toNat).To : Int).toNat)) (b := 1) rfl rfl c₆) ?_
        refine WO_v (a_ixa (E := eInt) (z := ((gi arcs (x1 : Int).toNat).To)) (hO₁₃.sl 2 rfl : Sl eInt k₁₁ v₃ open_) rfl rfl c₅) ?_
        refine WO_x (hO₁₃.ste (E := eInt) (y := ((gi open_ ((gi arcs (x1 : Int).toNat).To : Int).toNat) + 1)) (ws := [.i .i64 ((gi open_ ((gi arcs (x1 : Int).toNat).To : Int).toNat) + 1)]) 2 rfl rfl (toNat_lt c₅) rfl rfl ⟨rfl, Nat.le_of_ble_eq_true rfl, rfl⟩ rfl) ?_
        rintro _ k₁₂ ⟨rfl, f₈, m₃, hW⟩
        have hO₁₄ : Own B h k₁₂ [eSl eV v₄ (vs₁.set ((gi arcs (x1 : Int).toNat).From : Int).toNat v₇), eAll eInt (vs₁.set ((gi arcs (x1 : Int).toNat).From : Int).toNat v₇) (next_.set ((gi arcs (x1 : Int).toNat).From : Int).toNat ((gi next_ ((gi arcs (x1 : Int).toNat).From : Int).toNat) ++ [(gi arcs (x1 : Int).toNat).To])), eSl eInt v₃ (open_.set ((gi arcs (x1 : Int).toNat).To : Int).toNat ((gi open_ ((gi arcs (x1 : Int).toNat).To : Int).toNat) + 1)), eBox r₃ (e_T_api_Arc.c (gi arcs (x1 : Int).toNat)), eSl eInt v₆ [(gi arcs (x1 : Int).toNat).To]] := hW
        refine WO_end ?_
        refine blk_n ?_
        refine then_n ?_
        refine W_rg ?_
        obtain ⟨c₇, hp⟩ := ck_some hp
        refine WO_v (a_add (a := x1) (b := 1) q₂_28 rfl c₇) ?_
        refine WO_v (a_mv (v := .i .i64 (x1 + 1)) rfl) ?_
        refine WO_end ?_
        have hp := Option.some.inj hp; subst hp
        exact (Or.inl (Exists.intro ((next_.set ((gi arcs (x1 : Int).toNat).From : Int).toNat ((gi next_ ((gi arcs (x1 : Int).toNat).From : Int).toNat) ++ [(gi arcs (x1 : Int).toNat).To])), open_.set ((gi arcs (x1 : Int).toNat).To : Int).toNat ((gi open_ ((gi arcs (x1 : Int).toNat).To : Int).toNat) + 1), x1 + 1) (And.intro rfl (And.intro rfl (Exists.intro v₄ (Exists.intro (vs₁.set ((gi arcs (x1 : Int).toNat).From : Int).toNat v₇) (And.intro (q₂_0) (And.intro (q₂_6) (And.intro (q₂_7) (And.intro (q₂_26) (And.intro (q₂_27) (And.intro (rfl) (hO₁₄.pick [0, 1, 2] rfl (by decide))))))))))))))
      · refine W_cF (t := (decide (x1 < (arcs.length : Int)))) rfl b₂ ?_
        refine W_ex ?_
        refine then_e ?_
        have hp := Option.some.inj hp; subst hp
        refine (Or.inr (Exists.intro (next_, open_) (And.intro rfl (And.intro (fun h => nomatch h) (fun he => ?_)))))
        subst he; exact (And.intro rfl (Exists.intro v₄ (Exists.intro vs₁ (And.intro (q₂_0) (And.intro (q₂_6) (And.intro (q₂_7) (hO₇.pick [0, 1, 2] rfl (by decide))))))))
    intro e₁ q₁ k₄ hJ₁
    obtain ⟨next_1, open_1⟩ := o₁
    obtain ⟨rfl, v₅, vs₂, q₁_0, q₁_6, q₁_7, hO₆⟩ := hJ₁
    refine blk_i ?_
    refine then_n ?_
    refine W_sq ?_
    refine W_rg ?_
    obtain ⟨x2, hx₂, hp⟩ := bd_some hp
    obtain ⟨u₂, k₁₃, ca₂, r₅, v₈, rfl, hW₂⟩ := p_heap_New_int.ok (h := k₄)  (fun k z0 z1 y hk hx => p_dag_Order_1.ok (h := k)  hx) hx₂
    refine WO_c (id := 85) (caps := []) rfl (mp_cons (v := .f 86 []) rfl mp_nil) ca₂ ?_
    have hO₁₅ : Own B h k₁₃ [eSl eV v₅ vs₂, eAll eInt vs₂ next_1, eSl eInt v₃ open_1, eBox r₅ [.f 86 [], v₈, .i .i64 x2.time], eSl e_T_heap_item_int v₈ x2.items] := hO₆.call hW₂ rfl
    refine WO_v (a_mv (v := .p r₅ 0) rfl) ?_
    refine WO_end ?_
    refine then_n ?_
    refine W_sq ?_
    refine W_sq ?_
    refine W_rg ?_
    refine WO_v (a_mv (v := v₃) q₁_7) ?_
    refine WO_v (a_len (hO₁₅.sl 2 rfl : Sl eInt k₁₃ v₃ open_1) rfl) ?_
    refine WO_v (a_mv (v := .i .i64 0) rfl) ?_
    refine WO_end ?_
    refine then_n ?_
    refine W_bl ?_
    obtain ⟨o₃, ho₂, hp⟩ := bd_some hp
    refine W.mono (Q := fun e fr k => match (generalizing := false) o₃ with
        | (h_2, h_3) => e = (.exit 2) ∧ ∃ (v₁₀ : V), fr 0 = .i .i64 n ∧ fr 6 = v₅ ∧ fr 7 = v₃ ∧ fr 10 = .p r₅ 0 ∧ Own B h k [eSl eV v₅ vs₂, eAll eInt vs₂ next_1, eSl eInt v₃ open_1, eBox r₅ [.f 86 [], v₁₀, .i .i64 h_3], eSl e_T_heap_item_int v₁₀ h_2]) ?_ ?_
    · clear hp
      refine W_loopF (fun st fr k => match st with | (h_, h_1, x3) => ∃ (v₉ : V), fr 0 = .i .i64 n ∧ fr 6 = v₅ ∧ fr 7 = v₃ ∧ fr 10 = .p r₅ 0 ∧ fr 54 = v₃ ∧ fr 55 = .i .i64 (open_1.length : Int) ∧ fr 56 = .i .i64 x3 ∧ Own B h k [eSl eV v₅ vs₂, eAll eInt vs₂ next_1, eSl eInt v₃ open_1, eBox r₅ [.f 86 [], v₉, .i .i64 h_1], eSl e_T_heap_item_int v₉ h_]) ho₂ (s := (x2.items, x2.time, 0)) (Exists.intro v₈ (And.intro (q₁_0) (And.intro (q₁_6) (And.intro (q₁_7) (And.intro (rfl) (And.intro (rfl) (And.intro (rfl) (And.intro (rfl) (hO₁₅.pick [0, 1, 2, 3, 4] rfl (by decide)))))))))) ?_
      rintro ⟨h_, h_1, x3⟩ q₄ k₁₅ ⟨v₉, q₄_0, q₄_6, q₄_7, q₄_10, q₄_54, q₄_55, q₄_56, hO₁₇⟩ o₄ hp
      dsimp only [p_dag_Order.s1] at hp
      refine W_sq ?_
      refine W_rg ?_
      refine WO_v (a_lss (a := x3) (b := (open_1.length : Int)) q₄_56 q₄_55) ?_
      refine WO_end ?_
      refine then_n ?_
      refine W_sq ?_
      rcases if_some hp with ⟨b₃, hp⟩ | ⟨b₃, hp⟩
      · refine W_cT (t := (decide (x3 < (open_1.length : Int)))) rfl b₃ ?_
        refine W_sk ?_
        refine then_n ?_
        refine W_sq ?_
        refine W_bl ?_
        refine W_sq ?_
        refine W_rg ?_
        refine WO_v (a_mv (v := .i .i64 x3) q₄_56) ?_
        obtain ⟨c₈, hp⟩ := ck_some hp
        refine WO_v (a_ixa (E := eInt) (z := x3) (hO₁₇.sl 2 rfl : Sl eInt k₁₅ v₃ open_1) q₄_54 q₄_56 c₈) ?_
        refine WO_v (a_ldE (w := .i .i64 (gi open_1 (x3 : Int).toNat)) (hO₁₇.sl 2 rfl : Sl eInt k₁₅ v₃ open_1) rfl (toNat_lt c₈) rfl) ?_
        refine WO_v (a_mv (v := .i .i64 x3) rfl) ?_
        refine WO_v (a_mv (v := .i .i64 (gi open_1 (x3 : Int).toNat)) rfl) ?_
        refine WO_end ?_
        refine then_n ?_
        refine W_sq ?_
        refine W_rg ?_
        refine WO_v (a_mv (v := .i .i64 (gi open_1 (x3 : Int).toNat)) rfl) ?_
        refine WO_v (a_eqI (a := (gi open_1 (x3 : Int).toNat)) (b := 0) rfl rfl) ?_
        refine WO_end ?_
        refine then_n ?_
        rcases if_some hp with ⟨b₄, hp⟩ | ⟨b₄, hp⟩
        · refine W_cT (t := (decide (gi open_1 (x3 : Int).toNat = 0))) rfl b₄ ?_
          refine W_rg ?_
          refine WO_v (a_mv (v := .p r₅ 0) q₄_10) ?_
          refine WO_v (a_mv (v := .i .i64 x3) rfl) ?_
          obtain ⟨m, hx₃, hp⟩ := bd_some hp
          obtain ⟨u₃, k₁₆, ca₃, v₁₁, rfl, hW₃⟩ := p_heap_Heap_int_Push.ok (h := k₁₅) (h_ := (⟨h_, h_1⟩ : T_heap_Heap_int)) (x := x3) (h__less := (fun y0 y1 => p_dag_Order_1 y0 y1)) (hO₁₇.toM [3, 4] rfl (by decide)) (fun k z0 z1 y hk hx => p_dag_Order_1.ok (h := k) hx) hx₃
          refine WO_c (id := 87) (caps := []) rfl (mp_cons (v := .p r₅ 0) rfl (mp_cons (v := .i .i64 x3) rfl mp_nil)) ca₃ ?_
          have hO₁₈ : Own B h k₁₆ [eSl eV v₅ vs₂, eAll eInt vs₂ next_1, eSl eInt v₃ open_1, eBox r₅ [.f 86 [], v₁₁, .i .i64 m.time], eSl e_T_heap_item_int v₁₁ m.items] := (hO₁₇.callM [3, 4] [0, 1, 2] rfl rfl (by decide) hW₃ rfl).pick [0, 1, 2, 3, 4] rfl (by decide)
          refine WO_end ?_
          refine blk_n ?_
          refine then_n ?_
          refine W_rg ?_
          obtain ⟨c₉, hp⟩ := ck_some hp
          refine WO_v (a_add (a := x3) (b := 1) q₄_56 rfl c₉) ?_
          refine WO_v (a_mv (v := .i .i64 (x3 + 1)) rfl) ?_
          refine WO_end ?_
          have hp := Option.some.inj hp; subst hp
          exact (Or.inl (Exists.intro (m.items, m.time, x3 + 1) (And.intro rfl (And.intro rfl (Exists.intro v₁₁ (And.intro (q₄_0) (And.intro (q₄_6) (And.intro (q₄_7) (And.intro (q₄_10) (And.intro (q₄_54) (And.intro (q₄_55) (And.intro (rfl) (hO₁₈.pick [0, 1, 2, 3, 4] rfl (by decide))))))))))))))
        · refine W_cF (t := (decide (gi open_1 (x3 : Int).toNat = 0))) rfl b₄ ?_
          refine W_sk ?_
          refine blk_n ?_
          refine then_n ?_
          refine W_rg ?_
          obtain ⟨c₁₀, hp⟩ := ck_some hp
          refine WO_v (a_add (a := x3) (b := 1) q₄_56 rfl c₁₀) ?_
          refine WO_v (a_mv (v := .i .i64 (x3 + 1)) rfl) ?_
          refine WO_end ?_
          have hp := Option.some.inj hp; subst hp
          exact (Or.inl (Exists.intro (h_, h_1, x3 + 1) (And.intro rfl (And.intro rfl (Exists.intro v₉ (And.intro (q₄_0) (And.intro (q₄_6) (And.intro (q₄_7) (And.intro (q₄_10) (And.intro (q₄_54) (And.intro (q₄_55) (And.intro (rfl) (hO₁₇.pick [0, 1, 2, 3, 4] rfl (by decide))))))))))))))
      · refine W_cF (t := (decide (x3 < (open_1.length : Int)))) rfl b₃ ?_
        refine W_ex ?_
        refine then_e ?_
        have hp := Option.some.inj hp; subst hp
        refine (Or.inr (Exists.intro (h_, h_1) (And.intro rfl (And.intro (fun h => nomatch h) (fun he => ?_)))))
        subst he; exact (And.intro rfl (Exists.intro v₉ (And.intro (q₄_0) (And.intro (q₄_6) (And.intro (q₄_7) (And.intro (q₄_10) (hO₁₇.pick [0, 1, 2, 3, 4] rfl (by decide))))))))
    intro e₂ q₃ k₁₄ hJ₂
    obtain ⟨h_2, h_3⟩ := o₃
    obtain ⟨rfl, v₁₀, q₃_0, q₃_6, q₃_7, q₃_10, hO₁₆⟩ := hJ₂
    refine blk_i ?_
    refine then_n ?_
    refine W_sq ?_
    refine W_rg ?_
    refine WO_v (a_mv (v := .sn) rfl) ?_
    refine WO_end ?_
    refine then_n ?_
    refine W_sq ?_
    refine W_sq ?_
    refine W_rg ?_
    refine WO_v (a_mv (v := .p r₅ 0) q₃_10) ?_
    obtain ⟨⟨x4, x5, m1⟩, hx₄, hp⟩ := bd_some hp
    obtain ⟨u₄, k₁₇, ca₄, v₁₂, rfl, hW₄⟩ := p_heap_Heap_int_Pop.ok (h := k₁₄) (h_ := (⟨h_2, h_3⟩ : T_heap_Heap_int)) (h__less := (fun y0 y1 => p_dag_Order_1 y0 y1)) (hO₁₆.toM [3, 4] rfl (by decide)) (fun k z0 z1 y hk hx => p_dag_Order_1.ok (h := k) hx) hx₄
    refine WO_c (id := 88) (caps := []) rfl (mp_cons (v := .p r₅ 0) rfl mp_nil) ca₄ ?_
    have hO₁₉ : Own B h k₁₇ [eSl eV v₅ vs₂, eAll eInt vs₂ next_1, eSl eInt v₃ open_1, eBox r₅ [.f 86 [], v₁₂, .i .i64 m1.time], eSl e_T_heap_item_int v₁₂ m1.items] := (hO₁₆.callM [3, 4] [0, 1, 2] rfl rfl (by decide) hW₄ rfl).pick [0, 1, 2, 3, 4] rfl (by decide)
    refine WO_v (a_mv (v := .tu [.i .i64 x4, .b x5]) rfl) ?_
    refine WO_v (a_ext (vs := [.i .i64 x4, .b x5]) (v := .i .i64 x4) rfl rfl) ?_
    refine WO_v (a_ext (vs := [.i .i64 x4, .b x5]) (v := .b x5) rfl rfl) ?_
    refine WO_v (a_mv (v := .i .i64 x4) rfl) ?_
    refine WO_v (a_mv (v := .b x5) rfl) ?_
    refine WO_end ?_
    refine then_n ?_
    refine W_bl ?_
    obtain ⟨o₅, ho₃, hp⟩ := bd_some hp
    refine W.mono (Q := fun e fr k => match (generalizing := false) o₅ with
        | l1 => e = (.exit 4) ∧ ∃ (v₁₅ : V), fr 0 = .i .i64 n ∧ fr 13 = v₁₅ ∧ Own B h k [eSl eInt v₁₅ l1]) ?_ ?_
    · clear hp
      have hO₂₁ : Own B h k₁₇ [eSl eV v₅ vs₂, eAll eInt vs₂ next_1, eSl eInt v₃ open_1, eBox r₅ [.f 86 [], v₁₂, .i .i64 m1.time], eSl e_T_heap_item_int v₁₂ m1.items, eSl eInt .sn ([] : List Int)] := hO₁₉.nil eInt
      refine W_loopF (fun st fr k => match st with | (open_2, h_4, h_5, l, v, ok) => ∃ (v₁₃ : V), ∃ (v₁₄ : V), fr 0 = .i .i64 n ∧ fr 6 = v₅ ∧ fr 7 = v₃ ∧ fr 10 = .p r₅ 0 ∧ fr 13 = v₁₄ ∧ fr 14 = .i .i64 v ∧ fr 15 = .b ok ∧ Own B h k [eSl eV v₅ vs₂, eAll eInt vs₂ next_1, eSl eInt v₃ open_2, eBox r₅ [.f 86 [], v₁₃, .i .i64 h_5], eSl e_T_heap_item_int v₁₃ h_4, eSl eInt v₁₄ l]) ho₃ (s := (open_1, m1.items, m1.time, ([] : List Int), x4, x5)) (Exists.intro v₁₂ (Exists.intro V.sn (And.intro (q₃_0) (And.intro (q₃_6) (And.intro (q₃_7) (And.intro (q₃_10) (And.intro (rfl) (And.intro (rfl) (And.intro (rfl) (hO₂₁.pick [0, 1, 2, 3, 4, 5] rfl (by decide))))))))))) ?_
      rintro ⟨open_2, h_4, h_5, l, v, ok⟩ q₆ k₁₉ ⟨v₁₃, v₁₄, q₆_0, q₆_6, q₆_7, q₆_10, q₆_13, q₆_14, q₆_15, hO₂₂⟩ o₆ hp
      dsimp only [p_dag_Order.s2] at hp
      refine W_sq ?_
      refine W_sq ?_
      refine W_rg ?_
      refine WO_v (a_mv (v := .b ok) q₆_15) ?_
      refine WO_end ?_
      refine then_n ?_
      rcases if_some hp with ⟨b₅, hp⟩ | ⟨b₅, hp⟩
      · refine W_cT (t := ok) rfl b₅ ?_
        refine W_sk ?_
        refine then_n ?_
        refine W_sq ?_
        refine W_bl ?_
        refine W_sq ?_
        refine W_rg ?_
        refine WO_v (a_mv (v := v₁₄) q₆_13) ?_
        refine WO_v (a_mv (v := .i .i64 v) q₆_14) ?_
        refine WO_x (hO₂₂.bsl (E := eInt) (l := [v]) hO₂₂.fr (by rw [(ev_cons (v := .i .i64 v) rfl ev_nil)]; rfl) rfl) ?_
        rintro v₁₆ k₂₀ ⟨r₆, f₉, hW⟩
        have hO₂₃ : Own B h k₂₀ [eSl eV v₅ vs₂, eAll eInt vs₂ next_1, eSl eInt v₃ open_2, eBox r₅ [.f 86 [], v₁₃, .i .i64 h_5], eSl e_T_heap_item_int v₁₃ h_4, eSl eInt v₁₄ l, eSl eInt v₁₆ [v]] := hW
        obtain ⟨c₁₁, hp⟩ := ck_some hp
        refine WO_x (hO₂₃.app (E := eInt) (bytes := 8) 5 hO₂₃.fr rfl (hO₂₃.sl 6 rfl : Sl eInt k₂₀ v₁₆ [v]) rfl rfl (fun _ => rfl) c₁₁ (by decide)) ?_
        rintro v₁₇ k₂₁ ⟨f₁₀, hW⟩
        have hO₂₄ : Own B h k₂₁ [eSl eV v₅ vs₂, eAll eInt vs₂ next_1, eSl eInt v₃ open_2, eBox r₅ [.f 86 [], v₁₃, .i .i64 h_5], eSl e_T_heap_item_int v₁₃ h_4, eSl eInt v₁₇ (l ++ [v]), eSl eInt v₁₆ [v]] := hW
        refine WO_v (a_mv (v := v₁₇) rfl) ?_
        refine WO_end ?_
        refine then_n ?_
        refine W_sq ?_
        refine W_rg ?_
        refine WO_v (a_mv (v := v₅) q₆_6) ?_
        refine WO_v (a_mv (v := .i .i64 v) q₆_14) ?_
        obtain ⟨c₁₂, hp⟩ := ck_some hp
        refine WO_v (a_ixa (E := eV) (z := v) (hO₂₄.sl 0 rfl : Sl eV k₂₁ v₅ vs₂) rfl rfl (by rw [(hO₂₄.allLen 1 rfl : (vs₂).length = (next_1).length)]; exact c₁₂)) ?_
        refine WO_v (a_ldE (w := (gi vs₂ (v : Int).toNat)) (hO₂₄.sl 0 rfl : Sl eV k₂₁ v₅ vs₂) rfl (by rw [(hO₂₄.allLen 1 rfl : (vs₂).length = (next_1).length)]; exact toNat_lt c₁₂) rfl) ?_
        refine WO_v (a_len (hO₂₄.inn 1 rfl (toNat_lt c₁₂) : Sl eInt k₂₁ (gi vs₂ (v : Int).toNat) (gi next_1 (v : Int).toNat)) rfl) ?_
        refine WO_v (a_mv (v := .i .i64 0) rfl) ?_
        refine WO_end ?_
        refine then_n ?_
        refine W_bl ?_
        obtain ⟨o₇, ho₄, hp⟩ := bd_some hp
        refine W.mono (Q := fun e fr k => match (generalizing := false) o₇ with
            | (open_4, h_8, h_9) => e = (.exit 6) ∧ ∃ (v₁₉ : V), fr 0 = .i .i64 n ∧ fr 6 = v₅ ∧ fr 7 = v₃ ∧ fr 10 = .p r₅ 0 ∧ fr 13 = v₁₇ ∧ Own B h k [eSl eV v₅ vs₂, eAll eInt vs₂ next_1, eSl eInt v₃ open_4, eBox r₅ [.f 86 [], v₁₉, .i .i64 h_9], eSl e_T_heap_item_int v₁₉ h_8, eSl eInt v₁₇ (l ++ [v])]) ?_ ?_
        · clear hp
          refine W_loopF (fun st fr k => match st with | (open_3, h_6, h_7, x6) => ∃ (v₁₈ : V), fr 0 = .i .i64 n ∧ fr 6 = v₅ ∧ fr 7 = v₃ ∧ fr 10 = .p r₅ 0 ∧ fr 13 = v₁₇ ∧ fr 85 = (gi vs₂ (v : Int).toNat) ∧ fr 86 = .i .i64 ((gi next_1 (v : Int).toNat).length : Int) ∧ fr 87 = .i .i64 x6 ∧ Own B h k [eSl eV v₅ vs₂, eAll eInt vs₂ next_1, eSl eInt v₃ open_3, eBox r₅ [.f 86 [], v₁₈, .i .i64 h_7], eSl e_T_heap_item_int v₁₈ h_6, eSl eInt v₁₇ (l ++ [v])]) ho₄ (s := (open_2, h_4, h_5, 0)) (Exists.intro v₁₃ (And.intro (q₆_0) (And.intro (q₆_6) (And.intro (q₆_7) (And.intro (q₆_10) (And.intro (rfl) (And.intro (rfl) (And.intro (rfl) (And.intro (rfl) (hO₂₄.pick [0, 1, 2, 3, 4, 5] rfl (by decide))))))))))) ?_
          rintro ⟨open_3, h_6, h_7, x6⟩ q₈ k₂₃ ⟨v₁₈, q₈_0, q₈_6, q₈_7, q₈_10, q₈_13, q₈_85, q₈_86, q₈_87, hO₂₆⟩ o₈ hp
          dsimp only [p_dag_Order.s3] at hp
          refine W_sq ?_
          refine W_rg ?_
          refine WO_v (a_lss (a := x6) (b := ((gi next_1 (v : Int).toNat).length : Int)) q₈_87 q₈_86) ?_
          refine WO_end ?_
          refine then_n ?_
          refine W_sq ?_
          rcases if_some hp with ⟨b₆, hp⟩ | ⟨b₆, hp⟩
          · refine W_cT (t := (decide (x6 < ((gi next_1 (v : Int).toNat).length : Int)))) rfl b₆ ?_
            refine W_sk ?_
            refine then_n ?_
            refine W_sq ?_
            refine W_bl ?_
            refine W_sq ?_
            refine W_rg ?_
            obtain ⟨c₁₃, hp⟩ := ck_some hp
            refine WO_v (a_ixa (E := eInt) (z := x6) (hO₂₆.inn 1 rfl (toNat_lt c₁₂) : Sl eInt k₂₃ (gi vs₂ (v : Int).toNat) (gi next_1 (v : Int).toNat)) q₈_85 q₈_87 c₁₃) ?_
            refine WO_v (a_ldE (w := .i .i64 (gi (gi next_1 (v : Int).toNat) (x6 : Int).toNat)) (hO₂₆.inn 1 rfl (toNat_lt c₁₂) : Sl eInt k₂₃ (gi vs₂ (v : Int).toNat) (gi next_1 (v : Int).toNat)) rfl (toNat_lt c₁₃) rfl) ?_
            refine WO_v (a_mv (v := .i .i64 (gi (gi next_1 (v : Int).toNat) (x6 : Int).toNat)) rfl) ?_
            refine WO_end ?_
            refine then_n ?_
            refine W_sq ?_
            refine W_rg ?_
            refine WO_v (a_mv (v := v₃) q₈_7) ?_
            refine WO_v (a_mv (v := .i .i64 (gi (gi next_1 (v : Int).toNat) (x6 : Int).toNat)) rfl) ?_
            obtain ⟨c₁₄, hp⟩ := ck_some hp
            refine WO_v (a_ixa (E := eInt) (z := (gi (gi next_1 (v : Int).toNat) (x6 : Int).toNat)) (hO₂₆.sl 2 rfl : Sl eInt k₂₃ v₃ open_3) rfl rfl c₁₄) ?_
            refine WO_v (a_ldE (w := .i .i64 (gi open_3 (gi (gi next_1 (v : Int).toNat) (x6 : Int).toNat : Int).toNat)) (hO₂₆.sl 2 rfl : Sl eInt k₂₃ v₃ open_3) rfl (toNat_lt c₁₄) rfl) ?_
            obtain ⟨c₁₅, hp⟩ := ck_some hp
            refine WO_v (a_sub (a := (gi open_3 (gi (gi next_1 (v : Int).toNat) (x6 : Int).toNat : Int).toNat)) (b := 1) rfl rfl c₁₅) ?_
            refine WO_v (a_ixa (E := eInt) (z := (gi (gi next_1 (v : Int).toNat) (x6 : Int).toNat)) (hO₂₆.sl 2 rfl : Sl eInt k₂₃ v₃ open_3) rfl rfl c₁₄) ?_
            refine WO_x (hO₂₆.ste (E := eInt) (y := ((gi open_3 (gi (gi next_1 (v : Int).toNat) (x6 : Int).toNat : Int).toNat) - 1)) (ws := [.i .i64 ((gi open_3 (gi (gi next_1 (v : Int).toNat) (x6 : Int).toNat : Int).toNat) - 1)]) 2 rfl rfl (toNat_lt c₁₄) rfl rfl ⟨rfl, Nat.le_of_ble_eq_true rfl, rfl⟩ rfl) ?_
            rintro _ k₂₄ ⟨rfl, f₁₁, m₄, hW⟩
            have hO₂₇ : Own B h k₂₄ [eSl eV v₅ vs₂, eAll eInt vs₂ next_1, eSl eInt v₃ (open_3.set (gi (gi next_1 (v : Int).toNat) (x6 : Int).toNat : Int).toNat ((gi open_3 (gi (gi next_1 (v : Int).toNat) (x6 : Int).toNat : Int).toNat) - 1)), eBox r₅ [.f 86 [], v₁₈, .i .i64 h_7], eSl e_T_heap_item_int v₁₈ h_6, eSl eInt v₁₇ (l ++ [v])] := hW
            refine WO_end ?_
            refine then_n ?_
            refine W_sq ?_
            refine W_rg ?_
            refine WO_v (a_mv (v := v₃) q₈_7) ?_
            refine WO_v (a_mv (v := .i .i64 (gi (gi next_1 (v : Int).toNat) (x6 : Int).toNat)) rfl) ?_
            obtain ⟨c₁₆, hp⟩ := ck_some hp
            refine WO_v (a_ixa (E := eInt) (z := (gi (gi next_1 (v : Int).toNat) (x6 : Int).toNat)) (hO₂₇.sl 2 rfl : Sl eInt k₂₄ v₃ (open_3.set (gi (gi next_1 (v : Int).toNat) (x6 : Int).toNat : Int).toNat ((gi open_3 (gi (gi next_1 (v : Int).toNat) (x6 : Int).toNat : Int).toNat) - 1))) rfl rfl c₁₆) ?_
            refine WO_v (a_ldE (w := .i .i64 (gi (open_3.set (gi (gi next_1 (v : Int).toNat) (x6 : Int).toNat : Int).toNat ((gi open_3 (gi (gi next_1 (v : Int).toNat) (x6 : Int).toNat : Int).toNat) - 1)) (gi (gi next_1 (v : Int).toNat) (x6 : Int).toNat : Int).toNat)) (hO₂₇.sl 2 rfl : Sl eInt k₂₄ v₃ (open_3.set (gi (gi next_1 (v : Int).toNat) (x6 : Int).toNat : Int).toNat ((gi open_3 (gi (gi next_1 (v : Int).toNat) (x6 : Int).toNat : Int).toNat) - 1))) rfl (toNat_lt c₁₆) rfl) ?_
            refine WO_v (a_eqI (a := (gi (open_3.set (gi (gi next_1 (v : Int).toNat) (x6 : Int).toNat : Int).toNat ((gi open_3 (gi (gi next_1 (v : Int).toNat) (x6 : Int).toNat : Int).toNat) - 1)) (gi (gi next_1 (v : Int).toNat) (x6 : Int).toNat : Int).toNat)) (b := 0) rfl rfl) ?_
            refine WO_end ?_
            refine then_n ?_
            rcases if_some hp with ⟨b₇, hp⟩ | ⟨b₇, hp⟩
            · refine W_cT (t := (decide (gi (open_3.set (gi (gi next_1 (v : Int).toNat) (x6 : Int).toNat : Int).toNat ((gi open_3 (gi (gi next_1 (v : Int).toNat) (x6 : Int).toNat : Int).toNat) - 1)) (gi (gi next_1 (v : Int).toNat) (x6 : Int).toNat : Int).toNat = 0))) rfl b₇ ?_
              refine W_rg ?_
              refine WO_v (a_mv (v := .p r₅ 0) q₈_10) ?_
              refine WO_v (a_mv (v := .i .i64 (gi (gi next_1 (v : Int).toNat) (x6 : Int).toNat)) rfl) ?_
              obtain ⟨m2, hx₅, hp⟩ := bd_some hp
              obtain ⟨u₅, k₂₅, ca₅, v₂₀, rfl, hW₅⟩ := p_heap_Heap_int_Push.ok (h := k₂₄) (h_ := (⟨h_6, h_7⟩ : T_heap_Heap_int)) (x := (gi (gi next_1 (v : Int).toNat) (x6 : Int).toNat)) (h__less := (fun y0 y1 => p_dag_Order_1 y0 y1)) (hO₂₇.toM [3, 4] rfl (by decide)) (fun k z0 z1 y hk hx => p_dag_Order_1.ok (h := k) hx) hx₅
              refine WO_c (id := 87) (caps := []) rfl (mp_cons (v := .p r₅ 0) rfl (mp_cons (v := .i .i64 (gi (gi next_1 (v : Int).toNat) (x6 : Int).toNat)) rfl mp_nil)) ca₅ ?_
              have hO₂₈ : Own B h k₂₅ [eSl eV v₅ vs₂, eAll eInt vs₂ next_1, eSl eInt v₃ (open_3.set (gi (gi next_1 (v : Int).toNat) (x6 : Int).toNat : Int).toNat ((gi open_3 (gi (gi next_1 (v : Int).toNat) (x6 : Int).toNat : Int).toNat) - 1)), eBox r₅ [.f 86 [], v₂₀, .i .i64 m2.time], eSl e_T_heap_item_int v₂₀ m2.items, eSl eInt v₁₇ (l ++ [v])] := (hO₂₇.callM [3, 4] [0, 1, 2, 5] rfl rfl (by decide) hW₅ rfl).pick [0, 1, 2, 4, 5, 3] rfl (by decide)
              refine WO_end ?_
              refine blk_n ?_
              refine then_n ?_
              refine W_rg ?_
              obtain ⟨c₁₇, hp⟩ := ck_some hp
              refine WO_v (a_add (a := x6) (b := 1) q₈_87 rfl c₁₇) ?_
              refine WO_v (a_mv (v := .i .i64 (x6 + 1)) rfl) ?_
              refine WO_end ?_
              have hp := Option.some.inj hp; subst hp
              exact (Or.inl (Exists.intro (open_3.set (gi (gi next_1 (v : Int).toNat) (x6 : Int).toNat : Int).toNat ((gi open_3 (gi (gi next_1 (v : Int).toNat) (x6 : Int).toNat : Int).toNat) - 1), m2.items, m2.time, x6 + 1) (And.intro rfl (And.intro rfl (Exists.intro v₂₀ (And.intro (q₈_0) (And.intro (q₈_6) (And.intro (q₈_7) (And.intro (q₈_10) (And.intro (q₈_13) (And.intro (q₈_85) (And.intro (q₈_86) (And.intro (rfl) (hO₂₈.pick [0, 1, 2, 3, 4, 5] rfl (by decide)))))))))))))))
            · refine W_cF (t := (decide (gi (open_3.set (gi (gi next_1 (v : Int).toNat) (x6 : Int).toNat : Int).toNat ((gi open_3 (gi (gi next_1 (v : Int).toNat) (x6 : Int).toNat : Int).toNat) - 1)) (gi (gi next_1 (v : Int).toNat) (x6 : Int).toNat : Int).toNat = 0))) rfl b₇ ?_
              refine W_sk ?_
              refine blk_n ?_
              refine then_n ?_
              refine W_rg ?_
              obtain ⟨c₁₈, hp⟩ := ck_some hp
              refine WO_v (a_add (a := x6) (b := 1) q₈_87 rfl c₁₈) ?_
              refine WO_v (a_mv (v := .i .i64 (x6 + 1)) rfl) ?_
              refine WO_end ?_
              have hp := Option.some.inj hp; subst hp
              exact (Or.inl (Exists.intro (open_3.set (gi (gi next_1 (v : Int).toNat) (x6 : Int).toNat : Int).toNat ((gi open_3 (gi (gi next_1 (v : Int).toNat) (x6 : Int).toNat : Int).toNat) - 1), h_6, h_7, x6 + 1) (And.intro rfl (And.intro rfl (Exists.intro v₁₈ (And.intro (q₈_0) (And.intro (q₈_6) (And.intro (q₈_7) (And.intro (q₈_10) (And.intro (q₈_13) (And.intro (q₈_85) (And.intro (q₈_86) (And.intro (rfl) (hO₂₇.pick [0, 1, 2, 3, 4, 5] rfl (by decide)))))))))))))))
          · refine W_cF (t := (decide (x6 < ((gi next_1 (v : Int).toNat).length : Int)))) rfl b₆ ?_
            refine W_ex ?_
            refine then_e ?_
            have hp := Option.some.inj hp; subst hp
            refine (Or.inr (Exists.intro (open_3, h_6, h_7) (And.intro rfl (And.intro (fun h => nomatch h) (fun he => ?_)))))
            subst he; exact (And.intro rfl (Exists.intro v₁₈ (And.intro (q₈_0) (And.intro (q₈_6) (And.intro (q₈_7) (And.intro (q₈_10) (And.intro (q₈_13) (hO₂₆.pick [0, 1, 2, 3, 4, 5] rfl (by decide)))))))))
        intro e₄ q₇ k₂₂ hJ₄
        obtain ⟨open_4, h_8, h_9⟩ := o₇
        obtain ⟨rfl, v₁₉, q₇_0, q₇_6, q₇_7, q₇_10, q₇_13, hO₂₅⟩ := hJ₄
        refine blk_i ?_
        refine blk_n ?_
        refine then_n ?_
        refine W_rg ?_
        refine WO_v (a_mv (v := .p r₅ 0) q₇_10) ?_
        obtain ⟨⟨x7, x8, m3⟩, hx₆, hp⟩ := bd_some hp
        obtain ⟨u₆, k₂₆, ca₆, v₂₁, rfl, hW₆⟩ := p_heap_Heap_int_Pop.ok (h := k₂₂) (h_ := (⟨h_8, h_9⟩ : T_heap_Heap_int)) (h__less := (fun y0 y1 => p_dag_Order_1 y0 y1)) (hO₂₅.toM [3, 4] rfl (by decide)) (fun k z0 z1 y hk hx => p_dag_Order_1.ok (h := k) hx) hx₆
        refine WO_c (id := 88) (caps := []) rfl (mp_cons (v := .p r₅ 0) rfl mp_nil) ca₆ ?_
        have hO₂₉ : Own B h k₂₆ [eSl eV v₅ vs₂, eAll eInt vs₂ next_1, eSl eInt v₃ open_4, eBox r₅ [.f 86 [], v₂₁, .i .i64 m3.time], eSl e_T_heap_item_int v₂₁ m3.items, eSl eInt v₁₇ (l ++ [v])] := (hO₂₅.callM [3, 4] [0, 1, 2, 5] rfl rfl (by decide) hW₆ rfl).pick [0, 1, 2, 4, 5, 3] rfl (by decide)
        refine WO_v (a_mv (v := .tu [.i .i64 x7, .b x8]) rfl) ?_
        refine WO_v (a_ext (vs := [.i .i64 x7, .b x8]) (v := .i .i64 x7) rfl rfl) ?_
        refine WO_v (a_ext (vs := [.i .i64 x7, .b x8]) (v := .b x8) rfl rfl) ?_
        refine WO_v (a_mv (v := .i .i64 x7) rfl) ?_
        refine WO_v (a_mv (v := .b x8) rfl) ?_
        refine WO_end ?_
        have hp := Option.some.inj hp; subst hp
        exact (Or.inl (Exists.intro (open_4, m3.items, m3.time, l ++ [v], x7, x8) (And.intro rfl (And.intro rfl (Exists.intro v₂₁ (Exists.intro v₁₇ (And.intro (q₇_0) (And.intro (q₇_6) (And.intro (q₇_7) (And.intro (q₇_10) (And.intro (q₇_13) (And.intro (rfl) (And.intro (rfl) (hO₂₉.pick [0, 1, 2, 3, 4, 5] rfl (by decide)))))))))))))))
      · refine W_cF (t := ok) rfl b₅ ?_
        refine W_ex ?_
        refine then_e ?_
        have hp := Option.some.inj hp; subst hp
        refine (Or.inr (Exists.intro l (And.intro rfl (And.intro (fun h => nomatch h) (fun he => ?_)))))
        subst he; exact (And.intro rfl (Exists.intro v₁₄ (And.intro (q₆_0) (And.intro (q₆_13) (hO₂₂.pick [5] rfl (by decide))))))
    intro e₃ q₅ k₁₈ hJ₃
    obtain ⟨l1, rfl⟩ : ∃ x, x = o₅ := ⟨_, rfl⟩
    obtain ⟨rfl, v₁₅, q₅_0, q₅_13, hO₂₀⟩ := hJ₃
    refine blk_i ?_
    refine then_n ?_
    refine W_sq ?_
    refine W_sq ?_
    refine W_rg ?_
    refine WO_v (a_mv (v := v₁₅) q₅_13) ?_
    refine WO_v (a_len (hO₂₀.sl 0 rfl : Sl eInt k₁₈ v₁₅ l1) rfl) ?_
    refine WO_v (a_mv (v := .i .i64 n) q₅_0) ?_
    refine WO_v (a_lss (a := (l1.length : Int)) (b := n) rfl rfl) ?_
    refine WO_end ?_
    refine then_n ?_
    rcases if_some hp with ⟨b₈, hp⟩ | ⟨b₈, hp⟩
    · refine W_cT (t := (decide ((l1.length : Int) < n))) rfl b₈ ?_
      refine W_sq ?_
      refine W_rg ?_
      refine WO_v (a_mv (v := .sn) rfl) ?_
      refine WO_v (a_mv (v := .i .i64 11) rfl) ?_
      refine WO_end ?_
      refine then_n ?_
      refine W_rt ?_
      refine then_r ?_
      have hO₃₀ : Own B h k₁₈ [eSl eInt v₁₅ l1, eSl eInt .sn ([] : List Int)] := hO₂₀.nil eInt
      refine Ret_r (rs_t (n := 4) (v := .sn) rfl (rs_t (n := 5) (v := .i .i64 11) rfl rs_nil)) ?_
      have hp := Option.some.inj hp; subst hp
      exact (Exists.intro V.sn (And.intro rfl (hO₃₀.pick [1] rfl (by decide))))
    · refine W_cF (t := (decide ((l1.length : Int) < n))) rfl b₈ ?_
      refine W_sk ?_
      refine then_n ?_
      refine W_sq ?_
      refine W_rg ?_
      refine WO_v (a_mv (v := v₁₅) q₅_13) ?_
      refine WO_v (a_mv (v := v₁₅) rfl) ?_
      refine WO_v (a_mv (v := .i .i64 0) rfl) ?_
      refine WO_end ?_
      refine then_n ?_
      refine W_rt ?_
      refine Ret_r (rs_t (n := 4) (v := v₁₅) rfl (rs_t (n := 5) (v := .i .i64 0) rfl rs_nil)) ?_
      have hp := Option.some.inj hp; subst hp
      exact (Exists.intro v₁₅ (And.intro rfl (hO₂₀.pick [0] rfl (by decide))))

theorem p_layer_Layers.ok {h : Hp} {n : Int} {arcs : List T_api_Arc} {v_arcs : V} (s_arcs : Sl e_T_api_Arc h v_arcs arcs) {r : (List Int) × Int} (hp : p_layer_Layers n arcs = some r) :
    ∃ u k', Is G 38 [.i .i64 n, v_arcs] h u k' ∧ ∃ (v₁ : V), V.tu [v₁, .i .i64 r.2] = u ∧ Own (fun r => r < h.n) h k' [eSl eInt v₁ r.1] := by
  refine WC.is (WC_of G_F_layer_Layers ?_)
  unfold p_layer_Layers at hp
  let B : Nat → Prop := (fun r => r < h.n)
  have hO : Own B h h [] := Own.start0 h
  refine W_sq ?_
  refine W_rg ?_
  refine WO_v (a_mv (v := .sn) rfl) ?_
  refine WO_v (a_mv (v := .i .i64 0) rfl) ?_
  refine WO_end ?_
  refine then_n ?_
  refine W_sq ?_
  refine W_rg ?_
  refine WO_v (a_mv (v := .i .i64 n) rfl) ?_
  refine WO_v (a_mv (v := v_arcs) rfl) ?_
  obtain ⟨⟨x, x1⟩, hx₁, hp⟩ := bd_some hp
  obtain ⟨u₁, k₁, ca₁, v₂, rfl, hW₁⟩ := p_dag_Order.ok (h := h)  (hO.rd0 s_arcs.rd : Sl e_T_api_Arc h v_arcs arcs) hx₁
  refine WO_c (id := 69) (caps := []) rfl (mp_cons (v := .i .i64 n) rfl (mp_cons (v := v_arcs) rfl mp_nil)) ca₁ ?_
  have hO₁ : Own B h k₁ [eSl eInt v₂ x] := hO.call hW₁ rfl
  refine WO_v (a_mv (v := .tu [v₂, .i .i64 x1]) rfl) ?_
  refine WO_v (a_ext (vs := [v₂, .i .i64 x1]) (v := v₂) rfl rfl) ?_
  refine WO_v (a_ext (vs := [v₂, .i .i64 x1]) (v := .i .i64 x1) rfl rfl) ?_
  refine WO_v (a_mv (v := v₂) rfl) ?_
  refine WO_v (a_mv (v := .i .i64 x1) rfl) ?_
  refine WO_end ?_
  refine then_n ?_
  refine W_sq ?_
  refine W_sq ?_
  refine W_rg ?_
  refine WO_v (a_mv (v := .i .i64 x1) rfl) ?_
  refine WO_v (a_neI (a := x1) (b := 0) rfl rfl) ?_
  refine WO_end ?_
  refine then_n ?_
  rcases if_some hp with ⟨b₁, hp⟩ | ⟨b₁, hp⟩
  · refine W_cT (t := (!(decide (x1 = 0)))) rfl b₁ ?_
    refine W_sq ?_
    refine W_rg ?_
    refine WO_v (a_mv (v := .i .i64 x1) rfl) ?_
    refine WO_v (a_mv (v := .sn) rfl) ?_
    refine WO_v (a_mv (v := .i .i64 x1) rfl) ?_
    refine WO_end ?_
    refine then_n ?_
    refine W_rt ?_
    refine then_r ?_
    have hO₂ : Own B h k₁ [eSl eInt v₂ x, eSl eInt .sn ([] : List Int)] := hO₁.nil eInt
    refine Ret_r (rs_t (n := 4) (v := .sn) rfl (rs_t (n := 5) (v := .i .i64 x1) rfl rs_nil)) ?_
    have hp := Option.some.inj hp; subst hp
    exact (Exists.intro V.sn (And.intro rfl (hO₂.pick [1] rfl (by decide))))
  · refine W_cF (t := (!(decide (x1 = 0)))) rfl b₁ ?_
    refine W_sk ?_
    refine then_n ?_
    refine W_sq ?_
    refine W_rg ?_
    refine WO_v (a_mv (v := .i .i64 n) rfl) ?_
    obtain ⟨c₁, hp⟩ := ck_some hp
    refine WO_x (hO₁.mks (E := eV) (y := .sn) (bytes := 24) (z := n) hO₁.fr rfl rfl rfl c₁ (by decide)) ?_
    rintro v₃ k₂ ⟨r₁, f₁, hW⟩
    have hO₃ : Own B h k₂ [eSl eInt v₂ x, eSl eV v₃ (List.replicate (n : Int).toNat .sn)] := hW
    have hO₄ : Own B h k₂ [eSl eInt v₂ x, eSl eV v₃ (List.replicate (n : Int).toNat .sn), eAll eInt (List.replicate (n : Int).toNat .sn) (List.replicate (n : Int).toNat [])] := hO₃.allNil eInt (n : Int).toNat
    refine WO_v (a_mv (v := v₃) rfl) ?_
    refine WO_end ?_
    refine then_n ?_
    refine W_sq ?_
    refine W_sq ?_
    refine W_rg ?_
    refine WO_v (a_mv (v := v_arcs) rfl) ?_
    refine WO_v (a_len (hO₄.rd0 s_arcs.rd : Sl e_T_api_Arc k₂ v_arcs arcs) rfl) ?_
    refine WO_v (a_mv (v := .i .i64 0) rfl) ?_
    refine WO_end ?_
    refine then_n ?_
    refine W_bl ?_
    obtain ⟨o₁, ho₁, hp⟩ := bd_some hp
    refine W.mono (Q := fun e fr k => match (generalizing := false) o₁ with
        | next_1 => e = (.exit 0) ∧ ∃ (v₅ : V), ∃ (vs₂ : List V), fr 0 = .i .i64 n ∧ fr 6 = v₂ ∧ fr 8 = v₅ ∧ Own B h k [eSl eInt v₂ x, eSl eV v₅ vs₂, eAll eInt vs₂ next_1]) ?_ ?_
    · clear hp
      refine W_loopF (fun st fr k => match st with | (next_, x2) => ∃ (v₄ : V), ∃ (vs₁ : List V), fr 0 = .i .i64 n ∧ fr 6 = v₂ ∧ fr 8 = v₄ ∧ fr 27 = v_arcs ∧ fr 28 = .i .i64 (arcs.length : Int) ∧ fr 29 = .i .i64 x2 ∧ Own B h k [eSl eInt v₂ x, eSl eV v₄ vs₁, eAll eInt vs₁ next_]) ho₁ (s := ((List.replicate (n : Int).toNat [] : List (List Int)), 0)) (Exists.intro v₃ (Exists.intro (List.replicate (n : Int).toNat .sn) (And.intro (rfl) (And.intro (rfl) (And.intro (rfl) (And.intro (rfl) (And.intro (rfl) (And.intro (rfl) (hO₄.pick [0, 1, 2] rfl (by decide)))))))))) ?_
      rintro ⟨next_, x2⟩ q₂ k₄ ⟨v₄, vs₁, q₂_0, q₂_6, q₂_8, q₂_27, q₂_28, q₂_29, hO₆⟩ o₂ hp
      dsimp only [p_layer_Layers.s0] at hp
      refine W_sq ?_
      refine W_rg ?_
      refine WO_v (a_lss (a := x2) (b := (arcs.length : Int)) q₂_29 q₂_28) ?_
      refine WO_end ?_
      refine then_n ?_
      refine W_sq ?_
      rcases if_some hp with ⟨b₂, hp⟩ | ⟨b₂, hp⟩
      · refine W_cT (t := (decide (x2 < (arcs.length : Int)))) rfl b₂ ?_
        refine W_sk ?_
        refine then_n ?_
        refine W_sq ?_
        refine W_bl ?_
        refine W_sq ?_
        refine W_rg ?_
        obtain ⟨c₂, hp⟩ := ck_some hp
        refine WO_v (a_ixa (E := e_T_api_Arc) (z := x2) (hO₆.rd0 s_arcs.rd : Sl e_T_api_Arc k₄ v_arcs arcs) q₂_27 q₂_29 c₂) ?_
        refine WO_v (a_ldA (E := e_T_api_Arc) (hO₆.rd0 s_arcs.rd : Sl e_T_api_Arc k₄ v_arcs arcs) rfl (toNat_lt c₂)) ?_
        refine WO_x (hO₆.alloc (cs := e_T_api_Arc.c (⟨0, 0, 0⟩ : T_api_Arc)) hO₆.fr) ?_
        rintro _ k₅ ⟨r₂, rfl, n₁, f₂, hW⟩
        have hO₇ : Own B h k₅ [eSl eInt v₂ x, eSl eV v₄ vs₁, eAll eInt vs₁ next_, eBox r₂ (e_T_api_Arc.c (⟨0, 0, 0⟩ : T_api_Arc))] := hW
        refine WO_x (hO₇.stb (ws := e_T_api_Arc.c (gi arcs (x2 : Int).toNat)) (cs' := e_T_api_Arc.c (gi arcs (x2 : Int).toNat)) (v := .ag (e_T_api_Arc.c (gi arcs (x2 : Int).toNat))) 3 rfl rfl rfl rfl ⟨rfl, Nat.le_of_ble_eq_true rfl, rfl⟩ rfl) ?_
        rintro _ k₆ ⟨rfl, f₃, m₁, hW⟩
        have hO₈ : Own B h k₆ [eSl eInt v₂ x, eSl eV v₄ vs₁, eAll eInt vs₁ next_, eBox r₂ (e_T_api_Arc.c (gi arcs (x2 : Int).toNat))] := hW
        refine WO_end ?_
        refine then_n ?_
        refine W_dr ?_
        have hW := hO₈.bump 14
        have fr₁ := Fresh.start k₆ 14
        have nb₁ : ∀ {i : Nat}, h.n ≤ k₆.n + i := Nat.le_trans hO₈.n (Nat.le_add_right _ _)
        have hO₉ : Own B h (k₆.bump 14) [eSl eInt v₂ x, eSl eV v₄ vs₁, eAll eInt vs₁ next_, eBox r₂ (e_T_api_Arc.c (gi arcs (x2 : Int).toNat))] := hW
        refine WD_v (a_mv (v := v₄) q₂_8) ?_
        refine WD_v (a_fa (r := r₂) (o := 0) (o' := 0) rfl rfl) ?_
        refine WD_v (a_ldb (cs := (e_T_api_Arc.c (gi arcs (x2 : Int).toNat))) (v := .i .i64 ((gi arcs (x2 : Int).toNat).From)) (hO₉.box 3 rfl) rfl rfl) ?_
        refine WD_v (a_mv (v := v₄) q₂_8) ?_
        refine WD_v (a_fa (r := r₂) (o := 0) (o' := 0) rfl rfl) ?_
        refine WD_v (a_ldb (cs := (e_T_api_Arc.c (gi arcs (x2 : Int).toNat))) (v := .i .i64 ((gi arcs (x2 : Int).toNat).From)) (hO₉.box 3 rfl) rfl rfl) ?_
        obtain ⟨c₃, hp⟩ := ck_some hp
        refine WD_v (a_ixa (E := eV) (z := ((gi arcs (x2 : Int).toNat).From)) (hO₉.sl 1 rfl : Sl eV (k₆.bump 14) v₄ vs₁) rfl rfl (by rw [(hO₉.allLen 2 rfl : (vs₁).length = (next_).length)]; exact c₃)) ?_
        refine WD_v (a_ldE (w := (gi vs₁ ((gi arcs (x2 : Int).toNat).From : Int).toNat)) (hO₉.sl 1 rfl : Sl eV (k₆.bump 14) v₄ vs₁) rfl (by rw [(hO₉.allLen 2 rfl : (vs₁).length = (next_).length)]; exact toNat_lt c₃) rfl) ?_
        refine WD_v (a_fa (r := r₂) (o := 0) (o' := 1) rfl rfl) ?_
        refine WD_v (a_ldb (cs := (e_T_api_Arc.c (gi arcs (x2 : Int).toNat))) (v := .i .i64 ((gi arcs (x2 : Int).toNat).To)) (hO₉.box 3 rfl) rfl rfl) ?_
        refine WD_x (hO₉.bsl (E := eInt) (l := [(gi arcs (x2 : Int).toNat).To]) ⟨fr₁.m 10 (by decide) (by decide), nb₁⟩ (by rw [(ev_cons (v := .i .i64 ((gi arcs (x2 : Int).toNat).To)) rfl ev_nil)]; rfl) rfl) ?_
        rintro v₆ k₈ z₁ ⟨r₃, f₄, hW⟩
        have fr₂ := fr₁.kept f₄ (by decide)
        have hO₁₀ : Own B h k₈ [eSl eInt v₂ x, eSl eV v₄ vs₁, eAll eInt vs₁ next_, eBox r₂ (e_T_api_Arc.c (gi arcs (x2 : Int).toNat)), eSl eInt v₆ [(gi arcs (x2 : Int).toNat).To]] := hW
        obtain ⟨c₄, hp⟩ := ck_some hp
        refine WD_x (hO₁₀.appInn (E := eInt) (bytes := 8) (j := ((gi arcs (x2 : Int).toNat).From : Int).toNat) 2 ⟨fr₂.m 11 (by decide) (by decide), nb₁⟩ rfl (toNat_lt c₃) (hO₁₀.sl 4 rfl : Sl eInt k₈ v₆ [(gi arcs (x2 : Int).toNat).To]) rfl rfl (fun _ => rfl) c₄ (by decide)) ?_
        rintro v₇ k₉ z₂ ⟨f₅, hW⟩
        have fr₃ := fr₂.kept f₅ (by decide)
        have hl₁ := (hO₁₀.allLen 2 rfl : (vs₁).length = (next_).length)
        have hO₁₁ : Own B h k₉ [eSl eInt v₂ x, eSl eV v₄ vs₁, eAll eInt (vs₁.set ((gi arcs (x2 : Int).toNat).From : Int).toNat v₇) (next_.set ((gi arcs (x2 : Int).toNat).From : Int).toNat ((gi next_ ((gi arcs (x2 : Int).toNat).From : Int).toNat) ++ [(gi arcs (x2 : Int).toNat).To])), eBox r₂ (e_T_api_Arc.c (gi arcs (x2 : Int).toNat)), eSl eInt v₆ [(gi arcs (x2 : Int).toNat).To]] := hW
        have hi₁ : SlN eInt 0 k₉ v₇ ((gi next_ ((gi arcs (x2 : Int).toNat).From : Int).toNat) ++ [(gi arcs (x2 : Int).toNat).To]) := by
          have := (hO₁₁.at 2 rfl).2.1 ((gi arcs (x2 : Int).toNat).From : Int).toNat (by have := toNat_lt c₃; simp; omega)
          rwa [gi_set (by have := toNat_lt c₃; omega), gi_set (by have := toNat_lt c₃; omega), if_pos rfl, if_pos rfl] at this
        refine WD_v (a_ixa (E := eV) (z := ((gi arcs (x2 : Int).toNat).From)) (hO₁₁.sl 1 rfl : Sl eV k₉ v₄ vs₁) rfl rfl (by rw [hl₁]; exact c₃)) ?_
        refine WD_x (hO₁₁.ste (E := eV) (y := v₇) (ws := [v₇]) 1 rfl rfl (by rw [hl₁]; exact toNat_lt c₃) rfl hi₁.to.cells ⟨rfl, Nat.le_of_ble_eq_true rfl, (all_cons hi₁.to.oneV rfl)⟩ rfl) ?_
        rintro _ k₁₀ z₃ ⟨rfl, f₆, m₂, hW⟩
        have fr₄ := fr₃.kept f₆ (by decide)
        have hO₁₂ : Own B h k₁₀ [eSl eInt v₂ x, eSl eV v₄ (vs₁.set ((gi arcs (x2 : Int).toNat).From : Int).toNat v₇), eAll eInt (vs₁.set ((gi arcs (x2 : Int).toNat).From : Int).toNat v₇) (next_.set ((gi arcs (x2 : Int).toNat).From : Int).toNat ((gi next_ ((gi arcs (x2 : Int).toNat).From : Int).toNat) ++ [(gi arcs (x2 : Int).toNat).To])), eBox r₂ (e_T_api_Arc.c (gi arcs (x2 : Int).toNat)), eSl eInt v₆ [(gi arcs (x2 : Int).toNat).To]] := hW
        refine WD_end ?_
        refine And.intro ?_ ?_
        · intro q hq
          simp only [List.mem_cons, List.not_mem_nil, or_false] at hq
          rcases hq with rfl | rfl | rfl | rfl | rfl | rfl | rfl | rfl | rfl
          · refine ap_ll ?_ ?_
            · exact (fun h => nomatch h)
            · exact (fun h => nomatch h)
          · refine ap_ll ?_ ?_
            · exact (fun h => nomatch h)
            · exact (fun h => nomatch h)
          · refine ap_ll ?_ ?_
            · exact (fun h => nomatch h)
            · exact (fun h => nomatch h)
          · refine ap_ll ?_ ?_
            · exact (fun h => nomatch h)
            · exact (fun h => nomatch h)
          · refine ap_ll ?_ ?_
            · exact (fun h => nomatch h)
            · exact (fun h => nomatch h)
          · refine ap_ll ?_ ?_
            · exact (fun h => nomatch h)
            · exact (fun _ hm => Nat.lt_irrefl _ (Nat.lt_of_lt_of_le (hO₈.ltAt 3 rfl _ (tch (v := V.p r₂ 0) (ld_el hm) rfl)) (Nat.le_add_right _ _)))
          · refine ap_ll ?_ ?_
            · exact (fun h => nomatch h)
            · exact (fun _ hm => Nat.lt_irrefl _ (Nat.lt_of_lt_of_le (hO₈.ltAt 3 rfl _ (tch (v := V.p r₂ 0) (ld_el hm) rfl)) (Nat.le_add_right _ _)))
          · refine ap_ll ?_ ?_
            · exact (fun h => nomatch h)
            · exact (fun _ hm => Nat.lt_irrefl _ (Nat.lt_of_lt_of_le (hO₈.ltAt 1 rfl _ (refs_elt (tch (v := V.elt v₄ ((gi arcs (x2 : Int).toNat).From : Int).toNat 0) (ld_el hm) rfl))) (Nat.le_add_right _ _)))
          · refine ap_oo ?_ ?_ ?_
            · exact (fun r h1 h2 => (app_el h2).elim (fun h2 => hO₈.apartAt (i := 3) (j := 2) rfl rfl (by decide) r (tch (v := V.p r₂ 0) (ld_el h1) rfl) (refs_gi (by have := hO₈.allLen 2 rfl; have := c₃; omega) (tch (v := (gi vs₁ ((gi arcs (x2 : Int).toNat).From : Int).toNat)) h2 rfl))) (fun h2 => by have h3 := (hO₈.ltAt 3 rfl _ (tch (v := V.p r₂ 0) (ld_el h1) rfl)); have h4 := (new_sl r₃ (tch (v := v₆) h2 rfl)); omega))
            · exact (fun h => nomatch h)
            · exact (fun _ hm => Nat.lt_irrefl _ (Nat.lt_of_lt_of_le (hO₈.ltAt 3 rfl _ (tch (v := V.p r₂ 0) (ld_el hm) rfl)) (Nat.le_add_right _ _)))
        refine blk_n ?_
        refine then_n ?_
        refine W_rg ?_
        obtain ⟨c₅, hp⟩ := ck_some hp
        refine WO_v (a_add (a := x2) (b := 1) q₂_29 rfl c₅) ?_
        refine WO_v (a_mv (v := .i .i64 (x2 + 1)) rfl) ?_
        refine WO_end ?_
        have hp := Option.some.inj hp; subst hp
        exact (Or.inl (Exists.intro ((next_.set ((gi arcs (x2 : Int).toNat).From : Int).toNat ((gi next_ ((gi arcs (x2 : Int).toNat).From : Int).toNat) ++ [(gi arcs (x2 : Int).toNat).To])), x2 + 1) (And.intro rfl (And.intro rfl (Exists.intro v₄ (Exists.intro (vs₁.set ((gi arcs (x2 : Int).toNat).From : Int).toNat v₇) (And.intro (q₂_0) (And.intro (q₂_6) (And.intro (q₂_8) (And.intro (q₂_27) (And.intro (q₂_28) (And.intro (rfl) (hO₁₂.pick [0, 1, 2] rfl (by decide))))))))))))))
      · refine W_cF (t := (decide (x2 < (arcs.length : Int)))) rfl b₂ ?_
        refine W_ex ?_
        refine then_e ?_
        have hp := Option.some.inj hp; subst hp
        refine (Or.inr (Exists.intro next_ (And.intro rfl (And.intro (fun h => nomatch h) (fun he => ?_)))))
        subst he; exact (And.intro rfl (Exists.intro v₄ (Exists.intro vs₁ (And.intro (q₂_0) (And.intro (q₂_6) (And.intro (q₂_8) (hO₆.pick [0, 1, 2] rfl (by decide))))))))
    intro e₁ q₁ k₃ hJ₁
    obtain ⟨next_1, rfl⟩ : ∃ x, x = o₁ := ⟨_, rfl⟩
    obtain ⟨rfl, v₅, vs₂, q₁_0, q₁_6, q₁_8, hO₅⟩ := hJ₁
    refine blk_i ?_
    refine then_n ?_
    refine W_sq ?_
    refine W_rg ?_
    refine WO_v (a_mv (v := .i .i64 n) q₁_0) ?_
    refine WO_x (hO₅.mks (E := eInt) (y := (0 : Int)) (bytes := 8) (z := n) hO₅.fr rfl rfl rfl c₁ (by decide)) ?_
    rintro v₈ k₁₁ ⟨r₄, f₇, hW⟩
    have hO₁₃ : Own B h k₁₁ [eSl eInt v₂ x, eSl eV v₅ vs₂, eAll eInt vs₂ next_1, eSl eInt v₈ (List.replicate (n : Int).toNat (0 : Int))] := hW
    refine WO_v (a_mv (v := v₈) rfl) ?_
    refine WO_end ?_
    refine then_n ?_
    refine W_sq ?_
    refine W_sq ?_
    refine W_rg ?_
    refine WO_v (a_mv (v := v₂) q₁_6) ?_
    refine WO_v (a_len (hO₁₃.sl 0 rfl : Sl eInt k₁₁ v₂ x) rfl) ?_
    refine WO_v (a_mv (v := .i .i64 0) rfl) ?_
    refine WO_end ?_
    refine then_n ?_
    refine W_bl ?_
    obtain ⟨o₃, ho₂, hp⟩ := bd_some hp
    refine W.mono (Q := fun e fr k => match (generalizing := false) o₃ with
        | x5 => e = (.exit 2) ∧ fr 11 = v₈ ∧ Own B h k [eSl eInt v₈ x5]) ?_ ?_
    · clear hp
      refine W_loopF (fun st fr k => match st with | (x3, x4) => fr 8 = v₅ ∧ fr 11 = v₈ ∧ fr 49 = v₂ ∧ fr 50 = .i .i64 (x.length : Int) ∧ fr 51 = .i .i64 x4 ∧ Own B h k [eSl eV v₅ vs₂, eAll eInt vs₂ next_1, eSl eInt v₈ x3, eSl eInt v₂ x]) ho₂ (s := (List.replicate (n : Int).toNat (0 : Int), 0)) (And.intro (q₁_8) (And.intro (rfl) (And.intro (rfl) (And.intro (rfl) (And.intro (rfl) (hO₁₃.pick [1, 2, 3, 0] rfl (by decide))))))) ?_
      rintro ⟨x3, x4⟩ q₄ k₁₃ ⟨q₄_8, q₄_11, q₄_49, q₄_50, q₄_51, hO₁₅⟩ o₄ hp
      dsimp only [p_layer_Layers.s1] at hp
      refine W_sq ?_
      refine W_rg ?_
      refine WO_v (a_lss (a := x4) (b := (x.length : Int)) q₄_51 q₄_50) ?_
      refine WO_end ?_
      refine then_n ?_
      refine W_sq ?_
      rcases if_some hp with ⟨b₃, hp⟩ | ⟨b₃, hp⟩
      · refine W_cT (t := (decide (x4 < (x.length : Int)))) rfl b₃ ?_
        refine W_sk ?_
        refine then_n ?_
        refine W_sq ?_
        refine W_bl ?_
        refine W_sq ?_
        refine W_rg ?_
        obtain ⟨c₆, hp⟩ := ck_some hp
        refine WO_v (a_ixa (E := eInt) (z := x4) (hO₁₅.sl 3 rfl : Sl eInt k₁₃ v₂ x) q₄_49 q₄_51 c₆) ?_
        refine WO_v (a_ldE (w := .i .i64 (gi x (x4 : Int).toNat)) (hO₁₅.sl 3 rfl : Sl eInt k₁₃ v₂ x) rfl (toNat_lt c₆) rfl) ?_
        refine WO_v (a_mv (v := .i .i64 (gi x (x4 : Int).toNat)) rfl) ?_
        refine WO_end ?_
        refine then_n ?_
        refine W_sq ?_
        refine W_rg ?_
        refine WO_v (a_mv (v := v₅) q₄_8) ?_
        refine WO_v (a_mv (v := .i .i64 (gi x (x4 : Int).toNat)) rfl) ?_
        obtain ⟨c₇, hp⟩ := ck_some hp
        refine WO_v (a_ixa (E := eV) (z := (gi x (x4 : Int).toNat)) (hO₁₅.sl 0 rfl : Sl eV k₁₃ v₅ vs₂) rfl rfl (by rw [(hO₁₅.allLen 1 rfl : (vs₂).length = (next_1).length)]; exact c₇)) ?_
        refine WO_v (a_ldE (w := (gi vs₂ (gi x (x4 : Int).toNat : Int).toNat)) (hO₁₅.sl 0 rfl : Sl eV k₁₃ v₅ vs₂) rfl (by rw [(hO₁₅.allLen 1 rfl : (vs₂).length = (next_1).length)]; exact toNat_lt c₇) rfl) ?_
        refine WO_v (a_len (hO₁₅.inn 1 rfl (toNat_lt c₇) : Sl eInt k₁₃ (gi vs₂ (gi x (x4 : Int).toNat : Int).toNat) (gi next_1 (gi x (x4 : Int).toNat : Int).toNat)) rfl) ?_
        refine WO_v (a_mv (v := .i .i64 0) rfl) ?_
        refine WO_end ?_
        refine then_n ?_
        refine W_bl ?_
        obtain ⟨o₅, ho₃, hp⟩ := bd_some hp
        refine W.mono (Q := fun e fr k => match (generalizing := false) o₅ with
            | x8 => e = (.exit 4) ∧ fr 8 = v₅ ∧ fr 11 = v₈ ∧ fr 49 = v₂ ∧ fr 50 = .i .i64 (x.length : Int) ∧ fr 51 = .i .i64 x4 ∧ Own B h k [eSl eV v₅ vs₂, eAll eInt vs₂ next_1, eSl eInt v₈ x8, eSl eInt v₂ x]) ?_ ?_
        · clear hp
          refine W_loopF (fun st fr k => match st with | (x6, x7) => fr 8 = v₅ ∧ fr 11 = v₈ ∧ fr 13 = .i .i64 (gi x (x4 : Int).toNat) ∧ fr 49 = v₂ ∧ fr 50 = .i .i64 (x.length : Int) ∧ fr 51 = .i .i64 x4 ∧ fr 58 = (gi vs₂ (gi x (x4 : Int).toNat : Int).toNat) ∧ fr 59 = .i .i64 ((gi next_1 (gi x (x4 : Int).toNat : Int).toNat).length : Int) ∧ fr 60 = .i .i64 x7 ∧ Own B h k [eSl eV v₅ vs₂, eAll eInt vs₂ next_1, eSl eInt v₈ x6, eSl eInt v₂ x]) ho₃ (s := (x3, 0)) (And.intro (q₄_8) (And.intro (q₄_11) (And.intro (rfl) (And.intro (q₄_49) (And.intro (q₄_50) (And.intro (q₄_51) (And.intro (rfl) (And.intro (rfl) (And.intro (rfl) (hO₁₅.pick [0, 1, 2, 3] rfl (by decide))))))))))) ?_
          rintro ⟨x6, x7⟩ q₆ k₁₅ ⟨q₆_8, q₆_11, q₆_13, q₆_49, q₆_50, q₆_51, q₆_58, q₆_59, q₆_60, hO₁₇⟩ o₆ hp
          dsimp only [p_layer_Layers.s2] at hp
          refine W_sq ?_
          refine W_rg ?_
          refine WO_v (a_lss (a := x7) (b := ((gi next_1 (gi x (x4 : Int).toNat : Int).toNat).length : Int)) q₆_60 q₆_59) ?_
          refine WO_end ?_
          refine then_n ?_
          refine W_sq ?_
          rcases if_some hp with ⟨b₄, hp⟩ | ⟨b₄, hp⟩
          · refine W_cT (t := (decide (x7 < ((gi next_1 (gi x (x4 : Int).toNat : Int).toNat).length : Int)))) rfl b₄ ?_
            refine W_sk ?_
            refine then_n ?_
            refine W_sq ?_
            refine W_bl ?_
            refine W_sq ?_
            refine W_rg ?_
            obtain ⟨c₈, hp⟩ := ck_some hp
            refine WO_v (a_ixa (E := eInt) (z := x7) (hO₁₇.inn 1 rfl (toNat_lt c₇) : Sl eInt k₁₅ (gi vs₂ (gi x (x4 : Int).toNat : Int).toNat) (gi next_1 (gi x (x4 : Int).toNat : Int).toNat)) q₆_58 q₆_60 c₈) ?_
            refine WO_v (a_ldE (w := .i .i64 (gi (gi next_1 (gi x (x4 : Int).toNat : Int).toNat) (x7 : Int).toNat)) (hO₁₇.inn 1 rfl (toNat_lt c₇) : Sl eInt k₁₅ (gi vs₂ (gi x (x4 : Int).toNat : Int).toNat) (gi next_1 (gi x (x4 : Int).toNat : Int).toNat)) rfl (toNat_lt c₈) rfl) ?_
            refine WO_v (a_mv (v := .i .i64 (gi (gi next_1 (gi x (x4 : Int).toNat : Int).toNat) (x7 : Int).toNat)) rfl) ?_
            refine WO_end ?_
            refine then_n ?_
            refine W_dr ?_
            have hW := hO₁₇.bump 14
            have fr₅ := Fresh.start k₁₅ 14
            have nb₂ : ∀ {i : Nat}, h.n ≤ k₁₅.n + i := Nat.le_trans hO₁₇.n (Nat.le_add_right _ _)
            have hO₁₈ : Own B h (k₁₅.bump 14) [eSl eV v₅ vs₂, eAll eInt vs₂ next_1, eSl eInt v₈ x6, eSl eInt v₂ x] := hW
            refine WD_v (a_mv (v := v₈) q₆_11) ?_
            refine WD_v (a_mv (v := .i .i64 (gi (gi next_1 (gi x (x4 : Int).toNat : Int).toNat) (x7 : Int).toNat)) rfl) ?_
            refine WD_v (a_mv (v := v₈) q₆_11) ?_
            refine WD_v (a_mv (v := .i .i64 (gi (gi next_1 (gi x (x4 : Int).toNat : Int).toNat) (x7 : Int).toNat)) rfl) ?_
            obtain ⟨c₉, hp⟩ := ck_some hp
            refine WD_v (a_ixa (E := eInt) (z := (gi (gi next_1 (gi x (x4 : Int).toNat : Int).toNat) (x7 : Int).toNat)) (hO₁₈.sl 2 rfl : Sl eInt (k₁₅.bump 14) v₈ x6) rfl rfl c₉) ?_
            refine WD_v (a_ldE (w := .i .i64 (gi x6 (gi (gi next_1 (gi x (x4 : Int).toNat : Int).toNat) (x7 : Int).toNat : Int).toNat)) (hO₁₈.sl 2 rfl : Sl eInt (k₁₅.bump 14) v₈ x6) rfl (toNat_lt c₉) rfl) ?_
            refine WD_v (a_mv (v := v₈) q₆_11) ?_
            refine WD_v (a_mv (v := .i .i64 (gi x (x4 : Int).toNat)) q₆_13) ?_
            obtain ⟨c₁₀, hp⟩ := ck_some hp
            refine WD_v (a_ixa (E := eInt) (z := (gi x (x4 : Int).toNat)) (hO₁₈.sl 2 rfl : Sl eInt (k₁₅.bump 14) v₈ x6) rfl rfl c₁₀) ?_
            refine WD_v (a_ldE (w := .i .i64 (gi x6 (gi x (x4 : Int).toNat : Int).toNat)) (hO₁₈.sl 2 rfl : Sl eInt (k₁₅.bump 14) v₈ x6) rfl (toNat_lt c₁₀) rfl) ?_
            obtain ⟨c₁₁, hp⟩ := ck_some hp
            refine WD_v (a_add (a := (gi x6 (gi x (x4 : Int).toNat : Int).toNat)) (b := 1) rfl rfl c₁₁) ?_
            refine WD_v (a_mx (a := (gi x6 (gi (gi next_1 (gi x (x4 : Int).toNat : Int).toNat) (x7 : Int).toNat : Int).toNat)) (b := ((gi x6 (gi x (x4 : Int).toNat : Int).toNat) + 1)) rfl rfl) ?_
            refine WD_v (a_ixa (E := eInt) (z := (gi (gi next_1 (gi x (x4 : Int).toNat : Int).toNat) (x7 : Int).toNat)) (hO₁₈.sl 2 rfl : Sl eInt (k₁₅.bump 14) v₈ x6) rfl rfl c₉) ?_
            refine WD_x (hO₁₈.ste (E := eInt) (y := (max (gi x6 (gi (gi next_1 (gi x (x4 : Int).toNat : Int).toNat) (x7 : Int).toNat : Int).toNat) ((gi x6 (gi x (x4 : Int).toNat : Int).toNat) + 1))) (ws := [.i .i64 (max (gi x6 (gi (gi next_1 (gi x (x4 : Int).toNat : Int).toNat) (x7 : Int).toNat : Int).toNat) ((gi x6 (gi x (x4 : Int).toNat : Int).toNat) + 1))]) 2 rfl rfl (toNat_lt c₉) rfl rfl ⟨rfl, Nat.le_of_ble_eq_true rfl, rfl⟩ rfl) ?_
            rintro _ k₁₇ z₄ ⟨rfl, f₈, m₃, hW⟩
            have fr₆ := fr₅.kept f₈ (by decide)
            have hO₁₉ : Own B h k₁₇ [eSl eV v₅ vs₂, eAll eInt vs₂ next_1, eSl eInt v₈ (x6.set (gi (gi next_1 (gi x (x4 : Int).toNat : Int).toNat) (x7 : Int).toNat : Int).toNat (max (gi x6 (gi (gi next_1 (gi x (x4 : Int).toNat : Int).toNat) (x7 : Int).toNat : Int).toNat) ((gi x6 (gi x (x4 : Int).toNat : Int).toNat) + 1))), eSl eInt v₂ x] := hW
            refine WD_end ?_
            refine And.intro ?_ ?_
            · intro q hq
              simp only [List.mem_cons, List.not_mem_nil, or_false] at hq
              rcases hq with rfl
              · refine ap_ll ?_ ?_
                · exact (fun h => nomatch h)
                · exact (fun h => nomatch h)
            refine blk_n ?_
            refine then_n ?_
            refine W_rg ?_
            obtain ⟨c₁₂, hp⟩ := ck_some hp
            refine WO_v (a_add (a := x7) (b := 1) q₆_60 rfl c₁₂) ?_
            refine WO_v (a_mv (v := .i .i64 (x7 + 1)) rfl) ?_
            refine WO_end ?_
            have hp := Option.some.inj hp; subst hp
            exact (Or.inl (Exists.intro (x6.set (gi (gi next_1 (gi x (x4 : Int).toNat : Int).toNat) (x7 : Int).toNat : Int).toNat (max (gi x6 (gi (gi next_1 (gi x (x4 : Int).toNat : Int).toNat) (x7 : Int).toNat : Int).toNat) ((gi x6 (gi x (x4 : Int).toNat : Int).toNat) + 1)), x7 + 1) (And.intro rfl (And.intro rfl (And.intro (q₆_8) (And.intro (q₆_11) (And.intro (q₆_13) (And.intro (q₆_49) (And.intro (q₆_50) (And.intro (q₆_51) (And.intro (q₆_58) (And.intro (q₆_59) (And.intro (rfl) (hO₁₉.pick [0, 1, 2, 3] rfl (by decide)))))))))))))))
          · refine W_cF (t := (decide (x7 < ((gi next_1 (gi x (x4 : Int).toNat : Int).toNat).length : Int)))) rfl b₄ ?_
            refine W_ex ?_
            refine then_e ?_
            have hp := Option.some.inj hp; subst hp
            refine (Or.inr (Exists.intro x6 (And.intro rfl (And.intro (fun h => nomatch h) (fun he => ?_)))))
            subst he; exact (And.intro rfl (And.intro (q₆_8) (And.intro (q₆_11) (And.intro (q₆_49) (And.intro (q₆_50) (And.intro (q₆_51) (hO₁₇.pick [0, 1, 2, 3] rfl (by decide))))))))
        intro e₃ q₅ k₁₄ hJ₃
        obtain ⟨x8, rfl⟩ : ∃ x, x = o₅ := ⟨_, rfl⟩
        obtain ⟨rfl, q₅_8, q₅_11, q₅_49, q₅_50, q₅_51, hO₁₆⟩ := hJ₃
        refine blk_i ?_
        refine blk_n ?_
        refine then_n ?_
        refine W_rg ?_
        obtain ⟨c₁₃, hp⟩ := ck_some hp
        refine WO_v (a_add (a := x4) (b := 1) q₅_51 rfl c₁₃) ?_
        refine WO_v (a_mv (v := .i .i64 (x4 + 1)) rfl) ?_
        refine WO_end ?_
        have hp := Option.some.inj hp; subst hp
        exact (Or.inl (Exists.intro (x8, x4 + 1) (And.intro rfl (And.intro rfl (And.intro (q₅_8) (And.intro (q₅_11) (And.intro (q₅_49) (And.intro (q₅_50) (And.intro (rfl) (hO₁₆.pick [0, 1, 2, 3] rfl (by decide)))))))))))
      · refine W_cF (t := (decide (x4 < (x.length : Int)))) rfl b₃ ?_
        refine W_ex ?_
        refine then_e ?_
        have hp := Option.some.inj hp; subst hp
        refine (Or.inr (Exists.intro x3 (And.intro rfl (And.intro (fun h => nomatch h) (fun he => ?_)))))
        subst he; exact (And.intro rfl (And.intro (q₄_11) (hO₁₅.pick [2] rfl (by decide))))
    intro e₂ q₃ k₁₂ hJ₂
    obtain ⟨x5, rfl⟩ : ∃ x, x = o₃ := ⟨_, rfl⟩
    obtain ⟨rfl, q₃_11, hO₁₄⟩ := hJ₂
    refine blk_i ?_
    refine then_n ?_
    refine W_sq ?_
    refine W_rg ?_
    refine WO_v (a_mv (v := v₈) q₃_11) ?_
    refine WO_v (a_mv (v := v₈) rfl) ?_
    refine WO_v (a_mv (v := .i .i64 0) rfl) ?_
    refine WO_end ?_
    refine then_n ?_
    refine W_rt ?_
    refine Ret_r (rs_t (n := 4) (v := v₈) rfl (rs_t (n := 5) (v := .i .i64 0) rfl rs_nil)) ?_
    have hp := Option.some.inj hp; subst hp
    exact (Exists.intro v₈ (And.intro rfl (hO₁₄.pick [0] rfl (by decide))))

theorem p_slices_Clone_api_Arc.ok {h : Hp} {s : List T_api_Arc} {v_s : V} (s_s : Sl e_T_api_Arc h v_s s) {r : List T_api_Arc} (hp : p_slices_Clone_api_Arc s = some r) :
    ∃ u k', Is G 114 [v_s] h u k' ∧ ∃ (v : V), v = u ∧ Own (fun r => r < h.n) h k' [eSl e_T_api_Arc v r] := by
  refine WC.is (WC_of G_F_slices_Clone_api_Arc ?_)
  obtain ⟨c1, hp⟩ := ck_some hp
  have hp := Option.some.inj hp; subst hp
  have hO : Own (fun r => r < h.n) h h [] := Own.start0 h
  refine W_sq ?_
  refine W_rg ?_
  refine WO_v (a_mv (v := .sn) rfl) ?_
  refine WO_end ?_
  refine then_n ?_
  refine W_sq ?_
  refine W_sq ?_
  refine W_rg ?_
  refine WO_v (a_mv (v := v_s) rfl) ?_
  rcases sl_nil s_s with ⟨rfl, rfl⟩ | hn
  · refine WO_v (v := .b true) rfl ?_
    refine WO_end ?_
    refine then_n ?_
    refine W_cT (t := true) rfl rfl ?_
    refine W_sq ?_
    refine W_rg ?_
    refine WO_v (a_mv (v := .sn) rfl) ?_
    refine WO_end ?_
    refine then_n ?_
    refine W_rt ?_
    refine then_r ?_
    refine Ret_r (rs_t (n := 2) (v := .sn) rfl rs_nil) ?_
    exact ⟨.sn, rfl, hO.nil e_T_api_Arc⟩
  · refine WO_v (a_eqS (v := v_s) hn rfl rfl) ?_
    refine WO_end ?_
    refine then_n ?_
    refine W_cF (t := false) rfl rfl ?_
    refine W_sk ?_
    refine then_n ?_
    refine W_sq ?_
    refine W_rg ?_
    refine WO_x (hO.bsl (E := e_T_api_Arc) (l := []) hO.fr rfl rfl) ?_
    rintro v1 k1 ⟨r1, f1, hW⟩
    have hO1 : Own (fun r => r < h.n) h k1 [eSl e_T_api_Arc v1 []] := hW
    refine WO_v (a_mv (v := v_s) rfl) ?_
    refine WO_x (hO1.app (E := e_T_api_Arc) (bytes := 24) 0 hO1.fr rfl (hO1.rd0 s_s.rd : Sl e_T_api_Arc k1 v_s s) rfl rfl (fun _ => rfl) (by simpa using c1) (by decide)) ?_
    rintro v2 k2 ⟨f2, hW⟩
    have hO2 : Own (fun r => r < h.n) h k2 [eSl e_T_api_Arc v2 ([] ++ s)] := hW
    refine WO_v (a_mv (v := v2) rfl) ?_
    refine WO_end ?_
    refine then_n ?_
    refine W_rt ?_
    refine Ret_r (rs_t (n := 2) (v := v2) rfl rs_nil) ?_
    exact ⟨v2, rfl, hO2⟩

theorem p_slices_Equal_int.ok {h : Hp} {s1 : List Int} {s2 : List Int} {v_s1 : V} {v_s2 : V} (s_s1 : Sl eInt h v_s1 s1) (s_s2 : Sl eInt h v_s2 s2) {r : Bool} (hp : p_slices_Equal_int s1 s2 = some r) :
    ∃ u k', Is G 33 [v_s1, v_s2] h u k' ∧ V.b r = u ∧ Own (fun r => r < h.n) h k' [] := by
  refine WC.is (WC_of G_F_slices_Equal_int ?_)
  unfold p_slices_Equal_int at hp
  let B : Nat → Prop := (fun r => r < h.n)
  have hO : Own B h h [] := Own.start0 h
  refine W_sq ?_
  refine W_rg ?_
  refine WO_v (a_mv (v := .b false) rfl) ?_
  refine WO_end ?_
  refine then_n ?_
  refine W_sq ?_
  refine W_sq ?_
  refine W_rg ?_
  refine WO_v (a_mv (v := v_s1) rfl) ?_
  refine WO_v (a_len (hO.rd0 s_s1.rd : Sl eInt h v_s1 s1) rfl) ?_
  refine WO_v (a_mv (v := v_s2) rfl) ?_
  refine WO_v (a_len (hO.rd0 s_s2.rd : Sl eInt h v_s2 s2) rfl) ?_
  refine WO_v (a_neI (a := (s1.length : Int)) (b := (s2.length : Int)) rfl rfl) ?_
  refine WO_end ?_
  refine then_n ?_
  rcases if_some hp with ⟨b₁, hp⟩ | ⟨b₁, hp⟩
  · refine W_cT (t := (!(decide ((s1.length : Int) = (s2.length : Int))))) rfl b₁ ?_
    refine W_sq ?_
    refine W_rg ?_
    refine WO_v (a_mv (v := .b false) rfl) ?_
    refine WO_end ?_
    refine then_n ?_
    refine W_rt ?_
    refine then_r ?_
    refine Ret_r (rs_t (n := 4) (v := .b false) rfl rs_nil) ?_
    have hp := Option.some.inj hp; subst hp
    exact (And.intro rfl (hO.pick [] rfl (by decide)))
  · refine W_cF (t := (!(decide ((s1.length : Int) = (s2.length : Int))))) rfl b₁ ?_
    refine W_sk ?_
    refine then_n ?_
    refine W_sq ?_
    refine W_sq ?_
    refine W_rg ?_
    refine WO_v (a_mv (v := v_s1) rfl) ?_
    refine WO_v (a_len (hO.rd0 s_s1.rd : Sl eInt h v_s1 s1) rfl) ?_
    refine WO_v (a_mv (v := .i .i64 0) rfl) ?_
    refine WO_end ?_
    refine then_n ?_
    refine W_bl ?_
    obtain ⟨o₁, ho₁, hp⟩ := bd_some hp
    refine W.mono (Q := fun e fr k => match (generalizing := false) o₁ with
        | .inl _ => e = (.exit 0) ∧ Own B h k []
        | .inr _ => e = .ret ∧ fr 4 = .b false ∧ Own B h k []) ?_ ?_
    · clear hp
      refine W_loopF (fun st fr k => match st with | x => fr 0 = v_s1 ∧ fr 1 = v_s2 ∧ fr 12 = .i .i64 (s1.length : Int) ∧ fr 13 = .i .i64 x ∧ Own B h k []) ho₁ (s := 0) (And.intro (rfl) (And.intro (rfl) (And.intro (rfl) (And.intro (rfl) (hO.pick [] rfl (by decide)))))) ?_
      rintro x q₂ k₂ ⟨q₂_0, q₂_1, q₂_12, q₂_13, hO₂⟩ o₂ hp
      dsimp only [p_slices_Equal_int.s0] at hp
      refine W_sq ?_
      refine W_rg ?_
      refine WO_v (a_lss (a := x) (b := (s1.length : Int)) q₂_13 q₂_12) ?_
      refine WO_end ?_
      refine then_n ?_
      refine W_sq ?_
      rcases if_some hp with ⟨b₂, hp⟩ | ⟨b₂, hp⟩
      · refine W_cT (t := (decide (x < (s1.length : Int)))) rfl b₂ ?_
        refine W_sk ?_
        refine then_n ?_
        refine W_sq ?_
        refine W_bl ?_
        refine W_sq ?_
        refine W_rg ?_
        refine WO_v (a_mv (v := .i .i64 x) q₂_13) ?_
        refine WO_v (a_mv (v := .i .i64 x) rfl) ?_
        refine WO_end ?_
        refine then_n ?_
        refine W_sq ?_
        refine W_qd ?_
        have hW := hO₂.bump 9
        have hO₃ : Own B h (k₂.bump 9) [] := hW
        refine WQ_v rfl (a_mv (v := v_s1) q₂_0) ?_
        refine WQ_v rfl (a_mv (v := .i .i64 x) rfl) ?_
        obtain ⟨c₁, hp⟩ := ck_some hp
        refine WQ_v rfl (a_ixa (E := eInt) (z := x) (hO₃.rd0 s_s1.rd : Sl eInt (k₂.bump 9) v_s1 s1) rfl rfl c₁) ?_
        refine WQ_v rfl (a_ldE (w := .i .i64 (gi s1 (x : Int).toNat)) (hO₃.rd0 s_s1.rd : Sl eInt (k₂.bump 9) v_s1 s1) rfl (toNat_lt c₁) rfl) ?_
        refine WQ_v rfl (a_mv (v := v_s2) q₂_1) ?_
        refine WQ_v rfl (a_mv (v := .i .i64 x) rfl) ?_
        obtain ⟨c₂, hp⟩ := ck_some hp
        refine WQ_v rfl (a_ixa (E := eInt) (z := x) (hO₃.rd0 s_s2.rd : Sl eInt (k₂.bump 9) v_s2 s2) rfl rfl c₂) ?_
        refine WQ_v rfl (a_ldE (w := .i .i64 (gi s2 (x : Int).toNat)) (hO₃.rd0 s_s2.rd : Sl eInt (k₂.bump 9) v_s2 s2) rfl (toNat_lt c₂) rfl) ?_
        refine WQ_v rfl (a_neI (a := (gi s1 (x : Int).toNat)) (b := (gi s2 (x : Int).toNat)) rfl rfl) ?_
        refine WQ_end ?_
        refine then_n ?_
        rcases if_some hp with ⟨b₃, hp⟩ | ⟨b₃, hp⟩
        · refine W_cT (t := (!(decide (gi s1 (x : Int).toNat = gi s2 (x : Int).toNat)))) rfl b₃ ?_
          refine W_sq ?_
          refine W_rg ?_
          refine WO_v (a_mv (v := .b false) rfl) ?_
          refine WO_end ?_
          refine then_n ?_
          refine W_rt ?_
          refine blk_r ?_
          refine then_r ?_
          have hp := Option.some.inj hp; subst hp
          refine (Or.inr (Exists.intro (.inr ()) (And.intro rfl (And.intro (fun h => nomatch h) (fun he => ?_)))))
          subst he; exact (And.intro rfl (And.intro (rfl) (hO₃.pick [] rfl (by decide))))
        · refine W_cF (t := (!(decide (gi s1 (x : Int).toNat = gi s2 (x : Int).toNat)))) rfl b₃ ?_
          refine W_sk ?_
          refine blk_n ?_
          refine then_n ?_
          refine W_rg ?_
          obtain ⟨c₃, hp⟩ := ck_some hp
          refine WO_v (a_add (a := x) (b := 1) q₂_13 rfl c₃) ?_
          refine WO_v (a_mv (v := .i .i64 (x + 1)) rfl) ?_
          refine WO_end ?_
          have hp := Option.some.inj hp; subst hp
          exact (Or.inl (Exists.intro (x + 1) (And.intro rfl (And.intro rfl (And.intro (q₂_0) (And.intro (q₂_1) (And.intro (q₂_12) (And.intro (rfl) (hO₃.pick [] rfl (by decide))))))))))
      · refine W_cF (t := (decide (x < (s1.length : Int)))) rfl b₂ ?_
        refine W_ex ?_
        refine then_e ?_
        have hp := Option.some.inj hp; subst hp
        refine (Or.inr (Exists.intro (.inl ()) (And.intro rfl (And.intro (fun h => nomatch h) (fun he => ?_)))))
        subst he; exact (And.intro rfl (hO₂.pick [] rfl (by decide)))
    intro e₁ q₁ k₁ hJ₁
    rcases o₁ with _ | _
    · obtain ⟨rfl, hO₁⟩ := hJ₁
      refine blk_i ?_
      refine then_n ?_
      refine W_sq ?_
      refine W_rg ?_
      refine WO_v (a_mv (v := .b true) rfl) ?_
      refine WO_end ?_
      refine then_n ?_
      refine W_rt ?_
      refine Ret_r (rs_t (n := 4) (v := .b true) rfl rs_nil) ?_
      have hp := Option.some.inj hp; subst hp
      exact (And.intro rfl (hO₁.pick [] rfl (by decide)))
    · obtain ⟨rfl, q₁_4, hO₁⟩ := hJ₁
      refine blk_r ?_
      refine then_r ?_
      refine Ret_r (rs_t (n := 4) (v := .b false) q₁_4 rs_nil) ?_
      have hp := Option.some.inj hp; subst hp
      exact (And.intro rfl (hO₁.pick [] rfl (by decide)))

theorem p_slices_Max_int.ok {h : Hp} {x : List Int} {v_x : V} (s_x : Sl eInt h v_x x) {r : Int} (hp : p_slices_Max_int x = some r) :
    ∃ u k', Is G 70 [v_x] h u k' ∧ V.i .i64 r = u ∧ Own (fun r => r < h.n) h k' [] := by
  refine WC.is (WC_of G_F_slices_Max_int ?_)
  unfold p_slices_Max_int at hp
  let B : Nat → Prop := (fun r => r < h.n)
  have hO : Own B h h [] := Own.start0 h
  refine W_sq ?_
  refine W_rg ?_
  refine WO_v (a_mv (v := .i .i64 0) rfl) ?_
  refine WO_end ?_
  refine then_n ?_
  refine W_sq ?_
  refine W_sq ?_
  refine W_rg ?_
  refine WO_v (a_mv (v := v_x) rfl) ?_
  refine WO_v (a_len (hO.rd0 s_x.rd : Sl eInt h v_x x) rfl) ?_
  refine WO_v (a_lss (a := (x.length : Int)) (b := 1) rfl rfl) ?_
  refine WO_end ?_
  refine then_n ?_
  obtain ⟨o₁, ho₁, hp⟩ := bd_some hp
  refine W.mono (Q := fun e fr k => match (generalizing := false) o₁ with
      | _ => e = .normal ∧ fr 0 = v_x ∧ Own B h k []) ?_ ?_
  · clear hp; have hp := ho₁; clear ho₁
    rcases if_some hp with ⟨b₁, hp⟩ | ⟨b₁, hp⟩
    · refine W_cT (t := (decide ((x.length : Int) < 1))) rfl b₁ ?_
      exact nomatch hp
    · refine W_cF (t := (decide ((x.length : Int) < 1))) rfl b₁ ?_
      refine W_sk ?_
      have hp := Option.some.inj hp; subst hp
      exact (And.intro rfl (And.intro (rfl) (hO.pick [] rfl (by decide))))
  intro e₁ q₁ k₁ hJ₁
  obtain ⟨rfl, q₁_0, hO₁⟩ := hJ₁
  refine then_n ?_
  refine W_sq ?_
  refine W_rg ?_
  refine WO_v (a_mv (v := v_x) q₁_0) ?_
  obtain ⟨c₁, hp⟩ := ck_some hp
  refine WO_v (a_ixa (E := eInt) (z := 0) (hO₁.rd0 s_x.rd : Sl eInt k₁ v_x x) rfl rfl c₁) ?_
  refine WO_v (a_ldE (w := .i .i64 (gi x (0 : Int).toNat)) (hO₁.rd0 s_x.rd : Sl eInt k₁ v_x x) rfl (toNat_lt c₁) rfl) ?_
  refine WO_v (a_mv (v := .i .i64 (gi x (0 : Int).toNat)) rfl) ?_
  refine WO_end ?_
  refine then_n ?_
  refine W_sq ?_
  refine W_sq ?_
  refine W_rg ?_
  refine WO_v (a_mv (v := .i .i64 1) rfl) ?_
  refine WO_end ?_
  refine then_n ?_
  refine W_bl ?_
  obtain ⟨o₂, ho₂, hp⟩ := bd_some hp
  refine W.mono (Q := fun e fr k => match (generalizing := false) o₂ with
      | m1 => e = (.exit 0) ∧ fr 3 = .i .i64 m1 ∧ Own B h k []) ?_ ?_
  · clear hp
    refine W_loopF (fun st fr k => match st with | (m, i) => fr 0 = v_x ∧ fr 3 = .i .i64 m ∧ fr 4 = .i .i64 i ∧ Own B h k []) ho₂ (s := (gi x (0 : Int).toNat, 1)) (And.intro (q₁_0) (And.intro (rfl) (And.intro (rfl) (hO₁.pick [] rfl (by decide))))) ?_
    rintro ⟨m, i⟩ q₃ k₃ ⟨q₃_0, q₃_3, q₃_4, hO₃⟩ o₃ hp
    dsimp only [p_slices_Max_int.s0] at hp
    refine W_sq ?_
    refine W_sq ?_
    refine W_rg ?_
    refine WO_v (a_mv (v := .i .i64 i) q₃_4) ?_
    refine WO_v (a_mv (v := v_x) q₃_0) ?_
    refine WO_v (a_len (hO₃.rd0 s_x.rd : Sl eInt k₃ v_x x) rfl) ?_
    refine WO_v (a_lss (a := i) (b := (x.length : Int)) rfl rfl) ?_
    refine WO_end ?_
    refine then_n ?_
    rcases if_some hp with ⟨b₂, hp⟩ | ⟨b₂, hp⟩
    · refine W_cT (t := (decide (i < (x.length : Int)))) rfl b₂ ?_
      refine W_sk ?_
      refine then_n ?_
      refine W_sq ?_
      refine W_bl ?_
      refine W_rg ?_
      refine WO_v (a_mv (v := .i .i64 m) q₃_3) ?_
      refine WO_v (a_mv (v := v_x) q₃_0) ?_
      refine WO_v (a_mv (v := .i .i64 i) q₃_4) ?_
      obtain ⟨c₂, hp⟩ := ck_some hp
      refine WO_v (a_ixa (E := eInt) (z := i) (hO₃.rd0 s_x.rd : Sl eInt k₃ v_x x) rfl rfl c₂) ?_
      refine WO_v (a_ldE (w := .i .i64 (gi x (i : Int).toNat)) (hO₃.rd0 s_x.rd : Sl eInt k₃ v_x x) rfl (toNat_lt c₂) rfl) ?_
      refine WO_v (a_mx (a := m) (b := (gi x (i : Int).toNat)) rfl rfl) ?_
      refine WO_v (a_mv (v := .i .i64 (max m (gi x (i : Int).toNat))) rfl) ?_
      refine WO_end ?_
      refine blk_n ?_
      refine then_n ?_
      refine W_rg ?_
      refine WO_v (a_mv (v := .i .i64 i) q₃_4) ?_
      obtain ⟨c₃, hp⟩ := ck_some hp
      refine WO_v (a_add (a := i) (b := 1) rfl rfl c₃) ?_
      refine WO_v (a_mv (v := .i .i64 (i + 1)) rfl) ?_
      refine WO_end ?_
      have hp := Option.some.inj hp; subst hp
      exact (Or.inl (Exists.intro (max m (gi x (i : Int).toNat), i + 1) (And.intro rfl (And.intro rfl (And.intro (q₃_0) (And.intro (rfl) (And.intro (rfl) (hO₃.pick [] rfl (by decide)))))))))
    · refine W_cF (t := (decide (i < (x.length : Int)))) rfl b₂ ?_
      refine W_ex ?_
      refine then_e ?_
      have hp := Option.some.inj hp; subst hp
      refine (Or.inr (Exists.intro m (And.intro rfl (And.intro (fun h => nomatch h) (fun he => ?_)))))
      subst he; exact (And.intro rfl (And.intro (q₃_3) (hO₃.pick [] rfl (by decide))))
  intro e₂ q₂ k₂ hJ₂
  obtain ⟨m1, rfl⟩ : ∃ x, x = o₂ := ⟨_, rfl⟩
  obtain ⟨rfl, q₂_3, hO₂⟩ := hJ₂
  refine blk_i ?_
  refine then_n ?_
  refine W_sq ?_
  refine W_rg ?_
  refine WO_v (a_mv (v := .i .i64 m1) q₂_3) ?_
  refine WO_v (a_mv (v := .i .i64 m1) rfl) ?_
  refine WO_end ?_
  refine then_n ?_
  refine W_rt ?_
  refine Ret_r (rs_t (n := 2) (v := .i .i64 m1) rfl rs_nil) ?_
  have hp := Option.some.inj hp; subst hp
  exact (And.intro rfl (hO₂.pick [] rfl (by decide)))

theorem p_slices_Min_int.ok {h : Hp} {x : List Int} {v_x : V} (s_x : Sl eInt h v_x x) {r : Int} (hp : p_slices_Min_int x = some r) :
    ∃ u k', Is G 71 [v_x] h u k' ∧ V.i .i64 r = u ∧ Own (fun r => r < h.n) h k' [] := by
  refine WC.is (WC_of G_F_slices_Min_int ?_)
  unfold p_slices_Min_int at hp
  let B : Nat → Prop := (fun r => r < h.n)
  have hO : Own B h h [] := Own.start0 h
  refine W_sq ?_
  refine W_rg ?_
  refine WO_v (a_mv (v := .i .i64 0) rfl) ?_
  refine WO_end ?_
  refine then_n ?_
  refine W_sq ?_
  refine W_sq ?_
  refine W_rg ?_
  refine WO_v (a_mv (v := v_x) rfl) ?_
  refine WO_v (a_len (hO.rd0 s_x.rd : Sl eInt h v_x x) rfl) ?_
  refine WO_v (a_lss (a := (x.length : Int)) (b := 1) rfl rfl) ?_
  refine WO_end ?_
  refine then_n ?_
  obtain ⟨o₁, ho₁, hp⟩ := bd_some hp
  refine W.mono (Q := fun e fr k => match (generalizing := false) o₁ with
      | _ => e = .normal ∧ fr 0 = v_x ∧ Own B h k []) ?_ ?_
  · clear hp; have hp := ho₁; clear ho₁
    rcases if_some hp with ⟨b₁, hp⟩ | ⟨b₁, hp⟩
    · refine W_cT (t := (decide ((x.length : Int) < 1))) rfl b₁ ?_
      exact nomatch hp
    · refine W_cF (t := (decide ((x.length : Int) < 1))) rfl b₁ ?_
      refine W_sk ?_
      have hp := Option.some.inj hp; subst hp
      exact (And.intro rfl (And.intro (rfl) (hO.pick [] rfl (by decide))))
  intro e₁ q₁ k₁ hJ₁
  obtain ⟨rfl, q₁_0, hO₁⟩ := hJ₁
  refine then_n ?_
  refine W_sq ?_
  refine W_rg ?_
  refine WO_v (a_mv (v := v_x) q₁_0) ?_
  obtain ⟨c₁, hp⟩ := ck_some hp
  refine WO_v (a_ixa (E := eInt) (z := 0) (hO₁.rd0 s_x.rd : Sl eInt k₁ v_x x) rfl rfl c₁) ?_
  refine WO_v (a_ldE (w := .i .i64 (gi x (0 : Int).toNat)) (hO₁.rd0 s_x.rd : Sl eInt k₁ v_x x) rfl (toNat_lt c₁) rfl) ?_
  refine WO_v (a_mv (v := .i .i64 (gi x (0 : Int).toNat)) rfl) ?_
  refine WO_end ?_
  refine then_n ?_
  refine W_sq ?_
  refine W_sq ?_
  refine W_rg ?_
  refine WO_v (a_mv (v := .i .i64 1) rfl) ?_
  refine WO_end ?_
  refine then_n ?_
  refine W_bl ?_
  obtain ⟨o₂, ho₂, hp⟩ := bd_some hp
  refine W.mono (Q := fun e fr k => match (generalizing := false) o₂ with
      | m1 => e = (.exit 0) ∧ fr 3 = .i .i64 m1 ∧ Own B h k []) ?_ ?_
  · clear hp
    refine W_loopF (fun st fr k => match st with | (m, i) => fr 0 = v_x ∧ fr 3 = .i .i64 m ∧ fr 4 = .i .i64 i ∧ Own B h k []) ho₂ (s := (gi x (0 : Int).toNat, 1)) (And.intro (q₁_0) (And.intro (rfl) (And.intro (rfl) (hO₁.pick [] rfl (by decide))))) ?_
    rintro ⟨m, i⟩ q₃ k₃ ⟨q₃_0, q₃_3, q₃_4, hO₃⟩ o₃ hp
    dsimp only [p_slices_Min_int.s0] at hp
    refine W_sq ?_
    refine W_sq ?_
    refine W_rg ?_
    refine WO_v (a_mv (v := .i .i64 i) q₃_4) ?_
    refine WO_v (a_mv (v := v_x) q₃_0) ?_
    refine WO_v (a_len (hO₃.rd0 s_x.rd : Sl eInt k₃ v_x x) rfl) ?_
    refine WO_v (a_lss (a := i) (b := (x.length : Int)) rfl rfl) ?_
    refine WO_end ?_
    refine then_n ?_
    rcases if_some hp with ⟨b₂, hp⟩ | ⟨b₂, hp⟩
    · refine W_cT (t := (decide (i < (x.length : Int)))) rfl b₂ ?_
      refine W_sk ?_
      refine then_n ?_
      refine W_sq ?_
      refine W_bl ?_
      refine W_rg ?_
      refine WO_v (a_mv (v := .i .i64 m) q₃_3) ?_
      refine WO_v (a_mv (v := v_x) q₃_0) ?_
      refine WO_v (a_mv (v := .i .i64 i) q₃_4) ?_
      obtain ⟨c₂, hp⟩ := ck_some hp
      refine WO_v (a_ixa (E := eInt) (z := i) (hO₃.rd0 s_x.rd : Sl eInt k₃ v_x x) rfl rfl c₂) ?_
      refine WO_v (a_ldE (w := .i .i64 (gi x (i : Int).toNat)) (hO₃.rd0 s_x.rd : Sl eInt k₃ v_x x) rfl (toNat_lt c₂) rfl) ?_
      refine WO_v (a_mn (a := m) (b := (gi x (i : Int).toNat)) rfl rfl) ?_
      refine WO_v (a_mv (v := .i .i64 (min m (gi x (i : Int).toNat))) rfl) ?_
      refine WO_end ?_
      refine blk_n ?_
      refine then_n ?_
      refine W_rg ?_
      refine WO_v (a_mv (v := .i .i64 i) q₃_4) ?_
      obtain ⟨c₃, hp⟩ := ck_some hp
      refine WO_v (a_add (a := i) (b := 1) rfl rfl c₃) ?_
      refine WO_v (a_mv (v := .i .i64 (i + 1)) rfl) ?_
      refine WO_end ?_
      have hp := Option.some.inj hp; subst hp
      exact (Or.inl (Exists.intro (min m (gi x (i : Int).toNat), i + 1) (And.intro rfl (And.intro rfl (And.intro (q₃_0) (And.intro (rfl) (And.intro (rfl) (hO₃.pick [] rfl (by decide)))))))))
    · refine W_cF (t := (decide (i < (x.length : Int)))) rfl b₂ ?_
      refine W_ex ?_
      refine then_e ?_
      have hp := Option.some.inj hp; subst hp
      refine (Or.inr (Exists.intro m (And.intro rfl (And.intro (fun h => nomatch h) (fun he => ?_)))))
      subst he; exact (And.intro rfl (And.intro (q₃_3) (hO₃.pick [] rfl (by decide))))
  intro e₂ q₂ k₂ hJ₂
  obtain ⟨m1, rfl⟩ : ∃ x, x = o₂ := ⟨_, rfl⟩
  obtain ⟨rfl, q₂_3, hO₂⟩ := hJ₂
  refine blk_i ?_
  refine then_n ?_
  refine W_sq ?_
  refine W_rg ?_
  refine WO_v (a_mv (v := .i .i64 m1) q₂_3) ?_
  refine WO_v (a_mv (v := .i .i64 m1) rfl) ?_
  refine WO_end ?_
  refine then_n ?_
  refine W_rt ?_
  refine Ret_r (rs_t (n := 2) (v := .i .i64 m1) rfl rs_nil) ?_
  have hp := Option.some.inj hp; subst hp
  exact (And.intro rfl (hO₂.pick [] rfl (by decide)))

theorem p_layer_Span.ok {h : Hp} {x : List Int} {v_x : V} (s_x : Sl eInt h v_x x) {r : Int} (hp : p_layer_Span x = some r) :
    ∃ u k', Is G 41 [v_x] h u k' ∧ V.i .i64 r = u ∧ Own (fun r => r < h.n) h k' [] := by
  refine WC.is (WC_of G_F_layer_Span ?_)
  unfold p_layer_Span at hp
  let B : Nat → Prop := (fun r => r < h.n)
  have hO : Own B h h [] := Own.start0 h
  refine W_sq ?_
  refine W_rg ?_
  refine WO_v (a_mv (v := .i .i64 0) rfl) ?_
  refine WO_end ?_
  refine then_n ?_
  refine W_sq ?_
  refine W_sq ?_
  refine W_rg ?_
  refine WO_v (a_mv (v := v_x) rfl) ?_
  refine WO_v (a_len (hO.rd0 s_x.rd : Sl eInt h v_x x) rfl) ?_
  refine WO_v (a_eqI (a := (x.length : Int)) (b := 0) rfl rfl) ?_
  refine WO_end ?_
  refine then_n ?_
  rcases if_some hp with ⟨b₁, hp⟩ | ⟨b₁, hp⟩
  · refine W_cT (t := (decide ((x.length : Int) = 0))) rfl b₁ ?_
    refine W_sq ?_
    refine W_rg ?_
    refine WO_v (a_mv (v := .i .i64 0) rfl) ?_
    refine WO_end ?_
    refine then_n ?_
    refine W_rt ?_
    refine then_r ?_
    refine Ret_r (rs_t (n := 2) (v := .i .i64 0) rfl rs_nil) ?_
    have hp := Option.some.inj hp; subst hp
    exact (And.intro rfl (hO.pick [] rfl (by decide)))
  · refine W_cF (t := (decide ((x.length : Int) = 0))) rfl b₁ ?_
    refine W_sk ?_
    refine then_n ?_
    refine W_sq ?_
    refine W_rg ?_
    refine WO_v (a_mv (v := v_x) rfl) ?_
    obtain ⟨x1, hx₁, hp⟩ := bd_some hp
    obtain ⟨u₁, k₁, ca₁, rfl, hW₁⟩ := p_slices_Max_int.ok (h := h)  (hO.rd0 s_x.rd : Sl eInt h v_x x) hx₁
    refine WO_c (id := 70) (caps := []) rfl (mp_cons (v := v_x) rfl mp_nil) ca₁ ?_
    have hO₁ : Own B h k₁ [] := hO.call hW₁ rfl
    refine WO_v (a_mv (v := v_x) rfl) ?_
    obtain ⟨x2, hx₂, hp⟩ := bd_some hp
    obtain ⟨u₂, k₂, ca₂, rfl, hW₂⟩ := p_slices_Min_int.ok (h := k₁)  (hO₁.rd0 s_x.rd : Sl eInt k₁ v_x x) hx₂
    refine WO_c (id := 71) (caps := []) rfl (mp_cons (v := v_x) rfl mp_nil) ca₂ ?_
    have hO₂ : Own B h k₂ [] := hO₁.call hW₂ rfl
    obtain ⟨c₁, hp⟩ := ck_some hp
    refine WO_v (a_sub (a := x1) (b := x2) rfl rfl c₁) ?_
    refine WO_v (a_mv (v := .i .i64 (x1 - x2)) rfl) ?_
    refine WO_end ?_
    refine then_n ?_
    refine W_rt ?_
    refine Ret_r (rs_t (n := 2) (v := .i .i64 (x1 - x2)) rfl rs_nil) ?_
    have hp := Option.some.inj hp; subst hp
    exact (And.intro rfl (hO₂.pick [] rfl (by decide)))

end Mu
