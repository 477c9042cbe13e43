/- The code comes to what was worked out. -/
import Derived.Test.YtofdeafffbkgbaaMuDf
import Derived.Test.YtofdeafffbkgbaaMuPa
import Derived.Test.YtofdeafffbkgbaaMuC0
set_option linter.unusedVariables false
set_option linter.unnecessarySimpa false
set_option linter.unusedSimpArgs false
set_option maxHeartbeats 2000000
set_option maxRecDepth 10000
namespace Mu
open Go (IntKind BinOp UnOp)
theorem p_slices_Repeat_int.ok {h : Hp} {x : List Int} {count : Int} {v_x : V} (s_x : Sl eInt h v_x x) {r : (List Int)} (hp : p_slices_Repeat_int x count = some r) :
    ∃ u k', Is G 83 [v_x, .i .i64 count] h u k' ∧ ∃ (v₁ : V), v₁ = u ∧ Own (fun r => r < h.n) h k' [eSl eInt v₁ r] := by
  refine WC.is (WC_of G_F_slices_Repeat_int ?_)
  unfold p_slices_Repeat_int at hp
  let B : Nat → Prop := (fun r => r < h.n)
  have hO : Own B h h [] := Own.start0 h
  refine W_sq ?_
  refine W_rg ?_
  refine WO_v (a_mv (v := .sn) rfl) ?_
  refine WO_end ?_
  refine then_n ?_
  refine W_sq ?_
  refine W_sq ?_
  refine W_rg ?_
  refine WO_v (a_mv (v := .i .i64 count) rfl) ?_
  refine WO_v (a_lss (a := count) (b := 0) rfl rfl) ?_
  refine WO_end ?_
  refine then_n ?_
  obtain ⟨o₁, ho₁, hp⟩ := bd_some hp
  refine W.mono (Q := fun e fr k => match (generalizing := false) o₁ with
      | _ => e = .normal ∧ fr 0 = v_x ∧ fr 1 = .i .i64 count ∧ Own B h k []) ?_ ?_
  · clear hp; have hp := ho₁; clear ho₁
    rcases if_some hp with ⟨b₁, hp⟩ | ⟨b₁, hp⟩
    · refine W_cT (t := (decide (count < 0))) rfl b₁ ?_
      exact nomatch hp
    · refine W_cF (t := (decide (count < 0))) rfl b₁ ?_
      refine W_sk ?_
      have hp := Option.some.inj hp; subst hp
      exact (And.intro rfl (And.intro (rfl) (And.intro (rfl) (hO.pick [] rfl (by decide)))))
  intro e₁ q₁ k₁ hJ₁
  obtain ⟨rfl, q₁_0, q₁_1, hO₁⟩ := hJ₁
  refine then_n ?_
  refine W_sq ?_
  refine W_rg ?_
  refine WO_v (a_mv (v := v_x) q₁_0) ?_
  refine WO_v (a_len (hO₁.rd0 s_x.rd : Sl eInt k₁ v_x x) rfl) ?_
  obtain ⟨c₁, hp⟩ := ck_some hp
  refine WO_v (a_conv (a := (x.length : Int)) rfl c₁) ?_
  refine WO_v (a_mv (v := .i .i64 count) q₁_1) ?_
  obtain ⟨c₂, hp⟩ := ck_some hp
  refine WO_v (a_conv (a := count) rfl c₂) ?_
  obtain ⟨⟨x1, x2⟩, hx₁, hp⟩ := bd_some hp
  obtain ⟨u₁, k₂, ca₁, rfl, hW₁⟩ := p_bits_Mul.ok (h := k₁)   hx₁
  refine WO_c (id := 89) (caps := []) rfl (mp_cons (v := .i .u64 (x.length : Int)) rfl (mp_cons (v := .i .u64 count) rfl mp_nil)) ca₁ ?_
  have hO₂ : Own B h k₂ [] := hO₁.call hW₁ rfl
  refine WO_v (a_mv (v := .tu [.i .u64 x1, .i .u64 x2]) rfl) ?_
  refine WO_v (a_ext (vs := [.i .u64 x1, .i .u64 x2]) (v := .i .u64 x1) rfl rfl) ?_
  refine WO_v (a_ext (vs := [.i .u64 x1, .i .u64 x2]) (v := .i .u64 x2) rfl rfl) ?_
  refine WO_v (a_mv (v := .i .u64 x1) rfl) ?_
  refine WO_v (a_mv (v := .i .u64 x2) rfl) ?_
  refine WO_end ?_
  refine then_n ?_
  refine W_sq ?_
  refine W_sq ?_
  refine W_rg ?_
  refine WO_v (a_mv (v := .i .u64 x1) rfl) ?_
  refine WO_v (a_gtr (a := x1) (b := 0) rfl rfl) ?_
  refine WO_v (a_mv (v := .b (decide (0 < x1))) rfl) ?_
  refine WO_cut 3 (fun fr' k' => k₂ = k' ∧ fr' 26 = .b ((decide (0 < x1)) || (decide (9223372036854775807 < x2))) ∧ fr' 0 = v_x ∧ fr' 6 = .i .u64 x2) ?_ ?_
  · rcases bc (decide (0 < x1)) with b₂ | b₂
    · skip
      refine WO_off rfl b₂ ?_
      refine WO_off rfl b₂ ?_
      refine WO_v (a_pickT (t := (decide (0 < x1))) (v := .b ((decide (0 < x1)) || (decide (9223372036854775807 < x2)))) rfl b₂ (Eq.trans (b := V.b true) rfl (or_off b₂))) ?_
      refine WO_end ?_
      exact ⟨rfl, rfl, q₁_0, rfl⟩
    · skip
      refine WO_on rfl b₂ ?_
      refine WO_v (a_mv (v := .i .u64 x2) rfl) ?_
      refine WO_on rfl b₂ ?_
      refine WO_v (a_gtr (a := x2) (b := 9223372036854775807) rfl rfl) ?_
      refine WO_v (a_pickF (t := (decide (0 < x1))) (v := .b ((decide (0 < x1)) || (decide (9223372036854775807 < x2)))) rfl b₂ (Eq.trans (b := V.b (decide (9223372036854775807 < x2))) rfl (or_on b₂))) ?_
      refine WO_end ?_
      exact ⟨rfl, rfl, q₁_0, rfl⟩
  rintro frg₁ _ ⟨rfl, g₁_26, g₁_0, g₁_6⟩
  refine WO_end ?_
  refine then_n ?_
  obtain ⟨o₂, ho₂, hp⟩ := bd_some hp
  refine W.mono (Q := fun e fr k => match (generalizing := false) o₂ with
      | _ => e = .normal ∧ fr 0 = v_x ∧ fr 6 = .i .u64 x2 ∧ Own B h k []) ?_ ?_
  · clear hp; have hp := ho₂; clear ho₂
    rcases if_some hp with ⟨b₃, hp⟩ | ⟨b₃, hp⟩
    · refine W_cT (t := ((decide (0 < x1)) || (decide (9223372036854775807 < x2)))) g₁_26 b₃ ?_
      exact nomatch hp
    · refine W_cF (t := ((decide (0 < x1)) || (decide (9223372036854775807 < x2)))) g₁_26 b₃ ?_
      refine W_sk ?_
      have hp := Option.some.inj hp; subst hp
      exact (And.intro rfl (And.intro (g₁_0) (And.intro (g₁_6) (hO₂.pick [] rfl (by decide)))))
  intro e₂ q₂ k₃ hJ₂
  obtain ⟨rfl, q₂_0, q₂_6, hO₃⟩ := hJ₂
  refine then_n ?_
  refine W_sq ?_
  refine W_rg ?_
  refine WO_v (a_mv (v := .i .u64 x2) q₂_6) ?_
  obtain ⟨c₃, hp⟩ := ck_some hp
  refine WO_v (a_conv (a := x2) rfl c₃) ?_
  obtain ⟨c₄, hp⟩ := ck_some hp
  refine WO_x (hO₃.mks (E := eInt) (y := (0 : Int)) (bytes := 8) (z := x2) hO₃.fr rfl rfl rfl c₄ (by decide)) ?_
  rintro v₂ k₄ ⟨r₁, f₁, hW⟩
  have hO₄ : Own B h k₄ [eSl eInt v₂ (List.replicate (x2 : Int).toNat (0 : Int))] := hW
  refine WO_v (a_mv (v := v₂) rfl) ?_
  refine WO_end ?_
  refine then_n ?_
  refine W_sq ?_
  refine W_rg ?_
  refine WO_v (a_mv (v := v₂) rfl) ?_
  refine WO_v (a_mv (v := v_x) q₂_0) ?_
  refine WO_x (hO₄.cpy (E := eInt) 0 rfl (hO₄.rd0 s_x.rd : Sl eInt k₄ v_x x) rfl rfl (fun _ => rfl)) ?_
  rintro _ k₅ ⟨rfl, f₂, hW⟩
  have hO₅ : Own B h k₅ [eSl eInt v₂ (x.take (List.replicate (x2 : Int).toNat (0 : Int)).length ++ (List.replicate (x2 : Int).toNat (0 : Int)).drop x.length)] := hW
  refine WO_v (a_mv (v := .i .i64 ((min x.length (List.replicate (x2 : Int).toNat (0 : Int)).length : Nat) : Int)) rfl) ?_
  refine WO_end ?_
  refine then_n ?_
  refine W_sq ?_
  refine W_bl ?_
  obtain ⟨o₃, ho₃, hp⟩ := bd_some hp
  refine W.mono (Q := fun e fr k => match (generalizing := false) o₃ with
      | newslice1 => e = (.exit 0) ∧ fr 7 = v₂ ∧ Own B h k [eSl eInt v₂ newslice1]) ?_ ?_
  · clear hp
    refine W_loopF (fun st fr k => match st with | (newslice, n) => fr 7 = v₂ ∧ fr 8 = .i .i64 n ∧ Own B h k [eSl eInt v₂ newslice]) ho₃ (s := (x.take (List.replicate (x2 : Int).toNat (0 : Int)).length ++ (List.replicate (x2 : Int).toNat (0 : Int)).drop x.length, ((min x.length (List.replicate (x2 : Int).toNat (0 : Int)).length : Nat) : Int))) (And.intro (rfl) (And.intro (rfl) (hO₅.pick [0] rfl (by decide)))) ?_
    rintro ⟨newslice, n⟩ q₄ k₇ ⟨q₄_7, q₄_8, hO₇⟩ o₄ hp
    dsimp only [p_slices_Repeat_int.s0] at hp
    refine W_sq ?_
    refine W_sq ?_
    refine W_rg ?_
    refine WO_v (a_mv (v := .i .i64 n) q₄_8) ?_
    refine WO_v (a_mv (v := v₂) q₄_7) ?_
    refine WO_v (a_len (hO₇.sl 0 rfl : Sl eInt k₇ v₂ newslice) rfl) ?_
    refine WO_v (a_lss (a := n) (b := (newslice.length : Int)) rfl rfl) ?_
    refine WO_end ?_
    refine then_n ?_
    rcases if_some hp with ⟨b₄, hp⟩ | ⟨b₄, hp⟩
    · refine W_cT (t := (decide (n < (newslice.length : Int)))) rfl b₄ ?_
      refine W_sk ?_
      refine then_n ?_
      refine W_bl ?_
      refine W_dr ?_
      have hW := hO₇.bump 10
      have fr₁ := Fresh.start k₇ 10
      have nb₁ : ∀ {i : Nat}, h.n ≤ k₇.n + i := Nat.le_trans hO₇.n (Nat.le_add_right _ _)
      have hO₈ : Own B h (k₇.bump 10) [eSl eInt v₂ newslice] := hW
      refine WD_v (a_mv (v := .i .i64 n) q₄_8) ?_
      refine WD_v (a_mv (v := v₂) q₄_7) ?_
      refine WD_v (a_mv (v := .i .i64 n) q₄_8) ?_
      obtain ⟨c₅, hp⟩ := ck_some hp
      refine WD_v (a_slcF (E := eInt) (z := n) (hO₈.sl 0 rfl : Sl eInt (k₇.bump 10) v₂ newslice) rfl rfl c₅) ?_
      refine WD_v (a_mv (v := v₂) q₄_7) ?_
      refine WD_v (a_mv (v := .i .i64 n) q₄_8) ?_
      refine WD_v (a_slcU (E := eInt) (z := n) (hO₈.sl 0 rfl : Sl eInt (k₇.bump 10) v₂ newslice) rfl rfl c₅) ?_
      refine WD_x (hO₈.cpyF (E := eInt) (z := n) 0 rfl c₅ (Sl.cutU (hO₈.sl 0 rfl : Sl eInt (k₇.bump 10) v₂ newslice) c₅ : Sl eInt (k₇.bump 10) (V.cut v₂ 0 (n : Int).toNat) (newslice.take (n : Int).toNat)) rfl rfl (fun _ => rfl)) ?_
      rintro _ k₉ z₁ ⟨rfl, f₃, hW⟩
      have fr₂ := fr₁.kept f₃ (by decide)
      have hO₉ : Own B h k₉ [eSl eInt v₂ (newslice.take (n : Int).toNat ++ ((newslice.take (n : Int).toNat).take (newslice.drop (n : Int).toNat).length ++ (newslice.drop (n : Int).toNat).drop (newslice.take (n : Int).toNat).length))] := hW
      obtain ⟨c₆, hp⟩ := ck_some hp
      refine WD_v (a_add (a := n) (b := ((min (newslice.take (n : Int).toNat).length (newslice.drop (n : Int).toNat).length : Nat) : Int)) rfl rfl c₆) ?_
      refine WD_v (a_mv (v := .i .i64 (n + ((min (newslice.take (n : Int).toNat).length (newslice.drop (n : Int).toNat).length : Nat) : Int))) rfl) ?_
      refine WD_end ?_
      refine And.intro ?_ ?_
      · intro q hq
        cases hq
      refine blk_n ?_
      have hp := Option.some.inj hp; subst hp
      exact (Or.inl (Exists.intro (newslice.take (n : Int).toNat ++ ((newslice.take (n : Int).toNat).take (newslice.drop (n : Int).toNat).length ++ (newslice.drop (n : Int).toNat).drop (newslice.take (n : Int).toNat).length), n + ((min (newslice.take (n : Int).toNat).length (newslice.drop (n : Int).toNat).length : Nat) : Int)) (And.intro rfl (And.intro rfl (And.intro (q₄_7) (And.intro (rfl) (hO₉.pick [0] rfl (by decide))))))))
    · refine W_cF (t := (decide (n < (newslice.length : Int)))) rfl b₄ ?_
      refine W_ex ?_
      refine then_e ?_
      have hp := Option.some.inj hp; subst hp
      refine (Or.inr (Exists.intro newslice (And.intro rfl (And.intro (fun h => nomatch h) (fun he => ?_)))))
      subst he; exact (And.intro rfl (And.intro (q₄_7) (hO₇.pick [0] rfl (by decide))))
  intro e₃ q₃ k₆ hJ₃
  obtain ⟨newslice1, rfl⟩ : ∃ x, x = o₃ := ⟨_, rfl⟩
  obtain ⟨rfl, q₃_7, hO₆⟩ := hJ₃
  refine blk_i ?_
  refine then_n ?_
  refine W_sq ?_
  refine W_rg ?_
  refine WO_v (a_mv (v := v₂) q₃_7) ?_
  refine WO_v (a_mv (v := v₂) rfl) ?_
  refine WO_end ?_
  refine then_n ?_
  refine W_rt ?_
  refine Ret_r (rs_t (n := 4) (v := v₂) rfl rs_nil) ?_
  have hp := Option.some.inj hp; subst hp
  exact (Exists.intro v₂ (And.intro rfl (hO₆.pick [0] rfl (by decide))))

theorem p_join_spread.ok {h : Hp} {cells : List T_api_Cell} {v : Int} {v_cells : V} (s_cells : Sl e_T_api_Cell h v_cells cells) {r : (List Int) × (List Int)} (hp : p_join_spread cells v = some r) :
    ∃ u k', Is G 67 [v_cells, .i .i64 v] h u k' ∧ ∃ (v₁ : V), ∃ (v₂ : V), V.tu [v₁, v₂] = u ∧ Own (fun r => r < h.n) h k' [eSl eInt v₁ r.1, eSl eInt v₂ r.2] := by
  refine WC.is (WC_of G_F_join_spread ?_)
  unfold p_join_spread at hp
  let B : Nat → Prop := (fun r => r < h.n)
  have hO : Own B h h [] := Own.start0 h
  refine W_sq ?_
  refine W_rg ?_
  refine WO_v (a_mv (v := .sn) rfl) ?_
  refine WO_v (a_mv (v := .sn) rfl) ?_
  refine WO_end ?_
  refine then_n ?_
  refine W_sq ?_
  refine W_rg ?_
  refine WO_x (hO.bsl (E := eInt) (l := ([(-1)] : List Int)) hO.fr (by rw [(ev_cons (v := .i .i64 (-1)) rfl ev_nil)]; rfl) rfl) ?_
  rintro v₃ k₁ ⟨r₁, f₁, hW⟩
  have hO₁ : Own B h k₁ [eSl eInt v₃ ([(-1)] : List Int)] := hW
  refine WO_v (a_mv (v := v_cells) rfl) ?_
  refine WO_v (a_len (hO₁.rd0 s_cells.rd : Sl e_T_api_Cell k₁ v_cells cells) rfl) ?_
  obtain ⟨x, hx₁, hp⟩ := bd_some hp
  obtain ⟨u₁, k₂, ca₁, v₄, rfl, hW₁⟩ := p_slices_Repeat_int.ok (h := k₁)  (hO₁.sl 0 rfl : Sl eInt k₁ v₃ ([(-1)] : List Int)) hx₁
  refine WO_c (id := 83) (caps := []) rfl (mp_cons (v := v₃) rfl (mp_cons (v := .i .i64 (cells.length : Int)) rfl mp_nil)) ca₁ ?_
  have hO₂ : Own B h k₂ [eSl eInt v₃ ([(-1)] : List Int), eSl eInt v₄ x] := hO₁.call hW₁ rfl
  refine WO_x (hO₂.bsl (E := eInt) (l := ([(-1)] : List Int)) hO₂.fr (by rw [(ev_cons (v := .i .i64 (-1)) rfl ev_nil)]; rfl) rfl) ?_
  rintro v₅ k₃ ⟨r₂, f₂, hW⟩
  have hO₃ : Own B h k₃ [eSl eInt v₃ ([(-1)] : List Int), eSl eInt v₄ x, eSl eInt v₅ ([(-1)] : List Int)] := hW
  refine WO_v (a_mv (v := v_cells) rfl) ?_
  refine WO_v (a_len (hO₃.rd0 s_cells.rd : Sl e_T_api_Cell k₃ v_cells cells) rfl) ?_
  obtain ⟨x1, hx₂, hp⟩ := bd_some hp
  obtain ⟨u₂, k₄, ca₂, v₆, rfl, hW₂⟩ := p_slices_Repeat_int.ok (h := k₃)  (hO₃.sl 2 rfl : Sl eInt k₃ v₅ ([(-1)] : List Int)) hx₂
  refine WO_c (id := 83) (caps := []) rfl (mp_cons (v := v₅) rfl (mp_cons (v := .i .i64 (cells.length : Int)) rfl mp_nil)) ca₂ ?_
  have hO₄ : Own B h k₄ [eSl eInt v₃ ([(-1)] : List Int), eSl eInt v₄ x, eSl eInt v₅ ([(-1)] : List Int), eSl eInt v₆ x1] := hO₃.call hW₂ rfl
  refine WO_v (a_mv (v := v₄) rfl) ?_
  refine WO_v (a_mv (v := v₆) rfl) ?_
  refine WO_end ?_
  refine then_n ?_
  refine W_sq ?_
  refine W_rg ?_
  refine WO_v (a_mv (v := .i .i64 v) rfl) ?_
  refine WO_x (hO₄.bsl (E := eInt) (l := [v]) hO₄.fr (by rw [(ev_cons (v := .i .i64 v) rfl ev_nil)]; rfl) rfl) ?_
  rintro v₇ k₅ ⟨r₃, f₃, hW⟩
  have hO₅ : Own B h k₅ [eSl eInt v₃ ([(-1)] : List Int), eSl eInt v₄ x, eSl eInt v₅ ([(-1)] : List Int), eSl eInt v₆ x1, eSl eInt v₇ [v]] := hW
  refine WO_v (a_mv (v := v₇) rfl) ?_
  refine WO_end ?_
  refine then_n ?_
  refine W_sq ?_
  refine W_rg ?_
  refine WO_v (a_mv (v := v_cells) rfl) ?_
  refine WO_v (a_len (hO₅.rd0 s_cells.rd : Sl e_T_api_Cell k₅ v_cells cells) rfl) ?_
  obtain ⟨c₁, hp⟩ := ck_some hp
  refine WO_x (hO₅.mks (E := e_bool) (y := false) (bytes := 1) (z := (cells.length : Int)) hO₅.fr rfl rfl rfl c₁ (by decide)) ?_
  rintro v₈ k₆ ⟨r₄, f₄, hW⟩
  have hO₆ : Own B h k₆ [eSl eInt v₃ ([(-1)] : List Int), eSl eInt v₄ x, eSl eInt v₅ ([(-1)] : List Int), eSl eInt v₆ x1, eSl eInt v₇ [v], eSl e_bool v₈ (List.replicate ((cells.length : Int) : Int).toNat false)] := hW
  refine WO_v (a_mv (v := v₈) rfl) ?_
  refine WO_end ?_
  refine then_n ?_
  refine W_sq ?_
  refine W_rg ?_
  refine WO_v (a_mv (v := v₈) rfl) ?_
  refine WO_v (a_mv (v := .i .i64 v) rfl) ?_
  obtain ⟨c₂, hp⟩ := ck_some hp
  refine WO_v (a_ixa (E := e_bool) (z := v) (hO₆.sl 5 rfl : Sl e_bool k₆ v₈ (List.replicate ((cells.length : Int) : Int).toNat false)) rfl rfl c₂) ?_
  refine WO_x (hO₆.ste (E := e_bool) (y := true) (ws := [.b true]) 5 rfl rfl (toNat_lt c₂) rfl rfl ⟨rfl, Nat.le_of_ble_eq_true rfl, rfl⟩ rfl) ?_
  rintro _ k₇ ⟨rfl, f₅, m₁, hW⟩
  have hO₇ : Own B h k₇ [eSl eInt v₃ ([(-1)] : List Int), eSl eInt v₄ x, eSl eInt v₅ ([(-1)] : List Int), eSl eInt v₆ x1, eSl eInt v₇ [v], eSl e_bool v₈ ((List.replicate ((cells.length : Int) : Int).toNat false).set (v : Int).toNat true)] := hW
  refine WO_end ?_
  refine then_n ?_
  refine W_sq ?_
  refine W_bl ?_
  obtain ⟨o₁, ho₁, hp⟩ := bd_some hp
  refine W.mono (Q := fun e fr k => match (generalizing := false) o₁ with
      | (from_1, dir1) => e = (.exit 0) ∧ fr 6 = v₄ ∧ fr 7 = v₆ ∧ Own B h k [eSl eInt v₄ from_1, eSl eInt v₆ dir1]) ?_ ?_
  · clear hp
    refine W_loopF (fun st fr k => match st with | (from_, dir, l, met) => ∃ (v₉ : V), fr 0 = v_cells ∧ fr 6 = v₄ ∧ fr 7 = v₆ ∧ fr 8 = v₉ ∧ fr 9 = v₈ ∧ Own B h k [eSl eInt v₄ from_, eSl eInt v₆ dir, eSl eInt v₉ l, eSl e_bool v₈ met]) ho₁ (s := (x, x1, [v], (List.replicate ((cells.length : Int) : Int).toNat false).set (v : Int).toNat true)) (Exists.intro v₇ (And.intro (rfl) (And.intro (rfl) (And.intro (rfl) (And.intro (rfl) (And.intro (rfl) (hO₇.pick [1, 3, 4, 5] rfl (by decide)))))))) ?_
    rintro ⟨from_, dir, l, met⟩ q₂ k₉ ⟨v₉, q₂_0, q₂_6, q₂_7, q₂_8, q₂_9, hO₉⟩ o₂ hp
    dsimp only [p_join_spread.s0] at hp
    refine W_sq ?_
    refine W_sq ?_
    refine W_rg ?_
    refine WO_v (a_mv (v := v₉) q₂_8) ?_
    refine WO_v (a_len (hO₉.sl 2 rfl : Sl eInt k₉ v₉ l) rfl) ?_
    refine WO_v (a_gtr (a := (l.length : Int)) (b := 0) rfl rfl) ?_
    refine WO_end ?_
    refine then_n ?_
    rcases if_some hp with ⟨b₁, hp⟩ | ⟨b₁, hp⟩
    · refine W_cT (t := (decide (0 < (l.length : Int)))) rfl b₁ ?_
      refine W_sk ?_
      refine then_n ?_
      refine W_bl ?_
      refine W_sq ?_
      refine W_rg ?_
      refine WO_v (a_mv (v := v₉) q₂_8) ?_
      obtain ⟨c₃, hp⟩ := ck_some hp
      refine WO_v (a_ixa (E := eInt) (z := 0) (hO₉.sl 2 rfl : Sl eInt k₉ v₉ l) rfl rfl c₃) ?_
      refine WO_v (a_ldE (w := .i .i64 (gi l (0 : Int).toNat)) (hO₉.sl 2 rfl : Sl eInt k₉ v₉ l) rfl (toNat_lt c₃) rfl) ?_
      refine WO_v (a_mv (v := .i .i64 (gi l (0 : Int).toNat)) rfl) ?_
      refine WO_end ?_
      refine then_n ?_
      refine W_sq ?_
      refine W_rg ?_
      refine WO_v (a_mv (v := v₉) q₂_8) ?_
      obtain ⟨c₄, hp⟩ := ck_some hp
      refine WO_v (a_slcF (E := eInt) (z := 1) (hO₉.sl 2 rfl : Sl eInt k₉ v₉ l) rfl rfl c₄) ?_
      refine WO_v (a_mv (v := (V.cut v₉ (1 : Int).toNat (l).length)) rfl) ?_
      refine WO_end ?_
      refine then_n ?_
      refine W_sq ?_
      refine W_rg ?_
      refine WO_v (a_mv (v := .i .i64 0) rfl) ?_
      refine WO_end ?_
      refine then_n ?_
      refine W_bl ?_
      obtain ⟨o₃, ho₂, hp⟩ := bd_some hp
      refine W.mono (Q := fun e fr k => match (generalizing := false) o₃ with
          | (from_3, dir3, l2, met2) => e = (.exit 2) ∧ ∃ (v₁₁ : V), fr 0 = v_cells ∧ fr 6 = v₄ ∧ fr 7 = v₆ ∧ fr 8 = v₁₁ ∧ fr 9 = v₈ ∧ Own B h k [eSl eInt v₄ from_3, eSl eInt v₆ dir3, eSl eInt v₁₁ l2, eSl e_bool v₈ met2]) ?_ ?_
      · clear hp
        have hO₁₁ : Own B h k₉ [eSl eInt v₄ from_, eSl eInt v₆ dir, eSl eInt (V.cut v₉ (1 : Int).toNat (l).length) (l.drop (1 : Int).toNat), eSl e_bool v₈ met] := hO₉.cutF 2 rfl c₄
        refine W_loopF (fun st fr k => match st with | (from_2, dir2, l1, met1, x2) => ∃ (v₁₀ : V), fr 0 = v_cells ∧ fr 6 = v₄ ∧ fr 7 = v₆ ∧ fr 8 = v₁₀ ∧ fr 9 = v₈ ∧ fr 10 = .i .i64 (gi l (0 : Int).toNat) ∧ fr 37 = .i .i64 x2 ∧ Own B h k [eSl eInt v₄ from_2, eSl eInt v₆ dir2, eSl eInt v₁₀ l1, eSl e_bool v₈ met1]) ho₂ (s := (from_, dir, l.drop (1 : Int).toNat, met, 0)) (Exists.intro (V.cut v₉ (1 : Int).toNat (l).length) (And.intro (q₂_0) (And.intro (q₂_6) (And.intro (q₂_7) (And.intro (rfl) (And.intro (q₂_9) (And.intro (rfl) (And.intro (rfl) (hO₁₁.pick [0, 1, 2, 3] rfl (by decide)))))))))) ?_
        rintro ⟨from_2, dir2, l1, met1, x2⟩ q₄ k₁₁ ⟨v₁₀, q₄_0, q₄_6, q₄_7, q₄_8, q₄_9, q₄_10, q₄_37, hO₁₂⟩ o₄ hp
        dsimp only [p_join_spread.s1] at hp
        refine W_sq ?_
        refine W_rg ?_
        refine WO_v (a_lss (a := x2) (b := 4) q₄_37 rfl) ?_
        refine WO_end ?_
        refine then_n ?_
        refine W_sq ?_
        rcases if_some hp with ⟨b₂, hp⟩ | ⟨b₂, hp⟩
        · refine W_cT (t := (decide (x2 < 4))) rfl b₂ ?_
          refine W_sk ?_
          refine then_n ?_
          refine W_sq ?_
          refine W_bl ?_
          refine W_sq ?_
          refine W_rg ?_
          refine WO_v (a_mv (v := .i .i64 x2) q₄_37) ?_
          refine WO_v (a_mv (v := .i .i64 x2) rfl) ?_
          refine WO_end ?_
          refine then_n ?_
          refine W_sq ?_
          refine W_rg ?_
          refine WO_v (a_mv (v := v_cells) q₄_0) ?_
          refine WO_v (a_mv (v := .i .i64 (gi l (0 : Int).toNat)) q₄_10) ?_
          refine WO_v (a_mv (v := .i .i64 x2) rfl) ?_
          obtain ⟨c₅, hp⟩ := ck_some hp
          refine WO_v (a_ixa (E := e_T_api_Cell) (z := (gi l (0 : Int).toNat)) (hO₁₂.rd0 s_cells.rd : Sl e_T_api_Cell k₁₁ v_cells cells) rfl rfl c₅) ?_
          refine WO_v (a_faE (off' := 0) (off2 := 0) (hO₁₂.rd0 s_cells.rd : Sl e_T_api_Cell k₁₁ v_cells cells) (toNat_lt c₅) rfl rfl) ?_
          obtain ⟨c₆, hp⟩ := ck_some hp
          refine WO_v (a_ixaaE (off := 0) (off2 := (0 + (x2 : Int).toNat * 1)) (z := x2) (hO₁₂.rd0 s_cells.rd : Sl e_T_api_Cell k₁₁ v_cells cells) (toNat_lt c₅) rfl rfl c₆ rfl) ?_
          refine WO_v (a_ldE (w := .i .i64 (((gi cells (gi l (0 : Int).toNat : Int).toNat).Next).get x2)) (hO₁₂.rd0 s_cells.rd : Sl e_T_api_Cell k₁₁ v_cells cells) rfl (toNat_lt c₅) (ld_T_api_Cell_Next c₆)) ?_
          refine WO_v (a_mv (v := .i .i64 (((gi cells (gi l (0 : Int).toNat : Int).toNat).Next).get x2)) rfl) ?_
          refine WO_end ?_
          refine then_n ?_
          refine W_sq ?_
          refine W_rg ?_
          refine WO_v (a_mv (v := .i .i64 (((gi cells (gi l (0 : Int).toNat : Int).toNat).Next).get x2)) rfl) ?_
          refine WO_v (a_geq (a := (((gi cells (gi l (0 : Int).toNat : Int).toNat).Next).get x2)) (b := 0) rfl rfl) ?_
          refine WO_v (a_mv (v := .b (decide (0 ≤ (((gi cells (gi l (0 : Int).toNat : Int).toNat).Next).get x2)))) rfl) ?_
          obtain ⟨t, hv₁, hp⟩ := bd_some hp
          refine WO_cut 6 (fun fr' k' => k₁₁ = k' ∧ fr' 55 = .b t ∧ fr' 0 = v_cells ∧ fr' 10 = .i .i64 (gi l (0 : Int).toNat) ∧ fr' 11 = .i .i64 x2 ∧ fr' 12 = .i .i64 (((gi cells (gi l (0 : Int).toNat : Int).toNat).Next).get x2) ∧ fr' 37 = .i .i64 x2 ∧ fr' 6 = v₄ ∧ fr' 7 = v₆ ∧ fr' 8 = v₁₀ ∧ fr' 9 = v₈) ?_ ?_
          · clear hp; rcases if_some hv₁ with ⟨b₃, hp⟩ | ⟨b₃, hp⟩
            · skip
              refine WO_on rfl b₃ ?_
              refine WO_v (a_mv (v := v₈) q₄_9) ?_
              refine WO_on rfl b₃ ?_
              refine WO_v (a_mv (v := .i .i64 (((gi cells (gi l (0 : Int).toNat : Int).toNat).Next).get x2)) rfl) ?_
              refine WO_on rfl b₃ ?_
              obtain ⟨c₇, hp⟩ := ck_some hp
              refine WO_v (a_ixa (E := e_bool) (z := (((gi cells (gi l (0 : Int).toNat : Int).toNat).Next).get x2)) (hO₁₂.sl 3 rfl : Sl e_bool k₁₁ v₈ met1) rfl rfl c₇) ?_
              refine WO_on rfl b₃ ?_
              refine WO_v (a_ldE (w := .b (gi met1 (((gi cells (gi l (0 : Int).toNat : Int).toNat).Next).get x2 : Int).toNat)) (hO₁₂.sl 3 rfl : Sl e_bool k₁₁ v₈ met1) rfl (toNat_lt c₇) rfl) ?_
              refine WO_on rfl b₃ ?_
              refine WO_v (a_not (t := (gi met1 (((gi cells (gi l (0 : Int).toNat : Int).toNat).Next).get x2 : Int).toNat)) rfl) ?_
              refine WO_v (a_pickT (t := (decide (0 ≤ (((gi cells (gi l (0 : Int).toNat : Int).toNat).Next).get x2)))) (v := .b t) rfl b₃ (Eq.trans (b := V.b (!(gi met1 (((gi cells (gi l (0 : Int).toNat : Int).toNat).Next).get x2 : Int).toNat))) rfl (congrArg V.b (Option.some.inj hp)))) ?_
              refine WO_end ?_
              exact ⟨rfl, rfl, q₄_0, q₄_10, rfl, rfl, q₄_37, q₄_6, q₄_7, q₄_8, q₄_9⟩
            · skip
              refine WO_off rfl b₃ ?_
              refine WO_off rfl b₃ ?_
              refine WO_off rfl b₃ ?_
              refine WO_off rfl b₃ ?_
              refine WO_off rfl b₃ ?_
              refine WO_v (a_pickF (t := (decide (0 ≤ (((gi cells (gi l (0 : Int).toNat : Int).toNat).Next).get x2)))) (v := .b t) rfl b₃ (Eq.trans (b := V.b false) rfl (congrArg V.b (Option.some.inj hp)))) ?_
              refine WO_end ?_
              exact ⟨rfl, rfl, q₄_0, q₄_10, rfl, rfl, q₄_37, q₄_6, q₄_7, q₄_8, q₄_9⟩
          rintro frg₁ _ ⟨rfl, g₁_55, g₁_0, g₁_10, g₁_11, g₁_12, g₁_37, g₁_6, g₁_7, g₁_8, g₁_9⟩
          refine WO_end ?_
          refine then_n ?_
          rcases if_some hp with ⟨b₄, hp⟩ | ⟨b₄, hp⟩
          · refine W_cT (t := t) g₁_55 b₄ ?_
            refine W_sq ?_
            refine W_rg ?_
            refine WO_v (a_mv (v := v₈) g₁_9) ?_
            refine WO_v (a_mv (v := .i .i64 (((gi cells (gi l (0 : Int).toNat : Int).toNat).Next).get x2)) g₁_12) ?_
            refine WO_v (a_mv (v := v₄) g₁_6) ?_
            refine WO_v (a_mv (v := .i .i64 (((gi cells (gi l (0 : Int).toNat : Int).toNat).Next).get x2)) g₁_12) ?_
            refine WO_v (a_mv (v := v₆) g₁_7) ?_
            refine WO_v (a_mv (v := .i .i64 (((gi cells (gi l (0 : Int).toNat : Int).toNat).Next).get x2)) g₁_12) ?_
            refine WO_v (a_mv (v := .i .i64 (gi l (0 : Int).toNat)) g₁_10) ?_
            refine WO_v (a_mv (v := .i .i64 x2) g₁_11) ?_
            obtain ⟨c₈, hp⟩ := ck_some hp
            refine WO_v (a_ixa (E := e_bool) (z := (((gi cells (gi l (0 : Int).toNat : Int).toNat).Next).get x2)) (hO₁₂.sl 3 rfl : Sl e_bool k₁₁ v₈ met1) rfl rfl c₈) ?_
            refine WO_x (hO₁₂.ste (E := e_bool) (y := true) (ws := [.b true]) 3 rfl rfl (toNat_lt c₈) rfl rfl ⟨rfl, Nat.le_of_ble_eq_true rfl, rfl⟩ rfl) ?_
            rintro _ k₁₂ ⟨rfl, f₆, m₂, hW⟩
            have hO₁₃ : Own B h k₁₂ [eSl eInt v₄ from_2, eSl eInt v₆ dir2, eSl eInt v₁₀ l1, eSl e_bool v₈ (met1.set (((gi cells (gi l (0 : Int).toNat : Int).toNat).Next).get x2 : Int).toNat true)] := hW
            obtain ⟨c₉, hp⟩ := ck_some hp
            refine WO_v (a_ixa (E := eInt) (z := (((gi cells (gi l (0 : Int).toNat : Int).toNat).Next).get x2)) (hO₁₃.sl 0 rfl : Sl eInt k₁₂ v₄ from_2) rfl rfl c₉) ?_
            refine WO_x (hO₁₃.ste (E := eInt) (y := (gi l (0 : Int).toNat)) (ws := [.i .i64 (gi l (0 : Int).toNat)]) 0 rfl rfl (toNat_lt c₉) rfl rfl ⟨rfl, Nat.le_of_ble_eq_true rfl, rfl⟩ rfl) ?_
            rintro _ k₁₃ ⟨rfl, f₇, m₃, hW⟩
            have hO₁₄ : Own B h k₁₃ [eSl eInt v₄ (from_2.set (((gi cells (gi l (0 : Int).toNat : Int).toNat).Next).get x2 : Int).toNat (gi l (0 : Int).toNat)), eSl eInt v₆ dir2, eSl eInt v₁₀ l1, eSl e_bool v₈ (met1.set (((gi cells (gi l (0 : Int).toNat : Int).toNat).Next).get x2 : Int).toNat true)] := hW
            obtain ⟨c₁₀, hp⟩ := ck_some hp
            refine WO_v (a_ixa (E := eInt) (z := (((gi cells (gi l (0 : Int).toNat : Int).toNat).Next).get x2)) (hO₁₄.sl 1 rfl : Sl eInt k₁₃ v₆ dir2) rfl rfl c₁₀) ?_
            refine WO_x (hO₁₄.ste (E := eInt) (y := x2) (ws := [.i .i64 x2]) 1 rfl rfl (toNat_lt c₁₀) rfl rfl ⟨rfl, Nat.le_of_ble_eq_true rfl, rfl⟩ rfl) ?_
            rintro _ k₁₄ ⟨rfl, f₈, m₄, hW⟩
            have hO₁₅ : Own B h k₁₄ [eSl eInt v₄ (from_2.set (((gi cells (gi l (0 : Int).toNat : Int).toNat).Next).get x2 : Int).toNat (gi l (0 : Int).toNat)), eSl eInt v₆ (dir2.set (((gi cells (gi l (0 : Int).toNat : Int).toNat).Next).get x2 : Int).toNat x2), eSl eInt v₁₀ l1, eSl e_bool v₈ (met1.set (((gi cells (gi l (0 : Int).toNat : Int).toNat).Next).get x2 : Int).toNat true)] := hW
            refine WO_end ?_
            refine then_n ?_
            refine W_rg ?_
            refine WO_v (a_mv (v := v₁₀) g₁_8) ?_
            refine WO_v (a_mv (v := .i .i64 (((gi cells (gi l (0 : Int).toNat : Int).toNat).Next).get x2)) g₁_12) ?_
            refine WO_x (hO₁₅.bsl (E := eInt) (l := [((gi cells (gi l (0 : Int).toNat : Int).toNat).Next).get x2]) hO₁₅.fr (by rw [(ev_cons (v := .i .i64 (((gi cells (gi l (0 : Int).toNat : Int).toNat).Next).get x2)) rfl ev_nil)]; rfl) rfl) ?_
            rintro v₁₂ k₁₅ ⟨r₅, f₉, hW⟩
            have hO₁₆ : Own B h k₁₅ [eSl eInt v₄ (from_2.set (((gi cells (gi l (0 : Int).toNat : Int).toNat).Next).get x2 : Int).toNat (gi l (0 : Int).toNat)), eSl eInt v₆ (dir2.set (((gi cells (gi l (0 : Int).toNat : Int).toNat).Next).get x2 : Int).toNat x2), eSl eInt v₁₀ l1, eSl e_bool v₈ (met1.set (((gi cells (gi l (0 : Int).toNat : Int).toNat).Next).get x2 : Int).toNat true), eSl eInt v₁₂ [((gi cells (gi l (0 : Int).toNat : Int).toNat).Next).get x2]] := hW
            obtain ⟨c₁₁, hp⟩ := ck_some hp
            refine WO_x (hO₁₆.app (E := eInt) (bytes := 8) 2 hO₁₆.fr rfl (hO₁₆.sl 4 rfl : Sl eInt k₁₅ v₁₂ [((gi cells (gi l (0 : Int).toNat : Int).toNat).Next).get x2]) rfl rfl (fun _ => rfl) c₁₁ (by decide)) ?_
            rintro v₁₃ k₁₆ ⟨f₁₀, hW⟩
            have hO₁₇ : Own B h k₁₆ [eSl eInt v₄ (from_2.set (((gi cells (gi l (0 : Int).toNat : Int).toNat).Next).get x2 : Int).toNat (gi l (0 : Int).toNat)), eSl eInt v₆ (dir2.set (((gi cells (gi l (0 : Int).toNat : Int).toNat).Next).get x2 : Int).toNat x2), eSl eInt v₁₃ (l1 ++ [((gi cells (gi l (0 : Int).toNat : Int).toNat).Next).get x2]), eSl e_bool v₈ (met1.set (((gi cells (gi l (0 : Int).toNat : Int).toNat).Next).get x2 : Int).toNat true), eSl eInt v₁₂ [((gi cells (gi l (0 : Int).toNat : Int).toNat).Next).get x2]] := hW
            refine WO_v (a_mv (v := v₁₃) rfl) ?_
            refine WO_end ?_
            refine blk_n ?_
            refine then_n ?_
            refine W_rg ?_
            obtain ⟨c₁₂, hp⟩ := ck_some hp
            refine WO_v (a_add (a := x2) (b := 1) g₁_37 rfl c₁₂) ?_
            refine WO_v (a_mv (v := .i .i64 (x2 + 1)) rfl) ?_
            refine WO_end ?_
            have hp := Option.some.inj hp; subst hp
            exact (Or.inl (Exists.intro (from_2.set (((gi cells (gi l (0 : Int).toNat : Int).toNat).Next).get x2 : Int).toNat (gi l (0 : Int).toNat), dir2.set (((gi cells (gi l (0 : Int).toNat : Int).toNat).Next).get x2 : Int).toNat x2, l1 ++ [((gi cells (gi l (0 : Int).toNat : Int).toNat).Next).get x2], met1.set (((gi cells (gi l (0 : Int).toNat : Int).toNat).Next).get x2 : Int).toNat true, x2 + 1) (And.intro rfl (And.intro rfl (Exists.intro v₁₃ (And.intro (g₁_0) (And.intro (g₁_6) (And.intro (g₁_7) (And.intro (rfl) (And.intro (g₁_9) (And.intro (g₁_10) (And.intro (rfl) (hO₁₇.pick [0, 1, 2, 3] rfl (by decide))))))))))))))
          · refine W_cF (t := t) g₁_55 b₄ ?_
            refine W_sk ?_
            refine blk_n ?_
            refine then_n ?_
            refine W_rg ?_
            obtain ⟨c₁₃, hp⟩ := ck_some hp
            refine WO_v (a_add (a := x2) (b := 1) g₁_37 rfl c₁₃) ?_
            refine WO_v (a_mv (v := .i .i64 (x2 + 1)) rfl) ?_
            refine WO_end ?_
            have hp := Option.some.inj hp; subst hp
            exact (Or.inl (Exists.intro (from_2, dir2, l1, met1, x2 + 1) (And.intro rfl (And.intro rfl (Exists.intro v₁₀ (And.intro (g₁_0) (And.intro (g₁_6) (And.intro (g₁_7) (And.intro (g₁_8) (And.intro (g₁_9) (And.intro (g₁_10) (And.intro (rfl) (hO₁₂.pick [0, 1, 2, 3] rfl (by decide))))))))))))))
        · refine W_cF (t := (decide (x2 < 4))) rfl b₂ ?_
          refine W_ex ?_
          refine then_e ?_
          have hp := Option.some.inj hp; subst hp
          refine (Or.inr (Exists.intro (from_2, dir2, l1, met1) (And.intro rfl (And.intro (fun h => nomatch h) (fun he => ?_)))))
          subst he; exact (And.intro rfl (Exists.intro v₁₀ (And.intro (q₄_0) (And.intro (q₄_6) (And.intro (q₄_7) (And.intro (q₄_8) (And.intro (q₄_9) (hO₁₂.pick [0, 1, 2, 3] rfl (by decide)))))))))
      intro e₂ q₃ k₁₀ hJ₂
      obtain ⟨from_3, dir3, l2, met2⟩ := o₃
      obtain ⟨rfl, v₁₁, q₃_0, q₃_6, q₃_7, q₃_8, q₃_9, hO₁₀⟩ := hJ₂
      refine blk_i ?_
      refine blk_n ?_
      have hp := Option.some.inj hp; subst hp
      exact (Or.inl (Exists.intro (from_3, dir3, l2, met2) (And.intro rfl (And.intro rfl (Exists.intro v₁₁ (And.intro (q₃_0) (And.intro (q₃_6) (And.intro (q₃_7) (And.intro (q₃_8) (And.intro (q₃_9) (hO₁₀.pick [0, 1, 2, 3] rfl (by decide))))))))))))
    · refine W_cF (t := (decide (0 < (l.length : Int)))) rfl b₁ ?_
      refine W_ex ?_
      refine then_e ?_
      have hp := Option.some.inj hp; subst hp
      refine (Or.inr (Exists.intro (from_, dir) (And.intro rfl (And.intro (fun h => nomatch h) (fun he => ?_)))))
      subst he; exact (And.intro rfl (And.intro (q₂_6) (And.intro (q₂_7) (hO₉.pick [0, 1] rfl (by decide)))))
  intro e₁ q₁ k₈ hJ₁
  obtain ⟨from_1, dir1⟩ := o₁
  obtain ⟨rfl, q₁_6, q₁_7, hO₈⟩ := hJ₁
  refine blk_i ?_
  refine then_n ?_
  refine W_sq ?_
  refine W_rg ?_
  refine WO_v (a_mv (v := v₄) q₁_6) ?_
  refine WO_v (a_mv (v := v₆) q₁_7) ?_
  refine WO_v (a_mv (v := v₄) rfl) ?_
  refine WO_v (a_mv (v := v₆) rfl) ?_
  refine WO_end ?_
  refine then_n ?_
  refine W_rt ?_
  refine Ret_r (rs_t (n := 4) (v := v₄) rfl (rs_t (n := 5) (v := v₆) rfl rs_nil)) ?_
  have hp := Option.some.inj hp; subst hp
  exact (Exists.intro v₄ (Exists.intro v₆ (And.intro rfl (hO₈.pick [0, 1] rfl (by decide)))))

theorem p_join_Parts.ok {h : Hp} {cells : List T_api_Cell} {v_cells : V} (s_cells : Sl e_T_api_Cell h v_cells cells) {r : (List (List Int)) × Int} (hp : p_join_Parts cells = some r) :
    ∃ u k', Is G 29 [v_cells] h u k' ∧ ∃ (v₁ : V), ∃ (vs₁ : List V), V.tu [v₁, .i .i64 r.2] = u ∧ Own (fun r => r < h.n) h k' [eSl eV v₁ vs₁, eAll eInt vs₁ r.1] := by
  refine WC.is (WC_of G_F_join_Parts ?_)
  unfold p_join_Parts at hp
  let B : Nat → Prop := (fun r => r < h.n)
  have hO : Own B h h [] := Own.start0 h
  refine W_sq ?_
  refine W_rg ?_
  refine WO_v (a_mv (v := .sn) rfl) ?_
  refine WO_v (a_mv (v := .i .i64 0) rfl) ?_
  refine WO_end ?_
  refine then_n ?_
  refine W_sq ?_
  refine W_sq ?_
  refine W_rg ?_
  refine WO_v (a_mv (v := v_cells) rfl) ?_
  obtain ⟨x, hx₁, hp⟩ := bd_some hp
  obtain ⟨u₁, k₁, ca₁, rfl, hW₁⟩ := p_grid_Check.ok (h := h)  (hO.rd0 s_cells.rd : Sl e_T_api_Cell h v_cells cells) hx₁
  refine WO_c (id := 66) (caps := []) rfl (mp_cons (v := v_cells) rfl mp_nil) ca₁ ?_
  have hO₁ : Own B h k₁ [] := hO.call hW₁ rfl
  refine WO_v (a_mv (v := .i .i64 x) rfl) ?_
  refine WO_end ?_
  refine then_n ?_
  refine W_sq ?_
  refine W_rg ?_
  refine WO_v (a_mv (v := .i .i64 x) rfl) ?_
  refine WO_v (a_neI (a := x) (b := 0) rfl rfl) ?_
  refine WO_end ?_
  refine then_n ?_
  rcases if_some hp with ⟨b₁, hp⟩ | ⟨b₁, hp⟩
  · refine W_cT (t := (!(decide (x = 0)))) rfl b₁ ?_
    refine W_sq ?_
    refine W_rg ?_
    refine WO_v (a_mv (v := .i .i64 x) rfl) ?_
    refine WO_v (a_mv (v := .sn) rfl) ?_
    refine WO_v (a_mv (v := .i .i64 x) rfl) ?_
    refine WO_end ?_
    refine then_n ?_
    refine W_rt ?_
    refine then_r ?_
    have hO₂ : Own B h k₁ [eSl eV .sn []] := hO₁.nil eV
    have hO₃ : Own B h k₁ [eSl eV .sn [], eAll eInt [] []] := hO₂.allNil eInt 0
    refine Ret_r (rs_t (n := 2) (v := .sn) rfl (rs_t (n := 3) (v := .i .i64 x) rfl rs_nil)) ?_
    have hp := Option.some.inj hp; subst hp
    exact (Exists.intro V.sn (Exists.intro [] (And.intro rfl (hO₃.pick [0, 1] rfl (by decide)))))
  · refine W_cF (t := (!(decide (x = 0)))) rfl b₁ ?_
    refine W_sk ?_
    refine then_n ?_
    refine W_sq ?_
    refine W_rg ?_
    refine WO_v (a_mv (v := .sn) rfl) ?_
    refine WO_end ?_
    refine then_n ?_
    refine W_sq ?_
    refine W_rg ?_
    refine WO_v (a_mv (v := v_cells) rfl) ?_
    refine WO_v (a_len (hO₁.rd0 s_cells.rd : Sl e_T_api_Cell k₁ v_cells cells) rfl) ?_
    obtain ⟨c₁, hp⟩ := ck_some hp
    refine WO_x (hO₁.mks (E := e_bool) (y := false) (bytes := 1) (z := (cells.length : Int)) hO₁.fr rfl rfl rfl c₁ (by decide)) ?_
    rintro v₂ k₂ ⟨r₁, f₁, hW⟩
    have hO₄ : Own B h k₂ [eSl e_bool v₂ (List.replicate ((cells.length : Int) : Int).toNat false)] := hW
    refine WO_v (a_mv (v := v₂) rfl) ?_
    refine WO_end ?_
    refine then_n ?_
    refine W_sq ?_
    refine W_sq ?_
    refine W_rg ?_
    refine WO_v (a_mv (v := v_cells) rfl) ?_
    refine WO_v (a_len (hO₄.rd0 s_cells.rd : Sl e_T_api_Cell k₂ v_cells cells) rfl) ?_
    refine WO_v (a_mv (v := .i .i64 0) rfl) ?_
    refine WO_end ?_
    refine then_n ?_
    refine W_bl ?_
    obtain ⟨o₁, ho₁, hp⟩ := bd_some hp
    refine W.mono (Q := fun e fr k => match (generalizing := false) o₁ with
        | l1 => e = (.exit 0) ∧ ∃ (v₄ : V), ∃ (vs₃ : List V), fr 5 = v₄ ∧ Own B h k [eSl eV v₄ vs₃, eAll eInt vs₃ l1]) ?_ ?_
    · clear hp
      have hO₆ : Own B h k₂ [eSl e_bool v₂ (List.replicate ((cells.length : Int) : Int).toNat false), eSl eV .sn []] := hO₄.nil eV
      have hO₇ : Own B h k₂ [eSl e_bool v₂ (List.replicate ((cells.length : Int) : Int).toNat false), eSl eV .sn [], eAll eInt [] []] := hO₆.allNil eInt 0
      refine W_loopF (fun st fr k => match st with | (l, met, x1) => ∃ (v₃ : V), ∃ (vs₂ : List V), fr 0 = v_cells ∧ fr 5 = v₃ ∧ fr 6 = v₂ ∧ fr 21 = .i .i64 (cells.length : Int) ∧ fr 22 = .i .i64 x1 ∧ Own B h k [eSl eV v₃ vs₂, eAll eInt vs₂ l, eSl e_bool v₂ met]) ho₁ (s := (([] : List (List Int)), List.replicate ((cells.length : Int) : Int).toNat false, 0)) (Exists.intro V.sn (Exists.intro [] (And.intro (rfl) (And.intro (rfl) (And.intro (rfl) (And.intro (rfl) (And.intro (rfl) (hO₇.pick [1, 2, 0] rfl (by decide))))))))) ?_
      rintro ⟨l, met, x1⟩ q₂ k₄ ⟨v₃, vs₂, q₂_0, q₂_5, q₂_6, q₂_21, q₂_22, hO₈⟩ o₂ hp
      dsimp only [p_join_Parts.s0] at hp
      refine W_sq ?_
      refine W_rg ?_
      refine WO_v (a_lss (a := x1) (b := (cells.length : Int)) q₂_22 q₂_21) ?_
      refine WO_end ?_
      refine then_n ?_
      refine W_sq ?_
      rcases if_some hp with ⟨b₂, hp⟩ | ⟨b₂, hp⟩
      · refine W_cT (t := (decide (x1 < (cells.length : Int)))) rfl b₂ ?_
        refine W_sk ?_
        refine then_n ?_
        refine W_sq ?_
        refine W_bl ?_
        refine W_sq ?_
        refine W_rg ?_
        refine WO_v (a_mv (v := .i .i64 x1) q₂_22) ?_
        refine WO_v (a_mv (v := .i .i64 x1) rfl) ?_
        refine WO_end ?_
        refine then_n ?_
        refine W_sq ?_
        refine W_sq ?_
        refine W_rg ?_
        refine WO_v (a_mv (v := v₂) q₂_6) ?_
        refine WO_v (a_mv (v := .i .i64 x1) rfl) ?_
        obtain ⟨c₂, hp⟩ := ck_some hp
        refine WO_v (a_ixa (E := e_bool) (z := x1) (hO₈.sl 2 rfl : Sl e_bool k₄ v₂ met) rfl rfl c₂) ?_
        refine WO_v (a_ldE (w := .b (gi met (x1 : Int).toNat)) (hO₈.sl 2 rfl : Sl e_bool k₄ v₂ met) rfl (toNat_lt c₂) rfl) ?_
        refine WO_end ?_
        refine then_n ?_
        rcases if_some hp with ⟨b₃, hp⟩ | ⟨b₃, hp⟩
        · refine W_cT (t := (gi met (x1 : Int).toNat)) rfl b₃ ?_
          refine W_ex ?_
          refine then_e ?_
          refine blk_i ?_
          refine then_n ?_
          refine W_rg ?_
          obtain ⟨c₃, hp⟩ := ck_some hp
          refine WO_v (a_add (a := x1) (b := 1) q₂_22 rfl c₃) ?_
          refine WO_v (a_mv (v := .i .i64 (x1 + 1)) rfl) ?_
          refine WO_end ?_
          have hp := Option.some.inj hp; subst hp
          exact (Or.inl (Exists.intro (l, met, x1 + 1) (And.intro rfl (And.intro rfl (Exists.intro v₃ (Exists.intro vs₂ (And.intro (q₂_0) (And.intro (q₂_5) (And.intro (q₂_6) (And.intro (q₂_21) (And.intro (rfl) (hO₈.pick [0, 1, 2] rfl (by decide)))))))))))))
        · refine W_cF (t := (gi met (x1 : Int).toNat)) rfl b₃ ?_
          refine W_sk ?_
          refine then_n ?_
          refine W_sq ?_
          refine W_rg ?_
          refine WO_v (a_mv (v := v_cells) q₂_0) ?_
          refine WO_v (a_mv (v := .i .i64 x1) rfl) ?_
          obtain ⟨⟨x2, x3⟩, hx₂, hp⟩ := bd_some hp
          obtain ⟨u₂, k₅, ca₂, v₅, v₆, rfl, hW₂⟩ := p_join_spread.ok (h := k₄)  (hO₈.rd0 s_cells.rd : Sl e_T_api_Cell k₄ v_cells cells) hx₂
          refine WO_c (id := 67) (caps := []) rfl (mp_cons (v := v_cells) rfl (mp_cons (v := .i .i64 x1) rfl mp_nil)) ca₂ ?_
          have hO₉ : Own B h k₅ [eSl eV v₃ vs₂, eAll eInt vs₂ l, eSl e_bool v₂ met, eSl eInt v₅ x2, eSl eInt v₆ x3] := hO₈.call hW₂ rfl
          refine WO_v (a_mv (v := .tu [v₅, v₆]) rfl) ?_
          refine WO_v (a_ext (vs := [v₅, v₆]) (v := v₅) rfl rfl) ?_
          refine WO_v (a_ext (vs := [v₅, v₆]) (v := v₆) rfl rfl) ?_
          refine WO_v (a_mv (v := v₅) rfl) ?_
          refine WO_v (a_mv (v := v₆) rfl) ?_
          refine WO_end ?_
          refine then_n ?_
          refine W_sq ?_
          refine W_rg ?_
          refine WO_x (hO₉.bsl (E := eInt) (l := []) hO₉.fr (by rw [ev_nil]; rfl) rfl) ?_
          rintro v₇ k₆ ⟨r₂, f₂, hW⟩
          have hO₁₀ : Own B h k₆ [eSl eV v₃ vs₂, eAll eInt vs₂ l, eSl e_bool v₂ met, eSl eInt v₅ x2, eSl eInt v₆ x3, eSl eInt v₇ []] := hW
          refine WO_v (a_mv (v := v₇) rfl) ?_
          refine WO_end ?_
          refine then_n ?_
          refine W_sq ?_
          refine W_sq ?_
          refine W_rg ?_
          refine WO_v (a_mv (v := v_cells) q₂_0) ?_
          refine WO_v (a_len (hO₁₀.rd0 s_cells.rd : Sl e_T_api_Cell k₆ v_cells cells) rfl) ?_
          refine WO_v (a_mv (v := .i .i64 0) rfl) ?_
          refine WO_end ?_
          refine then_n ?_
          refine W_bl ?_
          obtain ⟨o₃, ho₂, hp⟩ := bd_some hp
          refine W.mono (Q := fun e fr k => match (generalizing := false) o₃ with
              | (met2, part1) => e = (.exit 2) ∧ ∃ (v₉ : V), fr 0 = v_cells ∧ fr 5 = v₃ ∧ fr 6 = v₂ ∧ fr 10 = v₉ ∧ fr 21 = .i .i64 (cells.length : Int) ∧ fr 22 = .i .i64 x1 ∧ Own B h k [eSl eV v₃ vs₂, eAll eInt vs₂ l, eSl e_bool v₂ met2, eSl eInt v₉ part1]) ?_ ?_
          · clear hp
            refine W_loopF (fun st fr k => match st with | (met1, part, x4) => ∃ (v₈ : V), fr 0 = v_cells ∧ fr 5 = v₃ ∧ fr 6 = v₂ ∧ fr 7 = .i .i64 x1 ∧ fr 9 = v₆ ∧ fr 10 = v₈ ∧ fr 21 = .i .i64 (cells.length : Int) ∧ fr 22 = .i .i64 x1 ∧ fr 37 = .i .i64 (cells.length : Int) ∧ fr 38 = .i .i64 x4 ∧ Own B h k [eSl eV v₃ vs₂, eAll eInt vs₂ l, eSl e_bool v₂ met1, eSl eInt v₆ x3, eSl eInt v₈ part]) ho₂ (s := (met, [], 0)) (Exists.intro v₇ (And.intro (q₂_0) (And.intro (q₂_5) (And.intro (q₂_6) (And.intro (rfl) (And.intro (rfl) (And.intro (rfl) (And.intro (q₂_21) (And.intro (q₂_22) (And.intro (rfl) (And.intro (rfl) (hO₁₀.pick [0, 1, 2, 4, 5] rfl (by decide))))))))))))) ?_
            rintro ⟨met1, part, x4⟩ q₄ k₈ ⟨v₈, q₄_0, q₄_5, q₄_6, q₄_7, q₄_9, q₄_10, q₄_21, q₄_22, q₄_37, q₄_38, hO₁₂⟩ o₄ hp
            dsimp only [p_join_Parts.s1] at hp
            refine W_sq ?_
            refine W_rg ?_
            refine WO_v (a_lss (a := x4) (b := (cells.length : Int)) q₄_38 q₄_37) ?_
            refine WO_end ?_
            refine then_n ?_
            refine W_sq ?_
            rcases if_some hp with ⟨b₄, hp⟩ | ⟨b₄, hp⟩
            · refine W_cT (t := (decide (x4 < (cells.length : Int)))) rfl b₄ ?_
              refine W_sk ?_
              refine then_n ?_
              refine W_sq ?_
              refine W_bl ?_
              refine W_sq ?_
              refine W_rg ?_
              refine WO_v (a_mv (v := .i .i64 x4) q₄_38) ?_
              refine WO_v (a_mv (v := .i .i64 x4) rfl) ?_
              refine WO_end ?_
              refine then_n ?_
              refine W_sq ?_
              refine W_rg ?_
              refine WO_v (a_mv (v := .i .i64 x4) rfl) ?_
              refine WO_v (a_mv (v := .i .i64 x1) q₄_7) ?_
              refine WO_v (a_eqI (a := x4) (b := x1) rfl rfl) ?_
              refine WO_v (a_mv (v := .b (decide (x4 = x1))) rfl) ?_
              obtain ⟨t, hv₁, hp⟩ := bd_some hp
              refine WO_cut 6 (fun fr' k' => k₈ = k' ∧ fr' 50 = .b t ∧ fr' 0 = v_cells ∧ fr' 10 = v₈ ∧ fr' 11 = .i .i64 x4 ∧ fr' 21 = .i .i64 (cells.length : Int) ∧ fr' 22 = .i .i64 x1 ∧ fr' 37 = .i .i64 (cells.length : Int) ∧ fr' 38 = .i .i64 x4 ∧ fr' 5 = v₃ ∧ fr' 6 = v₂ ∧ fr' 7 = .i .i64 x1 ∧ fr' 9 = v₆) ?_ ?_
              · clear hp; rcases if_some hv₁ with ⟨b₅, hp⟩ | ⟨b₅, hp⟩
                · skip
                  refine WO_off rfl b₅ ?_
                  refine WO_off rfl b₅ ?_
                  refine WO_off rfl b₅ ?_
                  refine WO_off rfl b₅ ?_
                  refine WO_off rfl b₅ ?_
                  refine WO_v (a_pickT (t := (decide (x4 = x1))) (v := .b t) rfl b₅ (Eq.trans (b := V.b true) rfl (congrArg V.b (Option.some.inj hp)))) ?_
                  refine WO_end ?_
                  exact ⟨rfl, rfl, q₄_0, q₄_10, rfl, q₄_21, q₄_22, q₄_37, q₄_38, q₄_5, q₄_6, q₄_7, q₄_9⟩
                · skip
                  refine WO_on rfl b₅ ?_
                  refine WO_v (a_mv (v := v₆) q₄_9) ?_
                  refine WO_on rfl b₅ ?_
                  refine WO_v (a_mv (v := .i .i64 x4) rfl) ?_
                  refine WO_on rfl b₅ ?_
                  obtain ⟨c₄, hp⟩ := ck_some hp
                  refine WO_v (a_ixa (E := eInt) (z := x4) (hO₁₂.sl 3 rfl : Sl eInt k₈ v₆ x3) rfl rfl c₄) ?_
                  refine WO_on rfl b₅ ?_
                  refine WO_v (a_ldE (w := .i .i64 (gi x3 (x4 : Int).toNat)) (hO₁₂.sl 3 rfl : Sl eInt k₈ v₆ x3) rfl (toNat_lt c₄) rfl) ?_
                  refine WO_on rfl b₅ ?_
                  refine WO_v (a_geq (a := (gi x3 (x4 : Int).toNat)) (b := 0) rfl rfl) ?_
                  refine WO_v (a_pickF (t := (decide (x4 = x1))) (v := .b t) rfl b₅ (Eq.trans (b := V.b (decide (0 ≤ (gi x3 (x4 : Int).toNat)))) rfl (congrArg V.b (Option.some.inj hp)))) ?_
                  refine WO_end ?_
                  exact ⟨rfl, rfl, q₄_0, q₄_10, rfl, q₄_21, q₄_22, q₄_37, q₄_38, q₄_5, q₄_6, q₄_7, q₄_9⟩
              rintro frg₁ _ ⟨rfl, g₁_50, g₁_0, g₁_10, g₁_11, g₁_21, g₁_22, g₁_37, g₁_38, g₁_5, g₁_6, g₁_7, g₁_9⟩
              refine WO_end ?_
              refine then_n ?_
              rcases if_some hp with ⟨b₆, hp⟩ | ⟨b₆, hp⟩
              · refine W_cT (t := t) g₁_50 b₆ ?_
                refine W_sq ?_
                refine W_rg ?_
                refine WO_v (a_mv (v := v₂) g₁_6) ?_
                refine WO_v (a_mv (v := .i .i64 x4) g₁_11) ?_
                obtain ⟨c₅, hp⟩ := ck_some hp
                refine WO_v (a_ixa (E := e_bool) (z := x4) (hO₁₂.sl 2 rfl : Sl e_bool k₈ v₂ met1) rfl rfl c₅) ?_
                refine WO_x (hO₁₂.ste (E := e_bool) (y := true) (ws := [.b true]) 2 rfl rfl (toNat_lt c₅) rfl rfl ⟨rfl, Nat.le_of_ble_eq_true rfl, rfl⟩ rfl) ?_
                rintro _ k₉ ⟨rfl, f₃, m₁, hW⟩
                have hO₁₃ : Own B h k₉ [eSl eV v₃ vs₂, eAll eInt vs₂ l, eSl e_bool v₂ (met1.set (x4 : Int).toNat true), eSl eInt v₆ x3, eSl eInt v₈ part] := hW
                refine WO_end ?_
                refine then_n ?_
                refine W_rg ?_
                refine WO_v (a_mv (v := v₈) g₁_10) ?_
                refine WO_v (a_mv (v := .i .i64 x4) g₁_11) ?_
                refine WO_x (hO₁₃.bsl (E := eInt) (l := [x4]) hO₁₃.fr (by rw [(ev_cons (v := .i .i64 x4) rfl ev_nil)]; rfl) rfl) ?_
                rintro v₁₀ k₁₀ ⟨r₃, f₄, hW⟩
                have hO₁₄ : Own B h k₁₀ [eSl eV v₃ vs₂, eAll eInt vs₂ l, eSl e_bool v₂ (met1.set (x4 : Int).toNat true), eSl eInt v₆ x3, eSl eInt v₈ part, eSl eInt v₁₀ [x4]] := hW
                obtain ⟨c₆, hp⟩ := ck_some hp
                refine WO_x (hO₁₄.app (E := eInt) (bytes := 8) 4 hO₁₄.fr rfl (hO₁₄.sl 5 rfl : Sl eInt k₁₀ v₁₀ [x4]) rfl rfl (fun _ => rfl) c₆ (by decide)) ?_
                rintro v₁₁ k₁₁ ⟨f₅, hW⟩
                have hO₁₅ : Own B h k₁₁ [eSl eV v₃ vs₂, eAll eInt vs₂ l, eSl e_bool v₂ (met1.set (x4 : Int).toNat true), eSl eInt v₆ x3, eSl eInt v₁₁ (part ++ [x4]), eSl eInt v₁₀ [x4]] := hW
                refine WO_v (a_mv (v := v₁₁) rfl) ?_
                refine WO_end ?_
                refine blk_n ?_
                refine then_n ?_
                refine W_rg ?_
                obtain ⟨c₇, hp⟩ := ck_some hp
                refine WO_v (a_add (a := x4) (b := 1) g₁_38 rfl c₇) ?_
                refine WO_v (a_mv (v := .i .i64 (x4 + 1)) rfl) ?_
                refine WO_end ?_
                have hp := Option.some.inj hp; subst hp
                exact (Or.inl (Exists.intro (met1.set (x4 : Int).toNat true, part ++ [x4], x4 + 1) (And.intro rfl (And.intro rfl (Exists.intro v₁₁ (And.intro (g₁_0) (And.intro (g₁_5) (And.intro (g₁_6) (And.intro (g₁_7) (And.intro (g₁_9) (And.intro (rfl) (And.intro (g₁_21) (And.intro (g₁_22) (And.intro (g₁_37) (And.intro (rfl) (hO₁₅.pick [0, 1, 2, 3, 4] rfl (by decide)))))))))))))))))
              · refine W_cF (t := t) g₁_50 b₆ ?_
                refine W_sk ?_
                refine blk_n ?_
                refine then_n ?_
                refine W_rg ?_
                obtain ⟨c₈, hp⟩ := ck_some hp
                refine WO_v (a_add (a := x4) (b := 1) g₁_38 rfl c₈) ?_
                refine WO_v (a_mv (v := .i .i64 (x4 + 1)) rfl) ?_
                refine WO_end ?_
                have hp := Option.some.inj hp; subst hp
                exact (Or.inl (Exists.intro (met1, part, x4 + 1) (And.intro rfl (And.intro rfl (Exists.intro v₈ (And.intro (g₁_0) (And.intro (g₁_5) (And.intro (g₁_6) (And.intro (g₁_7) (And.intro (g₁_9) (And.intro (g₁_10) (And.intro (g₁_21) (And.intro (g₁_22) (And.intro (g₁_37) (And.intro (rfl) (hO₁₂.pick [0, 1, 2, 3, 4] rfl (by decide)))))))))))))))))
            · refine W_cF (t := (decide (x4 < (cells.length : Int)))) rfl b₄ ?_
              refine W_ex ?_
              refine then_e ?_
              have hp := Option.some.inj hp; subst hp
              refine (Or.inr (Exists.intro (met1, part) (And.intro rfl (And.intro (fun h => nomatch h) (fun he => ?_)))))
              subst he; exact (And.intro rfl (Exists.intro v₈ (And.intro (q₄_0) (And.intro (q₄_5) (And.intro (q₄_6) (And.intro (q₄_10) (And.intro (q₄_21) (And.intro (q₄_22) (hO₁₂.pick [0, 1, 2, 4] rfl (by decide))))))))))
          intro e₂ q₃ k₇ hJ₂
          obtain ⟨met2, part1⟩ := o₃
          obtain ⟨rfl, v₉, q₃_0, q₃_5, q₃_6, q₃_10, q₃_21, q₃_22, hO₁₁⟩ := hJ₂
          refine blk_i ?_
          refine then_n ?_
          refine W_rg ?_
          refine WO_v (a_mv (v := v₃) q₃_5) ?_
          refine WO_v (a_mv (v := v₉) q₃_10) ?_
          refine WO_x (hO₁₁.bsl (E := eV) (l := [v₉]) hO₁₁.fr (by rw [(ev_cons (v := v₉) rfl ev_nil)]; simp [fill, over, (hO₁₁.sl 3 rfl : Sl eInt k₇ v₉ part1).cells]) rfl) ?_
          rintro v₁₂ k₁₂ ⟨r₄, f₆, hW⟩
          have hO₁₆ : Own B h k₁₂ [eSl eV v₃ vs₂, eAll eInt vs₂ l, eSl e_bool v₂ met2, eSl eInt v₉ part1, eSl eV v₁₂ [v₉]] := hW
          obtain ⟨c₉, hp⟩ := ck_some hp
          refine WO_x (hO₁₆.appV (bytes := 24) 0 hO₁₆.fr rfl (hO₁₆.sl 4 rfl : Sl eV k₁₂ v₁₂ [v₉]) rfl rfl (by simp only [List.all_cons, List.all_nil, Bool.and_true]; exact (hO₁₆.sl 3 rfl : Sl eInt k₁₂ v₉ part1).oneV) (by rw [(hO₁₆.allLen 1 rfl : (vs₂).length = (l).length)]; exact c₉) (by decide)) ?_
          rintro v₁₃ k₁₃ ⟨f₇, hW⟩
          have hO₁₇ : Own B h k₁₃ [eSl eV v₁₃ (vs₂ ++ [v₉]), eAll eInt vs₂ l, eSl e_bool v₂ met2, eSl eInt v₉ part1, eSl eV v₁₂ [v₉]] := hW
          have hO₁₈ : Own B h k₁₃ [eSl eV v₁₃ (vs₂ ++ [v₉]), eAll eInt (vs₂ ++ [v₉]) (l ++ [part1]), eSl e_bool v₂ met2, eNone, eSl eV v₁₂ [v₉]] := hO₁₇.absorb 1 3 rfl rfl (by decide)
          refine WO_v (a_mv (v := v₁₃) rfl) ?_
          refine WO_end ?_
          refine blk_n ?_
          refine then_n ?_
          refine W_rg ?_
          obtain ⟨c₁₀, hp⟩ := ck_some hp
          refine WO_v (a_add (a := x1) (b := 1) q₃_22 rfl c₁₀) ?_
          refine WO_v (a_mv (v := .i .i64 (x1 + 1)) rfl) ?_
          refine WO_end ?_
          have hp := Option.some.inj hp; subst hp
          exact (Or.inl (Exists.intro (l ++ [part1], met2, x1 + 1) (And.intro rfl (And.intro rfl (Exists.intro v₁₃ (Exists.intro (vs₂ ++ [v₉]) (And.intro (q₃_0) (And.intro (rfl) (And.intro (q₃_6) (And.intro (q₃_21) (And.intro (rfl) (hO₁₈.pick [0, 1, 2] rfl (by decide)))))))))))))
      · refine W_cF (t := (decide (x1 < (cells.length : Int)))) rfl b₂ ?_
        refine W_ex ?_
        refine then_e ?_
        have hp := Option.some.inj hp; subst hp
        refine (Or.inr (Exists.intro l (And.intro rfl (And.intro (fun h => nomatch h) (fun he => ?_)))))
        subst he; exact (And.intro rfl (Exists.intro v₃ (Exists.intro vs₂ (And.intro (q₂_5) (hO₈.pick [0, 1] rfl (by decide))))))
    intro e₁ q₁ k₃ hJ₁
    obtain ⟨l1, rfl⟩ : ∃ x, x = o₁ := ⟨_, rfl⟩
    obtain ⟨rfl, v₄, vs₃, q₁_5, hO₅⟩ := hJ₁
    refine blk_i ?_
    refine then_n ?_
    refine W_sq ?_
    refine W_rg ?_
    refine WO_v (a_mv (v := v₄) q₁_5) ?_
    refine WO_v (a_mv (v := v₄) rfl) ?_
    refine WO_v (a_mv (v := .i .i64 0) rfl) ?_
    refine WO_end ?_
    refine then_n ?_
    refine W_rt ?_
    refine Ret_r (rs_t (n := 2) (v := v₄) rfl (rs_t (n := 3) (v := .i .i64 0) rfl rs_nil)) ?_
    have hp := Option.some.inj hp; subst hp
    exact (Exists.intro v₄ (Exists.intro vs₃ (And.intro rfl (hO₅.pick [0, 1] rfl (by decide)))))

theorem p_muntinref10_Turned.ok {h : Hp} {l : List T_api_Cell} {v_l : V} (s_l : Sl e_T_api_Cell h v_l l) {r : (List T_api_Cell)} (hp : p_muntinref10_Turned l = some r) :
    ∃ u k', Is G 116 [v_l] h u k' ∧ ∃ (v₁ : V), v₁ = u ∧ Own (fun r => r < h.n) h k' [eSl e_T_api_Cell v₁ r] := by
  refine WC.is (WC_of G_F_muntinref10_Turned ?_)
  unfold p_muntinref10_Turned at hp
  let B : Nat → Prop := (fun r => r < h.n)
  have hO : Own B h h [] := Own.start0 h
  refine W_sq ?_
  refine W_rg ?_
  refine WO_v (a_mv (v := .sn) rfl) ?_
  refine WO_end ?_
  refine then_n ?_
  refine W_sq ?_
  refine W_rg ?_
  refine WO_v (a_mv (v := .sn) rfl) ?_
  refine WO_end ?_
  refine then_n ?_
  refine W_sq ?_
  refine W_sq ?_
  refine W_rg ?_
  refine WO_v (a_mv (v := .i .i64 0) rfl) ?_
  refine WO_end ?_
  refine then_n ?_
  refine W_bl ?_
  obtain ⟨o₁, ho₁, hp⟩ := bd_some hp
  refine W.mono (Q := fun e fr k => match (generalizing := false) o₁ with
      | out1 => e = (.exit 0) ∧ ∃ (v₃ : V), fr 3 = v₃ ∧ Own B h k [eSl e_T_api_Cell v₃ out1]) ?_ ?_
  · clear hp
    have hO₂ : Own B h h [eSl e_T_api_Cell .sn ([] : List T_api_Cell)] := hO.nil e_T_api_Cell
    refine W_loopF (fun st fr k => match st with | (out, v) => ∃ (v₂ : V), fr 0 = v_l ∧ fr 3 = v₂ ∧ fr 4 = .i .i64 v ∧ Own B h k [eSl e_T_api_Cell v₂ out]) ho₁ (s := (([] : List T_api_Cell), 0)) (Exists.intro V.sn (And.intro (rfl) (And.intro (rfl) (And.intro (rfl) (hO₂.pick [0] rfl (by decide)))))) ?_
    rintro ⟨out, v⟩ q₂ k₂ ⟨v₂, q₂_0, q₂_3, q₂_4, hO₃⟩ o₂ hp
    dsimp only [p_muntinref10_Turned.s0] at hp
    refine W_sq ?_
    refine W_sq ?_
    refine W_rg ?_
    refine WO_v (a_mv (v := .i .i64 v) q₂_4) ?_
    refine WO_v (a_mv (v := v_l) q₂_0) ?_
    refine WO_v (a_len (hO₃.rd0 s_l.rd : Sl e_T_api_Cell k₂ v_l l) rfl) ?_
    refine WO_v (a_lss (a := v) (b := (l.length : Int)) rfl rfl) ?_
    refine WO_end ?_
    refine then_n ?_
    rcases if_some hp with ⟨b₁, hp⟩ | ⟨b₁, hp⟩
    · refine W_cT (t := (decide (v < (l.length : Int)))) rfl b₁ ?_
      refine W_sk ?_
      refine then_n ?_
      refine W_sq ?_
      refine W_bl ?_
      refine W_sq ?_
      refine W_rg ?_
      refine WO_v (a_mv (v := v_l) q₂_0) ?_
      refine WO_v (a_mv (v := .i .i64 v) q₂_4) ?_
      obtain ⟨c₁, hp⟩ := ck_some hp
      refine WO_v (a_ixa (E := e_T_api_Cell) (z := v) (hO₃.rd0 s_l.rd : Sl e_T_api_Cell k₂ v_l l) rfl rfl c₁) ?_
      refine WO_v (a_ldA (E := e_T_api_Cell) (hO₃.rd0 s_l.rd : Sl e_T_api_Cell k₂ v_l l) rfl (toNat_lt c₁)) ?_
      refine WO_x (hO₃.alloc (cs := e_T_api_Cell.c (⟨⟨0, 0, 0, 0⟩, ⟨0, 0, 0, 0⟩⟩ : T_api_Cell)) hO₃.fr) ?_
      rintro _ k₃ ⟨r₁, rfl, n₁, f₁, hW⟩
      have hO₄ : Own B h k₃ [eSl e_T_api_Cell v₂ out, eBox r₁ (e_T_api_Cell.c (⟨⟨0, 0, 0, 0⟩, ⟨0, 0, 0, 0⟩⟩ : T_api_Cell))] := hW
      refine WO_x (hO₄.stb (ws := e_T_api_Cell.c (gi l (v : Int).toNat)) (cs' := e_T_api_Cell.c (gi l (v : Int).toNat)) (v := .ag (e_T_api_Cell.c (gi l (v : Int).toNat))) 1 rfl rfl rfl rfl ⟨rfl, Nat.le_of_ble_eq_true rfl, rfl⟩ rfl) ?_
      rintro _ k₄ ⟨rfl, f₂, m₁, hW⟩
      have hO₅ : Own B h k₄ [eSl e_T_api_Cell v₂ out, eBox r₁ (e_T_api_Cell.c (gi l (v : Int).toNat))] := hW
      refine WO_end ?_
      refine then_n ?_
      refine W_sq ?_
      refine W_sq ?_
      refine W_rg ?_
      refine WO_v (a_mv (v := .i .i64 0) rfl) ?_
      refine WO_end ?_
      refine then_n ?_
      refine W_bl ?_
      obtain ⟨o₃, ho₂, hp⟩ := bd_some hp
      refine W.mono (Q := fun e fr k => match (generalizing := false) o₃ with
          | c1 => e = (.exit 2) ∧ fr 0 = v_l ∧ fr 3 = v₂ ∧ fr 4 = .i .i64 v ∧ fr 5 = .p r₁ 0 ∧ Own B h k [eSl e_T_api_Cell v₂ out, eBox r₁ (e_T_api_Cell.c c1)]) ?_ ?_
      · clear hp
        refine W_loopF (fun st fr k => match st with | (c, d) => fr 0 = v_l ∧ fr 3 = v₂ ∧ fr 4 = .i .i64 v ∧ fr 5 = .p r₁ 0 ∧ fr 6 = .i .i64 d ∧ Own B h k [eSl e_T_api_Cell v₂ out, eBox r₁ (e_T_api_Cell.c c)]) ho₂ (s := (gi l (v : Int).toNat, 0)) (And.intro (q₂_0) (And.intro (q₂_3) (And.intro (q₂_4) (And.intro (rfl) (And.intro (rfl) (hO₅.pick [0, 1] rfl (by decide))))))) ?_
        rintro ⟨c, d⟩ q₄ k₆ ⟨q₄_0, q₄_3, q₄_4, q₄_5, q₄_6, hO₇⟩ o₄ hp
        dsimp only [p_muntinref10_Turned.s1] at hp
        refine W_sq ?_
        refine W_sq ?_
        refine W_rg ?_
        refine WO_v (a_mv (v := .i .i64 d) q₄_6) ?_
        refine WO_v (a_lss (a := d) (b := 4) rfl rfl) ?_
        refine WO_end ?_
        refine then_n ?_
        rcases if_some hp with ⟨b₂, hp⟩ | ⟨b₂, hp⟩
        · refine W_cT (t := (decide (d < 4))) rfl b₂ ?_
          refine W_sk ?_
          refine then_n ?_
          refine W_sq ?_
          refine W_bl ?_
          refine W_sq ?_
          refine W_rg ?_
          refine WO_v (a_mv (v := .i .i64 d) q₄_6) ?_
          obtain ⟨c₂, hp⟩ := ck_some hp
          refine WO_v (a_add (a := d) (b := 1) rfl rfl c₂) ?_
          refine WO_v (a_rem (a := (d + 1)) (b := 4) rfl rfl (by decide)) ?_
          refine WO_v (a_mv (v := v_l) q₄_0) ?_
          refine WO_v (a_mv (v := .i .i64 v) q₄_4) ?_
          refine WO_v (a_mv (v := .i .i64 d) q₄_6) ?_
          refine WO_v (a_ixa (E := e_T_api_Cell) (z := v) (hO₇.rd0 s_l.rd : Sl e_T_api_Cell k₆ v_l l) rfl rfl c₁) ?_
          refine WO_v (a_faE (off' := 0) (off2 := 0) (hO₇.rd0 s_l.rd : Sl e_T_api_Cell k₆ v_l l) (toNat_lt c₁) rfl rfl) ?_
          obtain ⟨c₃, hp⟩ := ck_some hp
          refine WO_v (a_ixaaE (off := 0) (off2 := (0 + (d : Int).toNat * 1)) (z := d) (hO₇.rd0 s_l.rd : Sl e_T_api_Cell k₆ v_l l) (toNat_lt c₁) rfl rfl c₃ rfl) ?_
          refine WO_v (a_ldE (w := .i .i64 (((gi l (v : Int).toNat).Next).get d)) (hO₇.rd0 s_l.rd : Sl e_T_api_Cell k₆ v_l l) rfl (toNat_lt c₁) (ld_T_api_Cell_Next c₃)) ?_
          refine WO_v (a_fa (r := r₁) (o := 0) (o' := 0) q₄_5 rfl) ?_
          obtain ⟨c₄, hp⟩ := ck_some hp
          refine WO_v (a_ixaa (o := 0) (o' := (0 + ((d + 1).tmod 4 : Int).toNat * 1)) (z := ((d + 1).tmod 4)) rfl rfl c₄ rfl) ?_
          refine WO_x (hO₇.stb (ws := [.i .i64 (((gi l (v : Int).toNat).Next).get d)]) (cs' := e_T_api_Cell.c ({ c with Next := c.Next.set ((d + 1).tmod 4) (((gi l (v : Int).toNat).Next).get d) })) (v := .i .i64 (((gi l (v : Int).toNat).Next).get d)) 1 rfl rfl rfl rfl ⟨rfl, (by have := c₄; exact (show 0 + ((d + 1).tmod 4 : Int).toNat * 1 + 1 ≤ 8 by omega)), rfl⟩ (st_T_api_Cell_Next c₄)) ?_
          rintro _ k₇ ⟨rfl, f₃, m₂, hW⟩
          have hO₈ : Own B h k₇ [eSl e_T_api_Cell v₂ out, eBox r₁ (e_T_api_Cell.c ({ c with Next := c.Next.set ((d + 1).tmod 4) (((gi l (v : Int).toNat).Next).get d) }))] := hW
          refine WO_end ?_
          refine then_n ?_
          refine W_rg ?_
          refine WO_v (a_mv (v := .i .i64 d) q₄_6) ?_
          refine WO_v (a_add (a := d) (b := 1) rfl rfl c₂) ?_
          refine WO_v (a_rem (a := (d + 1)) (b := 4) rfl rfl (by decide)) ?_
          refine WO_v (a_mv (v := v_l) q₄_0) ?_
          refine WO_v (a_mv (v := .i .i64 v) q₄_4) ?_
          refine WO_v (a_mv (v := .i .i64 d) q₄_6) ?_
          refine WO_v (a_ixa (E := e_T_api_Cell) (z := v) (hO₈.rd0 s_l.rd : Sl e_T_api_Cell k₇ v_l l) rfl rfl c₁) ?_
          refine WO_v (a_faE (off' := 0) (off2 := 4) (hO₈.rd0 s_l.rd : Sl e_T_api_Cell k₇ v_l l) (toNat_lt c₁) rfl rfl) ?_
          refine WO_v (a_ixaaE (off := 4) (off2 := (4 + (d : Int).toNat * 1)) (z := d) (hO₈.rd0 s_l.rd : Sl e_T_api_Cell k₇ v_l l) (toNat_lt c₁) rfl rfl c₃ rfl) ?_
          refine WO_v (a_ldE (w := .i .i64 (((gi l (v : Int).toNat).Owner).get d)) (hO₈.rd0 s_l.rd : Sl e_T_api_Cell k₇ v_l l) rfl (toNat_lt c₁) (ld_T_api_Cell_Owner c₃)) ?_
          refine WO_v (a_fa (r := r₁) (o := 0) (o' := 4) q₄_5 rfl) ?_
          refine WO_v (a_ixaa (o := 4) (o' := (4 + ((d + 1).tmod 4 : Int).toNat * 1)) (z := ((d + 1).tmod 4)) rfl rfl c₄ rfl) ?_
          refine WO_x (hO₈.stb (ws := [.i .i64 (((gi l (v : Int).toNat).Owner).get d)]) (cs' := e_T_api_Cell.c ({ { c with Next := c.Next.set ((d + 1).tmod 4) (((gi l (v : Int).toNat).Next).get d) } with Owner := (({ c with Next := c.Next.set ((d + 1).tmod 4) (((gi l (v : Int).toNat).Next).get d) }).Owner).set ((d + 1).tmod 4) (((gi l (v : Int).toNat).Owner).get d) })) (v := .i .i64 (((gi l (v : Int).toNat).Owner).get d)) 1 rfl rfl rfl rfl ⟨rfl, (by have := c₄; exact (show 4 + ((d + 1).tmod 4 : Int).toNat * 1 + 1 ≤ 8 by omega)), rfl⟩ (st_T_api_Cell_Owner c₄)) ?_
          rintro _ k₈ ⟨rfl, f₄, m₃, hW⟩
          have hO₉ : Own B h k₈ [eSl e_T_api_Cell v₂ out, eBox r₁ (e_T_api_Cell.c ({ { c with Next := c.Next.set ((d + 1).tmod 4) (((gi l (v : Int).toNat).Next).get d) } with Owner := (({ c with Next := c.Next.set ((d + 1).tmod 4) (((gi l (v : Int).toNat).Next).get d) }).Owner).set ((d + 1).tmod 4) (((gi l (v : Int).toNat).Owner).get d) }))] := hW
          refine WO_end ?_
          refine blk_n ?_
          refine then_n ?_
          refine W_rg ?_
          refine WO_v (a_mv (v := .i .i64 d) q₄_6) ?_
          refine WO_v (a_add (a := d) (b := 1) rfl rfl c₂) ?_
          refine WO_v (a_mv (v := .i .i64 (d + 1)) rfl) ?_
          refine WO_end ?_
          have hp := Option.some.inj hp; subst hp
          exact (Or.inl (Exists.intro ({ { c with Next := c.Next.set ((d + 1).tmod 4) (((gi l (v : Int).toNat).Next).get d) } with Owner := (({ c with Next := c.Next.set ((d + 1).tmod 4) (((gi l (v : Int).toNat).Next).get d) }).Owner).set ((d + 1).tmod 4) (((gi l (v : Int).toNat).Owner).get d) }, d + 1) (And.intro rfl (And.intro rfl (And.intro (q₄_0) (And.intro (q₄_3) (And.intro (q₄_4) (And.intro (q₄_5) (And.intro (rfl) (hO₉.pick [0, 1] rfl (by decide)))))))))))
        · refine W_cF (t := (decide (d < 4))) rfl b₂ ?_
          refine W_ex ?_
          refine then_e ?_
          have hp := Option.some.inj hp; subst hp
          refine (Or.inr (Exists.intro c (And.intro rfl (And.intro (fun h => nomatch h) (fun he => ?_)))))
          subst he; exact (And.intro rfl (And.intro (q₄_0) (And.intro (q₄_3) (And.intro (q₄_4) (And.intro (q₄_5) (hO₇.pick [0, 1] rfl (by decide)))))))
      intro e₂ q₃ k₅ hJ₂
      obtain ⟨c1, rfl⟩ : ∃ x, x = o₃ := ⟨_, rfl⟩
      obtain ⟨rfl, q₃_0, q₃_3, q₃_4, q₃_5, hO₆⟩ := hJ₂
      refine blk_i ?_
      refine then_n ?_
      refine W_rg ?_
      refine WO_v (a_mv (v := v₂) q₃_3) ?_
      refine WO_v (a_ldbA (cs := (e_T_api_Cell.c c1)) (ws := e_T_api_Cell.c c1) (hO₆.box 1 rfl) q₃_5 rfl) ?_
      refine WO_x (hO₆.bsl (E := e_T_api_Cell) (l := [c1]) hO₆.fr (by rw [(ev_cons (v := .ag (e_T_api_Cell.c c1)) rfl ev_nil)]; rfl) rfl) ?_
      rintro v₄ k₉ ⟨r₂, f₅, hW⟩
      have hO₁₀ : Own B h k₉ [eSl e_T_api_Cell v₂ out, eBox r₁ (e_T_api_Cell.c c1), eSl e_T_api_Cell v₄ [c1]] := hW
      obtain ⟨c₅, hp⟩ := ck_some hp
      refine WO_x (hO₁₀.app (E := e_T_api_Cell) (bytes := 64) 0 hO₁₀.fr rfl (hO₁₀.sl 2 rfl : Sl e_T_api_Cell k₉ v₄ [c1]) rfl rfl (fun _ => rfl) c₅ (by decide)) ?_
      rintro v₅ k₁₀ ⟨f₆, hW⟩
      have hO₁₁ : Own B h k₁₀ [eSl e_T_api_Cell v₅ (out ++ [c1]), eBox r₁ (e_T_api_Cell.c c1), eSl e_T_api_Cell v₄ [c1]] := hW
      refine WO_v (a_mv (v := v₅) rfl) ?_
      refine WO_end ?_
      refine blk_n ?_
      refine then_n ?_
      refine W_rg ?_
      refine WO_v (a_mv (v := .i .i64 v) q₃_4) ?_
      obtain ⟨c₆, hp⟩ := ck_some hp
      refine WO_v (a_add (a := v) (b := 1) rfl rfl c₆) ?_
      refine WO_v (a_mv (v := .i .i64 (v + 1)) rfl) ?_
      refine WO_end ?_
      have hp := Option.some.inj hp; subst hp
      exact (Or.inl (Exists.intro (out ++ [c1], v + 1) (And.intro rfl (And.intro rfl (Exists.intro v₅ (And.intro (q₃_0) (And.intro (rfl) (And.intro (rfl) (hO₁₁.pick [0] rfl (by decide))))))))))
    · refine W_cF (t := (decide (v < (l.length : Int)))) rfl b₁ ?_
      refine W_ex ?_
      refine then_e ?_
      have hp := Option.some.inj hp; subst hp
      refine (Or.inr (Exists.intro out (And.intro rfl (And.intro (fun h => nomatch h) (fun he => ?_)))))
      subst he; exact (And.intro rfl (Exists.intro v₂ (And.intro (q₂_3) (hO₃.pick [0] rfl (by decide)))))
  intro e₁ q₁ k₁ hJ₁
  obtain ⟨out1, rfl⟩ : ∃ x, x = o₁ := ⟨_, rfl⟩
  obtain ⟨rfl, v₃, q₁_3, hO₁⟩ := hJ₁
  refine blk_i ?_
  refine then_n ?_
  refine W_sq ?_
  refine W_rg ?_
  refine WO_v (a_mv (v := v₃) q₁_3) ?_
  refine WO_v (a_mv (v := v₃) rfl) ?_
  refine WO_end ?_
  refine then_n ?_
  refine W_rt ?_
  refine Ret_r (rs_t (n := 2) (v := v₃) rfl rs_nil) ?_
  have hp := Option.some.inj hp; subst hp
  exact (Exists.intro v₃ (And.intro rfl (hO₁.pick [0] rfl (by decide))))

theorem p_muntinref10_Join.ok {h : Hp} {l : List T_api_Cell} {v : Int} {d : Int} {w : Int} {o : Int} {v_l : V} (H : Own (Bm h [eSl e_T_api_Cell v_l l]) h h [eSl e_T_api_Cell v_l l]) {r : (List T_api_Cell) × Int} (hp : p_muntinref10_Join l v d w o = some r) :
    ∃ u k', Is G 53 [v_l, .i .i64 v, .i .i64 d, .i .i64 w, .i .i64 o] h u k' ∧ ∃ (v₁ : V), V.tu [v₁, .i .i64 r.2] = u ∧ Own (Bm h [eSl e_T_api_Cell v_l l]) h k' [eSl e_T_api_Cell v₁ r.1] := by
  refine WC.is (WC_of G_F_muntinref10_Join ?_)
  unfold p_muntinref10_Join at hp
  let B : Nat → Prop := (Bm h [eSl e_T_api_Cell v_l l])
  have hO : Own B h h [eSl e_T_api_Cell v_l l] := H
  refine W_sq ?_
  refine W_rg ?_
  refine WO_v (a_mv (v := .sn) rfl) ?_
  refine WO_v (a_mv (v := .i .i64 0) rfl) ?_
  refine WO_end ?_
  refine then_n ?_
  refine W_sq ?_
  refine W_sq ?_
  refine W_rg ?_
  refine WO_v (a_mv (v := .i .i64 v) rfl) ?_
  refine WO_v (a_lss (a := v) (b := 0) rfl rfl) ?_
  refine WO_v (a_mv (v := .b (decide (v < 0))) rfl) ?_
  refine WO_cut 5 (fun fr' k' => h = k' ∧ fr' 20 = .b ((decide (v < 0)) || (decide ((l.length : Int) ≤ v))) ∧ fr' 0 = v_l ∧ fr' 1 = .i .i64 v ∧ fr' 2 = .i .i64 d ∧ fr' 3 = .i .i64 w ∧ fr' 4 = .i .i64 o) ?_ ?_
  · rcases bc (decide (v < 0)) with b₁ | b₁
    · skip
      refine WO_off rfl b₁ ?_
      refine WO_off rfl b₁ ?_
      refine WO_off rfl b₁ ?_
      refine WO_off rfl b₁ ?_
      refine WO_v (a_pickT (t := (decide (v < 0))) (v := .b ((decide (v < 0)) || (decide ((l.length : Int) ≤ v)))) rfl b₁ (Eq.trans (b := V.b true) rfl (or_off b₁))) ?_
      refine WO_end ?_
      exact ⟨rfl, rfl, rfl, rfl, rfl, rfl, rfl⟩
    · skip
      refine WO_on rfl b₁ ?_
      refine WO_v (a_mv (v := .i .i64 v) rfl) ?_
      refine WO_on rfl b₁ ?_
      refine WO_v (a_mv (v := v_l) rfl) ?_
      refine WO_on rfl b₁ ?_
      refine WO_v (a_len (hO.sl 0 rfl : Sl e_T_api_Cell h v_l l) rfl) ?_
      refine WO_on rfl b₁ ?_
      refine WO_v (a_geq (a := v) (b := (l.length : Int)) rfl rfl) ?_
      refine WO_v (a_pickF (t := (decide (v < 0))) (v := .b ((decide (v < 0)) || (decide ((l.length : Int) ≤ v)))) rfl b₁ (Eq.trans (b := V.b (decide ((l.length : Int) ≤ v))) rfl (or_on b₁))) ?_
      refine WO_end ?_
      exact ⟨rfl, rfl, rfl, rfl, rfl, rfl, rfl⟩
  rintro frg₁ _ ⟨rfl, g₁_20, g₁_0, g₁_1, g₁_2, g₁_3, g₁_4⟩
  refine WO_v (a_mv (v := .b ((decide (v < 0)) || (decide ((l.length : Int) ≤ v)))) g₁_20) ?_
  refine WO_cut 3 (fun fr' k' => h = k' ∧ fr' 24 = .b (((decide (v < 0)) || (decide ((l.length : Int) ≤ v))) || (decide (w < 0))) ∧ fr' 0 = v_l ∧ fr' 1 = .i .i64 v ∧ fr' 2 = .i .i64 d ∧ fr' 3 = .i .i64 w ∧ fr' 4 = .i .i64 o) ?_ ?_
  · rcases bc ((decide (v < 0)) || (decide ((l.length : Int) ≤ v))) with b₂ | b₂
    · skip
      refine WO_off rfl b₂ ?_
      refine WO_off rfl b₂ ?_
      refine WO_v (a_pickT (t := ((decide (v < 0)) || (decide ((l.length : Int) ≤ v)))) (v := .b (((decide (v < 0)) || (decide ((l.length : Int) ≤ v))) || (decide (w < 0)))) rfl b₂ (Eq.trans (b := V.b true) rfl (or_off b₂))) ?_
      refine WO_end ?_
      exact ⟨rfl, rfl, g₁_0, g₁_1, g₁_2, g₁_3, g₁_4⟩
    · skip
      refine WO_on rfl b₂ ?_
      refine WO_v (a_mv (v := .i .i64 w) g₁_3) ?_
      refine WO_on rfl b₂ ?_
      refine WO_v (a_lss (a := w) (b := 0) rfl rfl) ?_
      refine WO_v (a_pickF (t := ((decide (v < 0)) || (decide ((l.length : Int) ≤ v)))) (v := .b (((decide (v < 0)) || (decide ((l.length : Int) ≤ v))) || (decide (w < 0)))) rfl b₂ (Eq.trans (b := V.b (decide (w < 0))) rfl (or_on b₂))) ?_
      refine WO_end ?_
      exact ⟨rfl, rfl, g₁_0, g₁_1, g₁_2, g₁_3, g₁_4⟩
  rintro frg₂ _ ⟨rfl, g₂_24, g₂_0, g₂_1, g₂_2, g₂_3, g₂_4⟩
  refine WO_v (a_mv (v := .b (((decide (v < 0)) || (decide ((l.length : Int) ≤ v))) || (decide (w < 0)))) g₂_24) ?_
  refine WO_cut 5 (fun fr' k' => h = k' ∧ fr' 30 = .b ((((decide (v < 0)) || (decide ((l.length : Int) ≤ v))) || (decide (w < 0))) || (decide ((l.length : Int) ≤ w))) ∧ fr' 0 = v_l ∧ fr' 1 = .i .i64 v ∧ fr' 2 = .i .i64 d ∧ fr' 3 = .i .i64 w ∧ fr' 4 = .i .i64 o) ?_ ?_
  · rcases bc (((decide (v < 0)) || (decide ((l.length : Int) ≤ v))) || (decide (w < 0))) with b₃ | b₃
    · skip
      refine WO_off rfl b₃ ?_
      refine WO_off rfl b₃ ?_
      refine WO_off rfl b₃ ?_
      refine WO_off rfl b₃ ?_
      refine WO_v (a_pickT (t := (((decide (v < 0)) || (decide ((l.length : Int) ≤ v))) || (decide (w < 0)))) (v := .b ((((decide (v < 0)) || (decide ((l.length : Int) ≤ v))) || (decide (w < 0))) || (decide ((l.length : Int) ≤ w)))) rfl b₃ (Eq.trans (b := V.b true) rfl (or_off b₃))) ?_
      refine WO_end ?_
      exact ⟨rfl, rfl, g₂_0, g₂_1, g₂_2, g₂_3, g₂_4⟩
    · skip
      refine WO_on rfl b₃ ?_
      refine WO_v (a_mv (v := .i .i64 w) g₂_3) ?_
      refine WO_on rfl b₃ ?_
      refine WO_v (a_mv (v := v_l) g₂_0) ?_
      refine WO_on rfl b₃ ?_
      refine WO_v (a_len (hO.sl 0 rfl : Sl e_T_api_Cell h v_l l) rfl) ?_
      refine WO_on rfl b₃ ?_
      refine WO_v (a_geq (a := w) (b := (l.length : Int)) rfl rfl) ?_
      refine WO_v (a_pickF (t := (((decide (v < 0)) || (decide ((l.length : Int) ≤ v))) || (decide (w < 0)))) (v := .b ((((decide (v < 0)) || (decide ((l.length : Int) ≤ v))) || (decide (w < 0))) || (decide ((l.length : Int) ≤ w)))) rfl b₃ (Eq.trans (b := V.b (decide ((l.length : Int) ≤ w))) rfl (or_on b₃))) ?_
      refine WO_end ?_
      exact ⟨rfl, rfl, g₂_0, g₂_1, g₂_2, g₂_3, g₂_4⟩
  rintro frg₃ _ ⟨rfl, g₃_30, g₃_0, g₃_1, g₃_2, g₃_3, g₃_4⟩
  refine WO_v (a_mv (v := .b ((((decide (v < 0)) || (decide ((l.length : Int) ≤ v))) || (decide (w < 0))) || (decide ((l.length : Int) ≤ w)))) g₃_30) ?_
  refine WO_cut 4 (fun fr' k' => h = k' ∧ fr' 35 = .b (((((decide (v < 0)) || (decide ((l.length : Int) ≤ v))) || (decide (w < 0))) || (decide ((l.length : Int) ≤ w))) || (decide (v = w))) ∧ fr' 0 = v_l ∧ fr' 1 = .i .i64 v ∧ fr' 2 = .i .i64 d ∧ fr' 3 = .i .i64 w ∧ fr' 4 = .i .i64 o) ?_ ?_
  · rcases bc ((((decide (v < 0)) || (decide ((l.length : Int) ≤ v))) || (decide (w < 0))) || (decide ((l.length : Int) ≤ w))) with b₄ | b₄
    · skip
      refine WO_off rfl b₄ ?_
      refine WO_off rfl b₄ ?_
      refine WO_off rfl b₄ ?_
      refine WO_v (a_pickT (t := ((((decide (v < 0)) || (decide ((l.length : Int) ≤ v))) || (decide (w < 0))) || (decide ((l.length : Int) ≤ w)))) (v := .b (((((decide (v < 0)) || (decide ((l.length : Int) ≤ v))) || (decide (w < 0))) || (decide ((l.length : Int) ≤ w))) || (decide (v = w)))) rfl b₄ (Eq.trans (b := V.b true) rfl (or_off b₄))) ?_
      refine WO_end ?_
      exact ⟨rfl, rfl, g₃_0, g₃_1, g₃_2, g₃_3, g₃_4⟩
    · skip
      refine WO_on rfl b₄ ?_
      refine WO_v (a_mv (v := .i .i64 v) g₃_1) ?_
      refine WO_on rfl b₄ ?_
      refine WO_v (a_mv (v := .i .i64 w) g₃_3) ?_
      refine WO_on rfl b₄ ?_
      refine WO_v (a_eqI (a := v) (b := w) rfl rfl) ?_
      refine WO_v (a_pickF (t := ((((decide (v < 0)) || (decide ((l.length : Int) ≤ v))) || (decide (w < 0))) || (decide ((l.length : Int) ≤ w)))) (v := .b (((((decide (v < 0)) || (decide ((l.length : Int) ≤ v))) || (decide (w < 0))) || (decide ((l.length : Int) ≤ w))) || (decide (v = w)))) rfl b₄ (Eq.trans (b := V.b (decide (v = w))) rfl (or_on b₄))) ?_
      refine WO_end ?_
      exact ⟨rfl, rfl, g₃_0, g₃_1, g₃_2, g₃_3, g₃_4⟩
  rintro frg₄ _ ⟨rfl, g₄_35, g₄_0, g₄_1, g₄_2, g₄_3, g₄_4⟩
  refine WO_v (a_mv (v := .b (((((decide (v < 0)) || (decide ((l.length : Int) ≤ v))) || (decide (w < 0))) || (decide ((l.length : Int) ≤ w))) || (decide (v = w)))) g₄_35) ?_
  refine WO_cut 3 (fun fr' k' => h = k' ∧ fr' 39 = .b ((((((decide (v < 0)) || (decide ((l.length : Int) ≤ v))) || (decide (w < 0))) || (decide ((l.length : Int) ≤ w))) || (decide (v = w))) || (decide (d < 0))) ∧ fr' 0 = v_l ∧ fr' 1 = .i .i64 v ∧ fr' 2 = .i .i64 d ∧ fr' 3 = .i .i64 w ∧ fr' 4 = .i .i64 o) ?_ ?_
  · rcases bc (((((decide (v < 0)) || (decide ((l.length : Int) ≤ v))) || (decide (w < 0))) || (decide ((l.length : Int) ≤ w))) || (decide (v = w))) with b₅ | b₅
    · skip
      refine WO_off rfl b₅ ?_
      refine WO_off rfl b₅ ?_
      refine WO_v (a_pickT (t := (((((decide (v < 0)) || (decide ((l.length : Int) ≤ v))) || (decide (w < 0))) || (decide ((l.length : Int) ≤ w))) || (decide (v = w)))) (v := .b ((((((decide (v < 0)) || (decide ((l.length : Int) ≤ v))) || (decide (w < 0))) || (decide ((l.length : Int) ≤ w))) || (decide (v = w))) || (decide (d < 0)))) rfl b₅ (Eq.trans (b := V.b true) rfl (or_off b₅))) ?_
      refine WO_end ?_
      exact ⟨rfl, rfl, g₄_0, g₄_1, g₄_2, g₄_3, g₄_4⟩
    · skip
      refine WO_on rfl b₅ ?_
      refine WO_v (a_mv (v := .i .i64 d) g₄_2) ?_
      refine WO_on rfl b₅ ?_
      refine WO_v (a_lss (a := d) (b := 0) rfl rfl) ?_
      refine WO_v (a_pickF (t := (((((decide (v < 0)) || (decide ((l.length : Int) ≤ v))) || (decide (w < 0))) || (decide ((l.length : Int) ≤ w))) || (decide (v = w)))) (v := .b ((((((decide (v < 0)) || (decide ((l.length : Int) ≤ v))) || (decide (w < 0))) || (decide ((l.length : Int) ≤ w))) || (decide (v = w))) || (decide (d < 0)))) rfl b₅ (Eq.trans (b := V.b (decide (d < 0))) rfl (or_on b₅))) ?_
      refine WO_end ?_
      exact ⟨rfl, rfl, g₄_0, g₄_1, g₄_2, g₄_3, g₄_4⟩
  rintro frg₅ _ ⟨rfl, g₅_39, g₅_0, g₅_1, g₅_2, g₅_3, g₅_4⟩
  refine WO_v (a_mv (v := .b ((((((decide (v < 0)) || (decide ((l.length : Int) ≤ v))) || (decide (w < 0))) || (decide ((l.length : Int) ≤ w))) || (decide (v = w))) || (decide (d < 0)))) g₅_39) ?_
  refine WO_cut 3 (fun fr' k' => h = k' ∧ fr' 43 = .b (((((((decide (v < 0)) || (decide ((l.length : Int) ≤ v))) || (decide (w < 0))) || (decide ((l.length : Int) ≤ w))) || (decide (v = w))) || (decide (d < 0))) || (decide (3 < d))) ∧ fr' 0 = v_l ∧ fr' 1 = .i .i64 v ∧ fr' 2 = .i .i64 d ∧ fr' 3 = .i .i64 w ∧ fr' 4 = .i .i64 o) ?_ ?_
  · rcases bc ((((((decide (v < 0)) || (decide ((l.length : Int) ≤ v))) || (decide (w < 0))) || (decide ((l.length : Int) ≤ w))) || (decide (v = w))) || (decide (d < 0))) with b₆ | b₆
    · skip
      refine WO_off rfl b₆ ?_
      refine WO_off rfl b₆ ?_
      refine WO_v (a_pickT (t := ((((((decide (v < 0)) || (decide ((l.length : Int) ≤ v))) || (decide (w < 0))) || (decide ((l.length : Int) ≤ w))) || (decide (v = w))) || (decide (d < 0)))) (v := .b (((((((decide (v < 0)) || (decide ((l.length : Int) ≤ v))) || (decide (w < 0))) || (decide ((l.length : Int) ≤ w))) || (decide (v = w))) || (decide (d < 0))) || (decide (3 < d)))) rfl b₆ (Eq.trans (b := V.b true) rfl (or_off b₆))) ?_
      refine WO_end ?_
      exact ⟨rfl, rfl, g₅_0, g₅_1, g₅_2, g₅_3, g₅_4⟩
    · skip
      refine WO_on rfl b₆ ?_
      refine WO_v (a_mv (v := .i .i64 d) g₅_2) ?_
      refine WO_on rfl b₆ ?_
      refine WO_v (a_gtr (a := d) (b := 3) rfl rfl) ?_
      refine WO_v (a_pickF (t := ((((((decide (v < 0)) || (decide ((l.length : Int) ≤ v))) || (decide (w < 0))) || (decide ((l.length : Int) ≤ w))) || (decide (v = w))) || (decide (d < 0)))) (v := .b (((((((decide (v < 0)) || (decide ((l.length : Int) ≤ v))) || (decide (w < 0))) || (decide ((l.length : Int) ≤ w))) || (decide (v = w))) || (decide (d < 0))) || (decide (3 < d)))) rfl b₆ (Eq.trans (b := V.b (decide (3 < d))) rfl (or_on b₆))) ?_
      refine WO_end ?_
      exact ⟨rfl, rfl, g₅_0, g₅_1, g₅_2, g₅_3, g₅_4⟩
  rintro frg₆ _ ⟨rfl, g₆_43, g₆_0, g₆_1, g₆_2, g₆_3, g₆_4⟩
  refine WO_v (a_mv (v := .b (((((((decide (v < 0)) || (decide ((l.length : Int) ≤ v))) || (decide (w < 0))) || (decide ((l.length : Int) ≤ w))) || (decide (v = w))) || (decide (d < 0))) || (decide (3 < d)))) g₆_43) ?_
  refine WO_cut 3 (fun fr' k' => h = k' ∧ fr' 47 = .b ((((((((decide (v < 0)) || (decide ((l.length : Int) ≤ v))) || (decide (w < 0))) || (decide ((l.length : Int) ≤ w))) || (decide (v = w))) || (decide (d < 0))) || (decide (3 < d))) || (decide (o < (-2)))) ∧ fr' 0 = v_l ∧ fr' 1 = .i .i64 v ∧ fr' 2 = .i .i64 d ∧ fr' 3 = .i .i64 w ∧ fr' 4 = .i .i64 o) ?_ ?_
  · rcases bc (((((((decide (v < 0)) || (decide ((l.length : Int) ≤ v))) || (decide (w < 0))) || (decide ((l.length : Int) ≤ w))) || (decide (v = w))) || (decide (d < 0))) || (decide (3 < d))) with b₇ | b₇
    · skip
      refine WO_off rfl b₇ ?_
      refine WO_off rfl b₇ ?_
      refine WO_v (a_pickT (t := (((((((decide (v < 0)) || (decide ((l.length : Int) ≤ v))) || (decide (w < 0))) || (decide ((l.length : Int) ≤ w))) || (decide (v = w))) || (decide (d < 0))) || (decide (3 < d)))) (v := .b ((((((((decide (v < 0)) || (decide ((l.length : Int) ≤ v))) || (decide (w < 0))) || (decide ((l.length : Int) ≤ w))) || (decide (v = w))) || (decide (d < 0))) || (decide (3 < d))) || (decide (o < (-2))))) rfl b₇ (Eq.trans (b := V.b true) rfl (or_off b₇))) ?_
      refine WO_end ?_
      exact ⟨rfl, rfl, g₆_0, g₆_1, g₆_2, g₆_3, g₆_4⟩
    · skip
      refine WO_on rfl b₇ ?_
      refine WO_v (a_mv (v := .i .i64 o) g₆_4) ?_
      refine WO_on rfl b₇ ?_
      refine WO_v (a_lss (a := o) (b := (-2)) rfl rfl) ?_
      refine WO_v (a_pickF (t := (((((((decide (v < 0)) || (decide ((l.length : Int) ≤ v))) || (decide (w < 0))) || (decide ((l.length : Int) ≤ w))) || (decide (v = w))) || (decide (d < 0))) || (decide (3 < d)))) (v := .b ((((((((decide (v < 0)) || (decide ((l.length : Int) ≤ v))) || (decide (w < 0))) || (decide ((l.length : Int) ≤ w))) || (decide (v = w))) || (decide (d < 0))) || (decide (3 < d))) || (decide (o < (-2))))) rfl b₇ (Eq.trans (b := V.b (decide (o < (-2)))) rfl (or_on b₇))) ?_
      refine WO_end ?_
      exact ⟨rfl, rfl, g₆_0, g₆_1, g₆_2, g₆_3, g₆_4⟩
  rintro frg₇ _ ⟨rfl, g₇_47, g₇_0, g₇_1, g₇_2, g₇_3, g₇_4⟩
  refine WO_end ?_
  refine then_n ?_
  rcases if_some hp with ⟨b₈, hp⟩ | ⟨b₈, hp⟩
  · refine W_cT (t := ((((((((decide (v < 0)) || (decide ((l.length : Int) ≤ v))) || (decide (w < 0))) || (decide ((l.length : Int) ≤ w))) || (decide (v = w))) || (decide (d < 0))) || (decide (3 < d))) || (decide (o < (-2))))) g₇_47 b₈ ?_
    refine W_sq ?_
    refine W_rg ?_
    refine WO_v (a_mv (v := v_l) g₇_0) ?_
    refine WO_v (a_mv (v := v_l) rfl) ?_
    refine WO_v (a_mv (v := .i .i64 2) rfl) ?_
    refine WO_end ?_
    refine then_n ?_
    refine W_rt ?_
    refine then_r ?_
    refine Ret_r (rs_t (n := 10) (v := v_l) rfl (rs_t (n := 11) (v := .i .i64 2) rfl rs_nil)) ?_
    have hp := Option.some.inj hp; subst hp
    exact (Exists.intro v_l (And.intro rfl (hO.pick [0] rfl (by decide))))
  · refine W_cF (t := ((((((((decide (v < 0)) || (decide ((l.length : Int) ≤ v))) || (decide (w < 0))) || (decide ((l.length : Int) ≤ w))) || (decide (v = w))) || (decide (d < 0))) || (decide (3 < d))) || (decide (o < (-2))))) g₇_47 b₈ ?_
    refine W_sk ?_
    refine then_n ?_
    refine W_sq ?_
    refine W_sq ?_
    refine W_rg ?_
    refine WO_v (a_mv (v := v_l) g₇_0) ?_
    refine WO_v (a_mv (v := .i .i64 v) g₇_1) ?_
    refine WO_v (a_mv (v := .i .i64 d) g₇_2) ?_
    obtain ⟨c₁, hp⟩ := ck_some hp
    refine WO_v (a_ixa (E := e_T_api_Cell) (z := v) (hO.sl 0 rfl : Sl e_T_api_Cell h v_l l) rfl rfl c₁) ?_
    refine WO_v (a_faE (off' := 0) (off2 := 0) (hO.sl 0 rfl : Sl e_T_api_Cell h v_l l) (toNat_lt c₁) rfl rfl) ?_
    obtain ⟨c₂, hp⟩ := ck_some hp
    refine WO_v (a_ixaaE (off := 0) (off2 := (0 + (d : Int).toNat * 1)) (z := d) (hO.sl 0 rfl : Sl e_T_api_Cell h v_l l) (toNat_lt c₁) rfl rfl c₂ rfl) ?_
    refine WO_v (a_ldE (w := .i .i64 (((gi l (v : Int).toNat).Next).get d)) (hO.sl 0 rfl : Sl e_T_api_Cell h v_l l) rfl (toNat_lt c₁) (ld_T_api_Cell_Next c₂)) ?_
    refine WO_v (a_neI (a := (((gi l (v : Int).toNat).Next).get d)) (b := (-1)) rfl rfl) ?_
    refine WO_v (a_mv (v := .b (!(decide (((gi l (v : Int).toNat).Next).get d = (-1))))) rfl) ?_
    obtain ⟨t, hv₁, hp⟩ := bd_some hp
    refine WO_cut 11 (fun fr' k' => h = k' ∧ fr' 68 = .b t ∧ fr' 0 = v_l ∧ fr' 1 = .i .i64 v ∧ fr' 2 = .i .i64 d ∧ fr' 3 = .i .i64 w ∧ fr' 4 = .i .i64 o) ?_ ?_
    · clear hp; rcases if_some hv₁ with ⟨b₉, hp⟩ | ⟨b₉, hp⟩
      · skip
        refine WO_off rfl b₉ ?_
        refine WO_off rfl b₉ ?_
        refine WO_off rfl b₉ ?_
        refine WO_off rfl b₉ ?_
        refine WO_off rfl b₉ ?_
        refine WO_off rfl b₉ ?_
        refine WO_off rfl b₉ ?_
        refine WO_off rfl b₉ ?_
        refine WO_off rfl b₉ ?_
        refine WO_off rfl b₉ ?_
        refine WO_v (a_pickT (t := (!(decide (((gi l (v : Int).toNat).Next).get d = (-1))))) (v := .b t) rfl b₉ (Eq.trans (b := V.b true) rfl (congrArg V.b (Option.some.inj hp)))) ?_
        refine WO_end ?_
        exact ⟨rfl, rfl, g₇_0, g₇_1, g₇_2, g₇_3, g₇_4⟩
      · skip
        refine WO_on rfl b₉ ?_
        refine WO_v (a_mv (v := v_l) g₇_0) ?_
        refine WO_on rfl b₉ ?_
        refine WO_v (a_mv (v := .i .i64 w) g₇_3) ?_
        refine WO_on rfl b₉ ?_
        refine WO_v (a_mv (v := .i .i64 d) g₇_2) ?_
        refine WO_on rfl b₉ ?_
        obtain ⟨c₃, hp⟩ := ck_some hp
        refine WO_v (a_add (a := d) (b := 2) rfl rfl c₃) ?_
        refine WO_on rfl b₉ ?_
        refine WO_v (a_rem (a := (d + 2)) (b := 4) rfl rfl (by decide)) ?_
        refine WO_on rfl b₉ ?_
        obtain ⟨c₄, hp⟩ := ck_some hp
        refine WO_v (a_ixa (E := e_T_api_Cell) (z := w) (hO.sl 0 rfl : Sl e_T_api_Cell h v_l l) rfl rfl c₄) ?_
        refine WO_on rfl b₉ ?_
        refine WO_v (a_faE (off' := 0) (off2 := 0) (hO.sl 0 rfl : Sl e_T_api_Cell h v_l l) (toNat_lt c₄) rfl rfl) ?_
        refine WO_on rfl b₉ ?_
        obtain ⟨c₅, hp⟩ := ck_some hp
        refine WO_v (a_ixaaE (off := 0) (off2 := (0 + ((d + 2).tmod 4 : Int).toNat * 1)) (z := ((d + 2).tmod 4)) (hO.sl 0 rfl : Sl e_T_api_Cell h v_l l) (toNat_lt c₄) rfl rfl c₅ rfl) ?_
        refine WO_on rfl b₉ ?_
        refine WO_v (a_ldE (w := .i .i64 (((gi l (w : Int).toNat).Next).get ((d + 2).tmod 4))) (hO.sl 0 rfl : Sl e_T_api_Cell h v_l l) rfl (toNat_lt c₄) (ld_T_api_Cell_Next c₅)) ?_
        refine WO_on rfl b₉ ?_
        refine WO_v (a_neI (a := (((gi l (w : Int).toNat).Next).get ((d + 2).tmod 4))) (b := (-1)) rfl rfl) ?_
        refine WO_v (a_pickF (t := (!(decide (((gi l (v : Int).toNat).Next).get d = (-1))))) (v := .b t) rfl b₉ (Eq.trans (b := V.b (!(decide (((gi l (w : Int).toNat).Next).get ((d + 2).tmod 4) = (-1))))) rfl (congrArg V.b (Option.some.inj hp)))) ?_
        refine WO_end ?_
        exact ⟨rfl, rfl, g₇_0, g₇_1, g₇_2, g₇_3, g₇_4⟩
    rintro frg₈ _ ⟨rfl, g₈_68, g₈_0, g₈_1, g₈_2, g₈_3, g₈_4⟩
    refine WO_end ?_
    refine then_n ?_
    rcases if_some hp with ⟨b₁₀, hp⟩ | ⟨b₁₀, hp⟩
    · refine W_cT (t := t) g₈_68 b₁₀ ?_
      refine W_sq ?_
      refine W_rg ?_
      refine WO_v (a_mv (v := v_l) g₈_0) ?_
      refine WO_v (a_mv (v := v_l) rfl) ?_
      refine WO_v (a_mv (v := .i .i64 9) rfl) ?_
      refine WO_end ?_
      refine then_n ?_
      refine W_rt ?_
      refine then_r ?_
      refine Ret_r (rs_t (n := 10) (v := v_l) rfl (rs_t (n := 11) (v := .i .i64 9) rfl rs_nil)) ?_
      have hp := Option.some.inj hp; subst hp
      exact (Exists.intro v_l (And.intro rfl (hO.pick [0] rfl (by decide))))
    · refine W_cF (t := t) g₈_68 b₁₀ ?_
      refine W_sk ?_
      refine then_n ?_
      refine W_sq ?_
      refine W_rg ?_
      refine WO_v (a_mv (v := v_l) g₈_0) ?_
      refine WO_v (a_mv (v := .i .i64 v) g₈_1) ?_
      refine WO_v (a_mv (v := .i .i64 d) g₈_2) ?_
      refine WO_v (a_mv (v := .i .i64 w) g₈_3) ?_
      refine WO_v (a_mv (v := .i .i64 o) g₈_4) ?_
      obtain ⟨x, hx₁, hp⟩ := bd_some hp
      obtain ⟨u₁, k₁, ca₁, v₂, rfl, hW₁⟩ := p_muntinref10_with.ok (h := h)  (hO.sl 0 rfl : Sl e_T_api_Cell h v_l l) hx₁
      refine WO_c (id := 65) (caps := []) rfl (mp_cons (v := v_l) rfl (mp_cons (v := .i .i64 v) rfl (mp_cons (v := .i .i64 d) rfl (mp_cons (v := .i .i64 w) rfl (mp_cons (v := .i .i64 o) rfl mp_nil))))) ca₁ ?_
      have hO₁ : Own B h k₁ [eSl e_T_api_Cell v_l l, eSl e_T_api_Cell v₂ x] := hO.call hW₁ rfl
      refine WO_v (a_mv (v := v₂) rfl) ?_
      refine WO_end ?_
      refine then_n ?_
      refine W_sq ?_
      refine W_rg ?_
      refine WO_v (a_mv (v := v₂) rfl) ?_
      refine WO_v (a_mv (v := v₂) rfl) ?_
      refine WO_v (a_mv (v := .i .i64 0) rfl) ?_
      refine WO_end ?_
      refine then_n ?_
      refine W_rt ?_
      refine Ret_r (rs_t (n := 10) (v := v₂) rfl (rs_t (n := 11) (v := .i .i64 0) rfl rs_nil)) ?_
      have hp := Option.some.inj hp; subst hp
      exact (Exists.intro v₂ (And.intro rfl (hO₁.pick [1] rfl (by decide))))

theorem p_slices_Reverse_int.ok {h : Hp} {s : List Int} {v_s : V} (H : Own (Bm h [eSl eInt v_s s]) h h [eSl eInt v_s s]) {r : (List Int)} (hp : p_slices_Reverse_int s = some r) :
    ∃ u k', Is G 68 [v_s] h u k' ∧ V.tu [] = u ∧ Own (Bm h [eSl eInt v_s s]) h k' [eSl eInt v_s r] := by
  refine WC.is (WC_of G_F_slices_Reverse_int ?_)
  unfold p_slices_Reverse_int at hp
  let B : Nat → Prop := (Bm h [eSl eInt v_s s])
  have hO : Own B h h [eSl eInt v_s s] := H
  refine W_sq ?_
  refine W_rg ?_
  refine WO_v (a_mv (v := v_s) rfl) ?_
  refine WO_v (a_len (hO.sl 0 rfl : Sl eInt h v_s s) rfl) ?_
  obtain ⟨c₁, hp⟩ := ck_some hp
  refine WO_v (a_sub (a := (s.length : Int)) (b := 1) rfl rfl c₁) ?_
  refine WO_v (a_mv (v := .i .i64 0) rfl) ?_
  refine WO_v (a_mv (v := .i .i64 ((s.length : Int) - 1)) rfl) ?_
  refine WO_end ?_
  refine then_n ?_
  refine W_bl ?_
  obtain ⟨o₁, ho₁, hp⟩ := bd_some hp
  refine W.mono (Q := fun e fr k => match (generalizing := false) o₁ with
      | p0 => e = (.exit 0) ∧ Own B h k [eSl eInt v_s p0]) ?_ ?_
  · clear hp
    refine W_loopF (fun st fr k => match st with | (s1, i, j) => fr 0 = v_s ∧ fr 2 = .i .i64 i ∧ fr 3 = .i .i64 j ∧ Own B h k [eSl eInt v_s s1]) ho₁ (s := (s, 0, (s.length : Int) - 1)) (And.intro (rfl) (And.intro (rfl) (And.intro (rfl) (hO.pick [0] rfl (by decide))))) ?_
    rintro ⟨s1, i, j⟩ q₂ k₂ ⟨q₂_0, q₂_2, q₂_3, hO₂⟩ o₂ hp
    dsimp only [p_slices_Reverse_int.s0] at hp
    refine W_sq ?_
    refine W_sq ?_
    refine W_rg ?_
    refine WO_v (a_mv (v := .i .i64 i) q₂_2) ?_
    refine WO_v (a_mv (v := .i .i64 j) q₂_3) ?_
    refine WO_v (a_lss (a := i) (b := j) rfl rfl) ?_
    refine WO_end ?_
    refine then_n ?_
    rcases if_some hp with ⟨b₁, hp⟩ | ⟨b₁, hp⟩
    · refine W_cT (t := (decide (i < j))) rfl b₁ ?_
      refine W_sk ?_
      refine then_n ?_
      refine W_sq ?_
      refine W_bl ?_
      refine W_dr ?_
      have hW := hO₂.bump 16
      have fr₁ := Fresh.start k₂ 16
      have nb₁ : ∀ {i : Nat}, h.n ≤ k₂.n + i := Nat.le_trans hO₂.n (Nat.le_add_right _ _)
      have hO₃ : Own B h (k₂.bump 16) [eSl eInt v_s s1] := hW
      refine WD_v (a_mv (v := v_s) q₂_0) ?_
      refine WD_v (a_mv (v := .i .i64 i) q₂_2) ?_
      refine WD_v (a_mv (v := v_s) q₂_0) ?_
      refine WD_v (a_mv (v := .i .i64 j) q₂_3) ?_
      refine WD_v (a_mv (v := v_s) q₂_0) ?_
      refine WD_v (a_mv (v := .i .i64 j) q₂_3) ?_
      obtain ⟨c₂, hp⟩ := ck_some hp
      refine WD_v (a_ixa (E := eInt) (z := j) (hO₃.sl 0 rfl : Sl eInt (k₂.bump 16) v_s s1) rfl rfl c₂) ?_
      refine WD_v (a_ldE (w := .i .i64 (gi s1 (j : Int).toNat)) (hO₃.sl 0 rfl : Sl eInt (k₂.bump 16) v_s s1) rfl (toNat_lt c₂) rfl) ?_
      refine WD_v (a_mv (v := v_s) q₂_0) ?_
      refine WD_v (a_mv (v := .i .i64 i) q₂_2) ?_
      obtain ⟨c₃, hp⟩ := ck_some hp
      refine WD_v (a_ixa (E := eInt) (z := i) (hO₃.sl 0 rfl : Sl eInt (k₂.bump 16) v_s s1) rfl rfl c₃) ?_
      refine WD_v (a_ldE (w := .i .i64 (gi s1 (i : Int).toNat)) (hO₃.sl 0 rfl : Sl eInt (k₂.bump 16) v_s s1) rfl (toNat_lt c₃) rfl) ?_
      refine WD_v (a_ixa (E := eInt) (z := i) (hO₃.sl 0 rfl : Sl eInt (k₂.bump 16) v_s s1) rfl rfl c₃) ?_
      refine WD_x (hO₃.ste (E := eInt) (y := (gi s1 (j : Int).toNat)) (ws := [.i .i64 (gi s1 (j : Int).toNat)]) 0 rfl rfl (toNat_lt c₃) rfl rfl ⟨rfl, Nat.le_of_ble_eq_true rfl, rfl⟩ rfl) ?_
      rintro _ k₄ z₁ ⟨rfl, f₁, m₁, hW⟩
      have fr₂ := fr₁.kept f₁ (by decide)
      have hO₄ : Own B h k₄ [eSl eInt v_s (s1.set (i : Int).toNat (gi s1 (j : Int).toNat))] := hW
      obtain ⟨c₄, hp⟩ := ck_some hp
      refine WD_v (a_ixa (E := eInt) (z := j) (hO₄.sl 0 rfl : Sl eInt k₄ v_s (s1.set (i : Int).toNat (gi s1 (j : Int).toNat))) rfl rfl c₄) ?_
      refine WD_x (hO₄.ste (E := eInt) (y := (gi s1 (i : Int).toNat)) (ws := [.i .i64 (gi s1 (i : Int).toNat)]) 0 rfl rfl (toNat_lt c₄) rfl rfl ⟨rfl, Nat.le_of_ble_eq_true rfl, rfl⟩ rfl) ?_
      rintro _ k₅ z₂ ⟨rfl, f₂, m₂, hW⟩
      have fr₃ := fr₂.kept f₂ (by decide)
      have hO₅ : Own B h k₅ [eSl eInt v_s ((s1.set (i : Int).toNat (gi s1 (j : Int).toNat)).set (j : Int).toNat (gi s1 (i : Int).toNat))] := hW
      refine WD_end ?_
      refine And.intro ?_ ?_
      · intro q hq
        simp only [List.mem_cons, List.not_mem_nil, or_false] at hq
        rcases hq with rfl
        · refine ap_ll ?_ ?_
          · exact (fun h => nomatch h)
          · exact (fun h => nomatch h)
      refine blk_n ?_
      refine then_n ?_
      refine W_rg ?_
      refine WO_v (a_mv (v := .i .i64 i) q₂_2) ?_
      obtain ⟨c₅, hp⟩ := ck_some hp
      refine WO_v (a_add (a := i) (b := 1) rfl rfl c₅) ?_
      refine WO_v (a_mv (v := .i .i64 j) q₂_3) ?_
      obtain ⟨c₆, hp⟩ := ck_some hp
      refine WO_v (a_sub (a := j) (b := 1) rfl rfl c₆) ?_
      refine WO_v (a_mv (v := .i .i64 (i + 1)) rfl) ?_
      refine WO_v (a_mv (v := .i .i64 (j - 1)) rfl) ?_
      refine WO_end ?_
      have hp := Option.some.inj hp; subst hp
      exact (Or.inl (Exists.intro ((s1.set (i : Int).toNat (gi s1 (j : Int).toNat)).set (j : Int).toNat (gi s1 (i : Int).toNat), i + 1, j - 1) (And.intro rfl (And.intro rfl (And.intro (q₂_0) (And.intro (rfl) (And.intro (rfl) (hO₅.pick [0] rfl (by decide)))))))))
    · refine W_cF (t := (decide (i < j))) rfl b₁ ?_
      refine W_ex ?_
      refine then_e ?_
      have hp := Option.some.inj hp; subst hp
      refine (Or.inr (Exists.intro s1 (And.intro rfl (And.intro (fun h => nomatch h) (fun he => ?_)))))
      subst he; exact (And.intro rfl (hO₂.pick [0] rfl (by decide)))
  intro e₁ q₁ k₁ hJ₁
  obtain ⟨p0, rfl⟩ : ∃ x, x = o₁ := ⟨_, rfl⟩
  obtain ⟨rfl, hO₁⟩ := hJ₁
  refine blk_i ?_
  refine Ret_n rs_nil ?_
  have hp := Option.some.inj hp; subst hp
  exact (And.intro rfl (hO₁.pick [0] rfl (by decide)))

theorem p_join_Path.ok {h : Hp} {cells : List T_api_Cell} {v : Int} {w : Int} {v_cells : V} (s_cells : Sl e_T_api_Cell h v_cells cells) {r : (List Int) × Int} (hp : p_join_Path cells v w = some r) :
    ∃ u k', Is G 35 [v_cells, .i .i64 v, .i .i64 w] h u k' ∧ ∃ (v₁ : V), V.tu [v₁, .i .i64 r.2] = u ∧ Own (fun r => r < h.n) h k' [eSl eInt v₁ r.1] := by
  refine WC.is (WC_of G_F_join_Path ?_)
  unfold p_join_Path at hp
  let B : Nat → Prop := (fun r => r < h.n)
  have hO : Own B h h [] := Own.start0 h
  refine W_sq ?_
  refine W_rg ?_
  refine WO_v (a_mv (v := .sn) rfl) ?_
  refine WO_v (a_mv (v := .i .i64 0) rfl) ?_
  refine WO_end ?_
  refine then_n ?_
  refine W_sq ?_
  refine W_sq ?_
  refine W_rg ?_
  refine WO_v (a_mv (v := v_cells) rfl) ?_
  obtain ⟨x, hx₁, hp⟩ := bd_some hp
  obtain ⟨u₁, k₁, ca₁, rfl, hW₁⟩ := p_grid_Check.ok (h := h)  (hO.rd0 s_cells.rd : Sl e_T_api_Cell h v_cells cells) hx₁
  refine WO_c (id := 66) (caps := []) rfl (mp_cons (v := v_cells) rfl mp_nil) ca₁ ?_
  have hO₁ : Own B h k₁ [] := hO.call hW₁ rfl
  refine WO_v (a_mv (v := .i .i64 x) rfl) ?_
  refine WO_end ?_
  refine then_n ?_
  refine W_sq ?_
  refine W_rg ?_
  refine WO_v (a_mv (v := .i .i64 x) rfl) ?_
  refine WO_v (a_neI (a := x) (b := 0) rfl rfl) ?_
  refine WO_end ?_
  refine then_n ?_
  rcases if_some hp with ⟨b₁, hp⟩ | ⟨b₁, hp⟩
  · refine W_cT (t := (!(decide (x = 0)))) rfl b₁ ?_
    refine W_sq ?_
    refine W_rg ?_
    refine WO_v (a_mv (v := .i .i64 x) rfl) ?_
    refine WO_v (a_mv (v := .sn) rfl) ?_
    refine WO_v (a_mv (v := .i .i64 x) rfl) ?_
    refine WO_end ?_
    refine then_n ?_
    refine W_rt ?_
    refine then_r ?_
    have hO₂ : Own B h k₁ [eSl eInt .sn ([] : List Int)] := hO₁.nil eInt
    refine Ret_r (rs_t (n := 6) (v := .sn) rfl (rs_t (n := 7) (v := .i .i64 x) rfl rs_nil)) ?_
    have hp := Option.some.inj hp; subst hp
    exact (Exists.intro V.sn (And.intro rfl (hO₂.pick [0] rfl (by decide))))
  · refine W_cF (t := (!(decide (x = 0)))) rfl b₁ ?_
    refine W_sk ?_
    refine then_n ?_
    refine W_sq ?_
    refine W_sq ?_
    refine W_rg ?_
    refine WO_v (a_mv (v := .i .i64 v) rfl) ?_
    refine WO_v (a_mv (v := .i .i64 w) rfl) ?_
    refine WO_v (a_mn (a := v) (b := w) rfl rfl) ?_
    refine WO_v (a_lss (a := (min v w)) (b := 0) rfl rfl) ?_
    refine WO_v (a_mv (v := .b (decide ((min v w) < 0))) rfl) ?_
    refine WO_cut 7 (fun fr' k' => k₁ = k' ∧ fr' 29 = .b ((decide ((min v w) < 0)) || (decide ((cells.length : Int) ≤ (max v w)))) ∧ fr' 0 = v_cells ∧ fr' 1 = .i .i64 v ∧ fr' 2 = .i .i64 w) ?_ ?_
    · rcases bc (decide ((min v w) < 0)) with b₂ | b₂
      · skip
        refine WO_off rfl b₂ ?_
        refine WO_off rfl b₂ ?_
        refine WO_off rfl b₂ ?_
        refine WO_off rfl b₂ ?_
        refine WO_off rfl b₂ ?_
        refine WO_off rfl b₂ ?_
        refine WO_v (a_pickT (t := (decide ((min v w) < 0))) (v := .b ((decide ((min v w) < 0)) || (decide ((cells.length : Int) ≤ (max v w))))) rfl b₂ (Eq.trans (b := V.b true) rfl (or_off b₂))) ?_
        refine WO_end ?_
        exact ⟨rfl, rfl, rfl, rfl, rfl⟩
      · skip
        refine WO_on rfl b₂ ?_
        refine WO_v (a_mv (v := .i .i64 v) rfl) ?_
        refine WO_on rfl b₂ ?_
        refine WO_v (a_mv (v := .i .i64 w) rfl) ?_
        refine WO_on rfl b₂ ?_
        refine WO_v (a_mx (a := v) (b := w) rfl rfl) ?_
        refine WO_on rfl b₂ ?_
        refine WO_v (a_mv (v := v_cells) rfl) ?_
        refine WO_on rfl b₂ ?_
        refine WO_v (a_len (hO₁.rd0 s_cells.rd : Sl e_T_api_Cell k₁ v_cells cells) rfl) ?_
        refine WO_on rfl b₂ ?_
        refine WO_v (a_geq (a := (max v w)) (b := (cells.length : Int)) rfl rfl) ?_
        refine WO_v (a_pickF (t := (decide ((min v w) < 0))) (v := .b ((decide ((min v w) < 0)) || (decide ((cells.length : Int) ≤ (max v w))))) rfl b₂ (Eq.trans (b := V.b (decide ((cells.length : Int) ≤ (max v w)))) rfl (or_on b₂))) ?_
        refine WO_end ?_
        exact ⟨rfl, rfl, rfl, rfl, rfl⟩
    rintro frg₁ _ ⟨rfl, g₁_29, g₁_0, g₁_1, g₁_2⟩
    refine WO_end ?_
    refine then_n ?_
    rcases if_some hp with ⟨b₃, hp⟩ | ⟨b₃, hp⟩
    · refine W_cT (t := ((decide ((min v w) < 0)) || (decide ((cells.length : Int) ≤ (max v w))))) g₁_29 b₃ ?_
      refine W_sq ?_
      refine W_rg ?_
      refine WO_v (a_mv (v := .sn) rfl) ?_
      refine WO_v (a_mv (v := .i .i64 2) rfl) ?_
      refine WO_end ?_
      refine then_n ?_
      refine W_rt ?_
      refine then_r ?_
      have hO₃ : Own B h k₁ [eSl eInt .sn ([] : List Int)] := hO₁.nil eInt
      refine Ret_r (rs_t (n := 6) (v := .sn) rfl (rs_t (n := 7) (v := .i .i64 2) rfl rs_nil)) ?_
      have hp := Option.some.inj hp; subst hp
      exact (Exists.intro V.sn (And.intro rfl (hO₃.pick [0] rfl (by decide))))
    · refine W_cF (t := ((decide ((min v w) < 0)) || (decide ((cells.length : Int) ≤ (max v w))))) g₁_29 b₃ ?_
      refine W_sk ?_
      refine then_n ?_
      refine W_sq ?_
      refine W_rg ?_
      refine WO_v (a_mv (v := v_cells) g₁_0) ?_
      refine WO_v (a_mv (v := .i .i64 v) g₁_1) ?_
      obtain ⟨⟨x1, x2⟩, hx₂, hp⟩ := bd_some hp
      obtain ⟨u₂, k₂, ca₂, v₂, v₃, rfl, hW₂⟩ := p_join_spread.ok (h := k₁)  (hO₁.rd0 s_cells.rd : Sl e_T_api_Cell k₁ v_cells cells) hx₂
      refine WO_c (id := 67) (caps := []) rfl (mp_cons (v := v_cells) rfl (mp_cons (v := .i .i64 v) rfl mp_nil)) ca₂ ?_
      have hO₄ : Own B h k₂ [eSl eInt v₂ x1, eSl eInt v₃ x2] := hO₁.call hW₂ rfl
      refine WO_v (a_mv (v := .tu [v₂, v₃]) rfl) ?_
      refine WO_v (a_ext (vs := [v₂, v₃]) (v := v₂) rfl rfl) ?_
      refine WO_v (a_ext (vs := [v₂, v₃]) (v := v₃) rfl rfl) ?_
      refine WO_v (a_mv (v := v₂) rfl) ?_
      refine WO_v (a_mv (v := v₃) rfl) ?_
      refine WO_end ?_
      refine then_n ?_
      refine W_sq ?_
      refine W_sq ?_
      refine W_rg ?_
      refine WO_v (a_mv (v := .i .i64 w) g₁_2) ?_
      refine WO_v (a_mv (v := .i .i64 v) g₁_1) ?_
      refine WO_v (a_neI (a := w) (b := v) rfl rfl) ?_
      refine WO_v (a_mv (v := .b (!(decide (w = v)))) rfl) ?_
      obtain ⟨t, hv₁, hp⟩ := bd_some hp
      refine WO_cut 6 (fun fr' k' => k₂ = k' ∧ fr' 45 = .b t ∧ fr' 1 = .i .i64 v ∧ fr' 10 = v₃ ∧ fr' 2 = .i .i64 w ∧ fr' 9 = v₂) ?_ ?_
      · clear hp; rcases if_some hv₁ with ⟨b₄, hp⟩ | ⟨b₄, hp⟩
        · skip
          refine WO_on rfl b₄ ?_
          refine WO_v (a_mv (v := v₃) rfl) ?_
          refine WO_on rfl b₄ ?_
          refine WO_v (a_mv (v := .i .i64 w) g₁_2) ?_
          refine WO_on rfl b₄ ?_
          obtain ⟨c₁, hp⟩ := ck_some hp
          refine WO_v (a_ixa (E := eInt) (z := w) (hO₄.sl 1 rfl : Sl eInt k₂ v₃ x2) rfl rfl c₁) ?_
          refine WO_on rfl b₄ ?_
          refine WO_v (a_ldE (w := .i .i64 (gi x2 (w : Int).toNat)) (hO₄.sl 1 rfl : Sl eInt k₂ v₃ x2) rfl (toNat_lt c₁) rfl) ?_
          refine WO_on rfl b₄ ?_
          refine WO_v (a_lss (a := (gi x2 (w : Int).toNat)) (b := 0) rfl rfl) ?_
          refine WO_v (a_pickT (t := (!(decide (w = v)))) (v := .b t) rfl b₄ (Eq.trans (b := V.b (decide ((gi x2 (w : Int).toNat) < 0))) rfl (congrArg V.b (Option.some.inj hp)))) ?_
          refine WO_end ?_
          exact ⟨rfl, rfl, g₁_1, rfl, g₁_2, rfl⟩
        · skip
          refine WO_off rfl b₄ ?_
          refine WO_off rfl b₄ ?_
          refine WO_off rfl b₄ ?_
          refine WO_off rfl b₄ ?_
          refine WO_off rfl b₄ ?_
          refine WO_v (a_pickF (t := (!(decide (w = v)))) (v := .b t) rfl b₄ (Eq.trans (b := V.b false) rfl (congrArg V.b (Option.some.inj hp)))) ?_
          refine WO_end ?_
          exact ⟨rfl, rfl, g₁_1, rfl, g₁_2, rfl⟩
      rintro frg₂ _ ⟨rfl, g₂_45, g₂_1, g₂_10, g₂_2, g₂_9⟩
      refine WO_end ?_
      refine then_n ?_
      rcases if_some hp with ⟨b₅, hp⟩ | ⟨b₅, hp⟩
      · refine W_cT (t := t) g₂_45 b₅ ?_
        refine W_sq ?_
        refine W_rg ?_
        refine WO_v (a_mv (v := .sn) rfl) ?_
        refine WO_v (a_mv (v := .i .i64 13) rfl) ?_
        refine WO_end ?_
        refine then_n ?_
        refine W_rt ?_
        refine then_r ?_
        have hO₅ : Own B h k₂ [eSl eInt v₂ x1, eSl eInt v₃ x2, eSl eInt .sn ([] : List Int)] := hO₄.nil eInt
        refine Ret_r (rs_t (n := 6) (v := .sn) rfl (rs_t (n := 7) (v := .i .i64 13) rfl rs_nil)) ?_
        have hp := Option.some.inj hp; subst hp
        exact (Exists.intro V.sn (And.intro rfl (hO₅.pick [2] rfl (by decide))))
      · refine W_cF (t := t) g₂_45 b₅ ?_
        refine W_sk ?_
        refine then_n ?_
        refine W_sq ?_
        refine W_rg ?_
        refine WO_v (a_mv (v := .sn) rfl) ?_
        refine WO_end ?_
        refine then_n ?_
        refine W_sq ?_
        refine W_sq ?_
        refine W_rg ?_
        refine WO_v (a_mv (v := .i .i64 w) g₂_2) ?_
        refine WO_v (a_mv (v := .i .i64 w) rfl) ?_
        refine WO_end ?_
        refine then_n ?_
        refine W_bl ?_
        obtain ⟨o₁, ho₁, hp⟩ := bd_some hp
        refine W.mono (Q := fun e fr k => match (generalizing := false) o₁ with
            | l1 => e = (.exit 0) ∧ ∃ (v₅ : V), fr 11 = v₅ ∧ Own B h k [eSl eInt v₅ l1]) ?_ ?_
        · clear hp
          have hO₇ : Own B h k₂ [eSl eInt v₂ x1, eSl eInt v₃ x2, eSl eInt .sn ([] : List Int)] := hO₄.nil eInt
          refine W_loopF (fun st fr k => match st with | (l, at_) => ∃ (v₄ : V), fr 1 = .i .i64 v ∧ fr 9 = v₂ ∧ fr 10 = v₃ ∧ fr 11 = v₄ ∧ fr 12 = .i .i64 at_ ∧ Own B h k [eSl eInt v₂ x1, eSl eInt v₃ x2, eSl eInt v₄ l]) ho₁ (s := (([] : List Int), w)) (Exists.intro V.sn (And.intro (g₂_1) (And.intro (g₂_9) (And.intro (g₂_10) (And.intro (rfl) (And.intro (rfl) (hO₇.pick [0, 1, 2] rfl (by decide)))))))) ?_
          rintro ⟨l, at_⟩ q₂ k₄ ⟨v₄, q₂_1, q₂_9, q₂_10, q₂_11, q₂_12, hO₈⟩ o₂ hp
          dsimp only [p_join_Path.s0] at hp
          refine W_sq ?_
          refine W_sq ?_
          refine W_rg ?_
          refine WO_v (a_mv (v := .i .i64 at_) q₂_12) ?_
          refine WO_v (a_mv (v := .i .i64 v) q₂_1) ?_
          refine WO_v (a_neI (a := at_) (b := v) rfl rfl) ?_
          refine WO_end ?_
          refine then_n ?_
          rcases if_some hp with ⟨b₆, hp⟩ | ⟨b₆, hp⟩
          · refine W_cT (t := (!(decide (at_ = v)))) rfl b₆ ?_
            refine W_sk ?_
            refine then_n ?_
            refine W_sq ?_
            refine W_bl ?_
            refine W_rg ?_
            refine WO_v (a_mv (v := v₄) q₂_11) ?_
            refine WO_v (a_mv (v := v₃) q₂_10) ?_
            refine WO_v (a_mv (v := .i .i64 at_) q₂_12) ?_
            obtain ⟨c₂, hp⟩ := ck_some hp
            refine WO_v (a_ixa (E := eInt) (z := at_) (hO₈.sl 1 rfl : Sl eInt k₄ v₃ x2) rfl rfl c₂) ?_
            refine WO_v (a_ldE (w := .i .i64 (gi x2 (at_ : Int).toNat)) (hO₈.sl 1 rfl : Sl eInt k₄ v₃ x2) rfl (toNat_lt c₂) rfl) ?_
            refine WO_x (hO₈.bsl (E := eInt) (l := [gi x2 (at_ : Int).toNat]) hO₈.fr (by rw [(ev_cons (v := .i .i64 (gi x2 (at_ : Int).toNat)) rfl ev_nil)]; rfl) rfl) ?_
            rintro v₆ k₅ ⟨r₁, f₁, hW⟩
            have hO₉ : Own B h k₅ [eSl eInt v₂ x1, eSl eInt v₃ x2, eSl eInt v₄ l, eSl eInt v₆ [gi x2 (at_ : Int).toNat]] := hW
            obtain ⟨c₃, hp⟩ := ck_some hp
            refine WO_x (hO₉.app (E := eInt) (bytes := 8) 2 hO₉.fr rfl (hO₉.sl 3 rfl : Sl eInt k₅ v₆ [gi x2 (at_ : Int).toNat]) rfl rfl (fun _ => rfl) c₃ (by decide)) ?_
            rintro v₇ k₆ ⟨f₂, hW⟩
            have hO₁₀ : Own B h k₆ [eSl eInt v₂ x1, eSl eInt v₃ x2, eSl eInt v₇ (l ++ [gi x2 (at_ : Int).toNat]), eSl eInt v₆ [gi x2 (at_ : Int).toNat]] := hW
            refine WO_v (a_mv (v := v₇) rfl) ?_
            refine WO_end ?_
            refine blk_n ?_
            refine then_n ?_
            refine W_rg ?_
            refine WO_v (a_mv (v := v₂) q₂_9) ?_
            refine WO_v (a_mv (v := .i .i64 at_) q₂_12) ?_
            obtain ⟨c₄, hp⟩ := ck_some hp
            refine WO_v (a_ixa (E := eInt) (z := at_) (hO₁₀.sl 0 rfl : Sl eInt k₆ v₂ x1) rfl rfl c₄) ?_
            refine WO_v (a_ldE (w := .i .i64 (gi x1 (at_ : Int).toNat)) (hO₁₀.sl 0 rfl : Sl eInt k₆ v₂ x1) rfl (toNat_lt c₄) rfl) ?_
            refine WO_v (a_mv (v := .i .i64 (gi x1 (at_ : Int).toNat)) rfl) ?_
            refine WO_end ?_
            have hp := Option.some.inj hp; subst hp
            exact (Or.inl (Exists.intro (l ++ [gi x2 (at_ : Int).toNat], gi x1 (at_ : Int).toNat) (And.intro rfl (And.intro rfl (Exists.intro v₇ (And.intro (q₂_1) (And.intro (q₂_9) (And.intro (q₂_10) (And.intro (rfl) (And.intro (rfl) (hO₁₀.pick [0, 1, 2] rfl (by decide))))))))))))
          · refine W_cF (t := (!(decide (at_ = v)))) rfl b₆ ?_
            refine W_ex ?_
            refine then_e ?_
            have hp := Option.some.inj hp; subst hp
            refine (Or.inr (Exists.intro l (And.intro rfl (And.intro (fun h => nomatch h) (fun he => ?_)))))
            subst he; exact (And.intro rfl (Exists.intro v₄ (And.intro (q₂_11) (hO₈.pick [2] rfl (by decide)))))
        intro e₁ q₁ k₃ hJ₁
        obtain ⟨l1, rfl⟩ : ∃ x, x = o₁ := ⟨_, rfl⟩
        obtain ⟨rfl, v₅, q₁_11, hO₆⟩ := hJ₁
        refine blk_i ?_
        refine then_n ?_
        refine W_sq ?_
        refine W_rg ?_
        refine WO_v (a_mv (v := v₅) q₁_11) ?_
        obtain ⟨m, hx₃, hp⟩ := bd_some hp
        obtain ⟨u₃, k₇, ca₃, rfl, hW₃⟩ := p_slices_Reverse_int.ok (h := k₃) (s := l1) (hO₆.toM [0] rfl (by decide))  hx₃
        refine WO_c (id := 68) (caps := []) rfl (mp_cons (v := v₅) rfl mp_nil) ca₃ ?_
        have hO₁₁ : Own B h k₇ [eSl eInt v₅ m] := (hO₆.callM [0] [] rfl rfl (by decide) hW₃ rfl).pick [0] rfl (by decide)
        refine WO_end ?_
        refine then_n ?_
        refine W_sq ?_
        refine W_rg ?_
        refine WO_v (a_mv (v := v₅) q₁_11) ?_
        refine WO_v (a_mv (v := v₅) rfl) ?_
        refine WO_v (a_mv (v := .i .i64 0) rfl) ?_
        refine WO_end ?_
        refine then_n ?_
        refine W_rt ?_
        refine Ret_r (rs_t (n := 6) (v := v₅) rfl (rs_t (n := 7) (v := .i .i64 0) rfl rs_nil)) ?_
        have hp := Option.some.inj hp; subst hp
        exact (Exists.intro v₅ (And.intro rfl (hO₁₁.pick [0] rfl (by decide))))

theorem p_slices_Equal_int.ok {h : Hp} {s1 : List Int} {s2 : List Int} {v_s1 : V} {v_s2 : V} (s_s1 : Sl eInt h v_s1 s1) (s_s2 : Sl eInt h v_s2 s2) {r : Bool} (hp : p_slices_Equal_int s1 s2 = some r) :
    ∃ u k', Is G 33 [v_s1, v_s2] h u k' ∧ V.b r = u ∧ Own (fun r => r < h.n) h k' [] := by
  refine WC.is (WC_of G_F_slices_Equal_int ?_)
  unfold p_slices_Equal_int at hp
  let B : Nat → Prop := (fun r => r < h.n)
  have hO : Own B h h [] := Own.start0 h
  refine W_sq ?_
  refine W_rg ?_
  refine WO_v (a_mv (v := .b false) rfl) ?_
  refine WO_end ?_
  refine then_n ?_
  refine W_sq ?_
  refine W_sq ?_
  refine W_rg ?_
  refine WO_v (a_mv (v := v_s1) rfl) ?_
  refine WO_v (a_len (hO.rd0 s_s1.rd : Sl eInt h v_s1 s1) rfl) ?_
  refine WO_v (a_mv (v := v_s2) rfl) ?_
  refine WO_v (a_len (hO.rd0 s_s2.rd : Sl eInt h v_s2 s2) rfl) ?_
  refine WO_v (a_neI (a := (s1.length : Int)) (b := (s2.length : Int)) rfl rfl) ?_
  refine WO_end ?_
  refine then_n ?_
  rcases if_some hp with ⟨b₁, hp⟩ | ⟨b₁, hp⟩
  · refine W_cT (t := (!(decide ((s1.length : Int) = (s2.length : Int))))) rfl b₁ ?_
    refine W_sq ?_
    refine W_rg ?_
    refine WO_v (a_mv (v := .b false) rfl) ?_
    refine WO_end ?_
    refine then_n ?_
    refine W_rt ?_
    refine then_r ?_
    refine Ret_r (rs_t (n := 4) (v := .b false) rfl rs_nil) ?_
    have hp := Option.some.inj hp; subst hp
    exact (And.intro rfl (hO.pick [] rfl (by decide)))
  · refine W_cF (t := (!(decide ((s1.length : Int) = (s2.length : Int))))) rfl b₁ ?_
    refine W_sk ?_
    refine then_n ?_
    refine W_sq ?_
    refine W_sq ?_
    refine W_rg ?_
    refine WO_v (a_mv (v := v_s1) rfl) ?_
    refine WO_v (a_len (hO.rd0 s_s1.rd : Sl eInt h v_s1 s1) rfl) ?_
    refine WO_v (a_mv (v := .i .i64 0) rfl) ?_
    refine WO_end ?_
    refine then_n ?_
    refine W_bl ?_
    obtain ⟨o₁, ho₁, hp⟩ := bd_some hp
    refine W.mono (Q := fun e fr k => match (generalizing := false) o₁ with
        | .inl _ => e = (.exit 0) ∧ Own B h k []
        | .inr _ => e = .ret ∧ fr 4 = .b false ∧ Own B h k []) ?_ ?_
    · clear hp
      refine W_loopF (fun st fr k => match st with | x => fr 0 = v_s1 ∧ fr 1 = v_s2 ∧ fr 12 = .i .i64 (s1.length : Int) ∧ fr 13 = .i .i64 x ∧ Own B h k []) ho₁ (s := 0) (And.intro (rfl) (And.intro (rfl) (And.intro (rfl) (And.intro (rfl) (hO.pick [] rfl (by decide)))))) ?_
      rintro x q₂ k₂ ⟨q₂_0, q₂_1, q₂_12, q₂_13, hO₂⟩ o₂ hp
      dsimp only [p_slices_Equal_int.s0] at hp
      refine W_sq ?_
      refine W_rg ?_
      refine WO_v (a_lss (a := x) (b := (s1.length : Int)) q₂_13 q₂_12) ?_
      refine WO_end ?_
      refine then_n ?_
      refine W_sq ?_
      rcases if_some hp with ⟨b₂, hp⟩ | ⟨b₂, hp⟩
      · refine W_cT (t := (decide (x < (s1.length : Int)))) rfl b₂ ?_
        refine W_sk ?_
        refine then_n ?_
        refine W_sq ?_
        refine W_bl ?_
        refine W_sq ?_
        refine W_rg ?_
        refine WO_v (a_mv (v := .i .i64 x) q₂_13) ?_
        refine WO_v (a_mv (v := .i .i64 x) rfl) ?_
        refine WO_end ?_
        refine then_n ?_
        refine W_sq ?_
        refine W_qd ?_
        have hW := hO₂.bump 9
        have hO₃ : Own B h (k₂.bump 9) [] := hW
        refine WQ_v rfl (a_mv (v := v_s1) q₂_0) ?_
        refine WQ_v rfl (a_mv (v := .i .i64 x) rfl) ?_
        obtain ⟨c₁, hp⟩ := ck_some hp
        refine WQ_v rfl (a_ixa (E := eInt) (z := x) (hO₃.rd0 s_s1.rd : Sl eInt (k₂.bump 9) v_s1 s1) rfl rfl c₁) ?_
        refine WQ_v rfl (a_ldE (w := .i .i64 (gi s1 (x : Int).toNat)) (hO₃.rd0 s_s1.rd : Sl eInt (k₂.bump 9) v_s1 s1) rfl (toNat_lt c₁) rfl) ?_
        refine WQ_v rfl (a_mv (v := v_s2) q₂_1) ?_
        refine WQ_v rfl (a_mv (v := .i .i64 x) rfl) ?_
        obtain ⟨c₂, hp⟩ := ck_some hp
        refine WQ_v rfl (a_ixa (E := eInt) (z := x) (hO₃.rd0 s_s2.rd : Sl eInt (k₂.bump 9) v_s2 s2) rfl rfl c₂) ?_
        refine WQ_v rfl (a_ldE (w := .i .i64 (gi s2 (x : Int).toNat)) (hO₃.rd0 s_s2.rd : Sl eInt (k₂.bump 9) v_s2 s2) rfl (toNat_lt c₂) rfl) ?_
        refine WQ_v rfl (a_neI (a := (gi s1 (x : Int).toNat)) (b := (gi s2 (x : Int).toNat)) rfl rfl) ?_
        refine WQ_end ?_
        refine then_n ?_
        rcases if_some hp with ⟨b₃, hp⟩ | ⟨b₃, hp⟩
        · refine W_cT (t := (!(decide (gi s1 (x : Int).toNat = gi s2 (x : Int).toNat)))) rfl b₃ ?_
          refine W_sq ?_
          refine W_rg ?_
          refine WO_v (a_mv (v := .b false) rfl) ?_
          refine WO_end ?_
          refine then_n ?_
          refine W_rt ?_
          refine blk_r ?_
          refine then_r ?_
          have hp := Option.some.inj hp; subst hp
          refine (Or.inr (Exists.intro (.inr ()) (And.intro rfl (And.intro (fun h => nomatch h) (fun he => ?_)))))
          subst he; exact (And.intro rfl (And.intro (rfl) (hO₃.pick [] rfl (by decide))))
        · refine W_cF (t := (!(decide (gi s1 (x : Int).toNat = gi s2 (x : Int).toNat)))) rfl b₃ ?_
          refine W_sk ?_
          refine blk_n ?_
          refine then_n ?_
          refine W_rg ?_
          obtain ⟨c₃, hp⟩ := ck_some hp
          refine WO_v (a_add (a := x) (b := 1) q₂_13 rfl c₃) ?_
          refine WO_v (a_mv (v := .i .i64 (x + 1)) rfl) ?_
          refine WO_end ?_
          have hp := Option.some.inj hp; subst hp
          exact (Or.inl (Exists.intro (x + 1) (And.intro rfl (And.intro rfl (And.intro (q₂_0) (And.intro (q₂_1) (And.intro (q₂_12) (And.intro (rfl) (hO₃.pick [] rfl (by decide))))))))))
      · refine W_cF (t := (decide (x < (s1.length : Int)))) rfl b₂ ?_
        refine W_ex ?_
        refine then_e ?_
        have hp := Option.some.inj hp; subst hp
        refine (Or.inr (Exists.intro (.inl ()) (And.intro rfl (And.intro (fun h => nomatch h) (fun he => ?_)))))
        subst he; exact (And.intro rfl (hO₂.pick [] rfl (by decide)))
    intro e₁ q₁ k₁ hJ₁
    rcases o₁ with _ | _
    · obtain ⟨rfl, hO₁⟩ := hJ₁
      refine blk_i ?_
      refine then_n ?_
      refine W_sq ?_
      refine W_rg ?_
      refine WO_v (a_mv (v := .b true) rfl) ?_
      refine WO_end ?_
      refine then_n ?_
      refine W_rt ?_
      refine Ret_r (rs_t (n := 4) (v := .b true) rfl rs_nil) ?_
      have hp := Option.some.inj hp; subst hp
      exact (And.intro rfl (hO₁.pick [] rfl (by decide)))
    · obtain ⟨rfl, q₁_4, hO₁⟩ := hJ₁
      refine blk_r ?_
      refine then_r ?_
      refine Ret_r (rs_t (n := 4) (v := .b false) q₁_4 rs_nil) ?_
      have hp := Option.some.inj hp; subst hp
      exact (And.intro rfl (hO₁.pick [] rfl (by decide)))

theorem p_join_Whole.ok {h : Hp} {cells : List T_api_Cell} {v_cells : V} (s_cells : Sl e_T_api_Cell h v_cells cells) {r : Bool} (hp : p_join_Whole cells = some r) :
    ∃ u k', Is G 32 [v_cells] h u k' ∧ V.b r = u ∧ Own (fun r => r < h.n) h k' [] := by
  refine WC.is (WC_of G_F_join_Whole ?_)
  unfold p_join_Whole at hp
  let B : Nat → Prop := (fun r => r < h.n)
  have hO : Own B h h [] := Own.start0 h
  refine W_sq ?_
  refine W_rg ?_
  refine WO_v (a_mv (v := .b false) rfl) ?_
  refine WO_end ?_
  refine then_n ?_
  refine W_sq ?_
  refine W_rg ?_
  refine WO_v (a_mv (v := v_cells) rfl) ?_
  obtain ⟨⟨x, x1⟩, hx₁, hp⟩ := bd_some hp
  obtain ⟨u₁, k₁, ca₁, v₁, vs₁, rfl, hW₁⟩ := p_join_Parts.ok (h := h)  (hO.rd0 s_cells.rd : Sl e_T_api_Cell h v_cells cells) hx₁
  refine WO_c (id := 29) (caps := []) rfl (mp_cons (v := v_cells) rfl mp_nil) ca₁ ?_
  have hO₁ : Own B h k₁ [eSl eV v₁ vs₁, eAll eInt vs₁ x] := hO.call hW₁ rfl
  refine WO_v (a_mv (v := .tu [v₁, .i .i64 x1]) rfl) ?_
  refine WO_v (a_ext (vs := [v₁, .i .i64 x1]) (v := v₁) rfl rfl) ?_
  refine WO_v (a_ext (vs := [v₁, .i .i64 x1]) (v := .i .i64 x1) rfl rfl) ?_
  refine WO_v (a_mv (v := v₁) rfl) ?_
  refine WO_v (a_mv (v := .i .i64 x1) rfl) ?_
  refine WO_end ?_
  refine then_n ?_
  refine W_sq ?_
  refine W_rg ?_
  refine WO_v (a_mv (v := .i .i64 x1) rfl) ?_
  refine WO_v (a_eqI (a := x1) (b := 0) rfl rfl) ?_
  refine WO_v (a_mv (v := .b (decide (x1 = 0))) rfl) ?_
  refine WO_cut 4 (fun fr' k' => k₁ = k' ∧ fr' 16 = .b ((decide (x1 = 0)) && (decide ((x.length : Int) = 1)))) ?_ ?_
  · rcases bc (decide (x1 = 0)) with b₁ | b₁
    · skip
      refine WO_on rfl b₁ ?_
      refine WO_v (a_mv (v := v₁) rfl) ?_
      refine WO_on rfl b₁ ?_
      refine WO_v (a_lenN (n := (x).length) (hO₁.sl 0 rfl : Sl eV k₁ v₁ vs₁) (hO₁.allLen 1 rfl : (vs₁).length = (x).length) rfl) ?_
      refine WO_on rfl b₁ ?_
      refine WO_v (a_eqI (a := (x.length : Int)) (b := 1) rfl rfl) ?_
      refine WO_v (a_pickT (t := (decide (x1 = 0))) (v := .b ((decide (x1 = 0)) && (decide ((x.length : Int) = 1)))) rfl b₁ (Eq.trans (b := V.b (decide ((x.length : Int) = 1))) rfl (and_on b₁))) ?_
      refine WO_end ?_
      exact ⟨rfl, rfl⟩
    · skip
      refine WO_off rfl b₁ ?_
      refine WO_off rfl b₁ ?_
      refine WO_off rfl b₁ ?_
      refine WO_v (a_pickF (t := (decide (x1 = 0))) (v := .b ((decide (x1 = 0)) && (decide ((x.length : Int) = 1)))) rfl b₁ (Eq.trans (b := V.b false) rfl (and_off b₁))) ?_
      refine WO_end ?_
      exact ⟨rfl, rfl⟩
  rintro frg₁ _ ⟨rfl, g₁_16⟩
  refine WO_v (a_mv (v := .b ((decide (x1 = 0)) && (decide ((x.length : Int) = 1)))) g₁_16) ?_
  refine WO_end ?_
  refine then_n ?_
  refine W_rt ?_
  refine Ret_r (rs_t (n := 2) (v := .b ((decide (x1 = 0)) && (decide ((x.length : Int) = 1)))) rfl rs_nil) ?_
  have hp := Option.some.inj hp; subst hp
  exact (And.intro rfl (hO₁.pick [] rfl (by decide)))

theorem p_muntinlaw13_wakes.ok {h : Hp}    {r : Bool} (hp : p_muntinlaw13_wakes  = some r) :
    ∃ u k', Is G 31 [] h u k' ∧ V.b r = u ∧ Own (fun r => r < h.n) h k' [] := by
  refine WC.is (WC_of G_F_muntinlaw13_wakes ?_)
  unfold p_muntinlaw13_wakes at hp
  let B : Nat → Prop := (fun r => r < h.n)
  have hO : Own B h h [] := Own.start0 h
  refine W_sq ?_
  refine W_rg ?_
  refine WO_v (a_mv (v := .b false) rfl) ?_
  refine WO_end ?_
  refine then_n ?_
  refine W_sq ?_
  refine W_rg ?_
  obtain ⟨x, hx₁, hp⟩ := bd_some hp
  obtain ⟨u₁, k₁, ca₁, v₁, rfl, hW₁⟩ := p_muntinref10_New.ok (h := h)   hx₁
  refine WO_c (id := 46) (caps := []) rfl (mp_cons (v := .i .i64 3) rfl mp_nil) ca₁ ?_
  have hO₁ : Own B h k₁ [eSl e_T_api_Cell v₁ x] := hO.call hW₁ rfl
  refine WO_v (a_mv (v := v₁) rfl) ?_
  refine WO_end ?_
  refine then_n ?_
  refine W_sq ?_
  refine W_rg ?_
  refine WO_v (a_mv (v := v₁) rfl) ?_
  obtain ⟨⟨x1, x2⟩, hx₂, hp⟩ := bd_some hp
  obtain ⟨u₂, k₂, ca₂, v₂, rfl, hW₂⟩ := p_muntinref10_Join.ok (h := k₁) (l := x) (v := 0) (d := 0) (w := 1) (o := 0) (hO₁.toM [0] rfl (by decide))  hx₂
  refine WO_c (id := 53) (caps := []) rfl (mp_cons (v := v₁) rfl (mp_cons (v := .i .i64 0) rfl (mp_cons (v := .i .i64 0) rfl (mp_cons (v := .i .i64 1) rfl (mp_cons (v := .i .i64 0) rfl mp_nil))))) ca₂ ?_
  have hO₂ : Own B h k₂ [eNone, eSl e_T_api_Cell v₂ x1] := (hO₁.callM [0] [] rfl rfl (by decide) hW₂ rfl).pick [900, 0] rfl (by decide)
  refine WO_v (a_mv (v := .tu [v₂, .i .i64 x2]) rfl) ?_
  refine WO_v (a_ext (vs := [v₂, .i .i64 x2]) (v := v₂) rfl rfl) ?_
  refine WO_v (a_ext (vs := [v₂, .i .i64 x2]) (v := .i .i64 x2) rfl rfl) ?_
  refine WO_v (a_mv (v := v₂) rfl) ?_
  refine WO_end ?_
  refine then_n ?_
  refine W_sq ?_
  refine W_rg ?_
  refine WO_v (a_mv (v := v₂) rfl) ?_
  obtain ⟨⟨x3, x4⟩, hx₃, hp⟩ := bd_some hp
  obtain ⟨u₃, k₃, ca₃, v₃, vs₁, rfl, hW₃⟩ := p_join_Parts.ok (h := k₂)  (hO₂.sl 1 rfl : Sl e_T_api_Cell k₂ v₂ x1) hx₃
  refine WO_c (id := 29) (caps := []) rfl (mp_cons (v := v₂) rfl mp_nil) ca₃ ?_
  have hO₃ : Own B h k₃ [eNone, eSl e_T_api_Cell v₂ x1, eSl eV v₃ vs₁, eAll eInt vs₁ x3] := hO₂.call hW₃ rfl
  refine WO_v (a_mv (v := .tu [v₃, .i .i64 x4]) rfl) ?_
  refine WO_v (a_ext (vs := [v₃, .i .i64 x4]) (v := v₃) rfl rfl) ?_
  refine WO_v (a_ext (vs := [v₃, .i .i64 x4]) (v := .i .i64 x4) rfl rfl) ?_
  refine WO_v (a_mv (v := v₃) rfl) ?_
  refine WO_v (a_mv (v := .i .i64 x4) rfl) ?_
  refine WO_end ?_
  refine then_n ?_
  refine W_sq ?_
  refine W_rg ?_
  refine WO_v (a_mv (v := v₂) rfl) ?_
  obtain ⟨⟨x5, x6⟩, hx₄, hp⟩ := bd_some hp
  obtain ⟨u₄, k₄, ca₄, v₄, rfl, hW₄⟩ := p_join_Path.ok (h := k₃)  (hO₃.sl 1 rfl : Sl e_T_api_Cell k₃ v₂ x1) hx₄
  refine WO_c (id := 35) (caps := []) rfl (mp_cons (v := v₂) rfl (mp_cons (v := .i .i64 1) rfl (mp_cons (v := .i .i64 0) rfl mp_nil))) ca₄ ?_
  have hO₄ : Own B h k₄ [eNone, eSl e_T_api_Cell v₂ x1, eSl eV v₃ vs₁, eAll eInt vs₁ x3, eSl eInt v₄ x5] := hO₃.call hW₄ rfl
  refine WO_v (a_mv (v := .tu [v₄, .i .i64 x6]) rfl) ?_
  refine WO_v (a_ext (vs := [v₄, .i .i64 x6]) (v := v₄) rfl rfl) ?_
  refine WO_v (a_ext (vs := [v₄, .i .i64 x6]) (v := .i .i64 x6) rfl rfl) ?_
  refine WO_v (a_mv (v := v₄) rfl) ?_
  refine WO_v (a_mv (v := .i .i64 x6) rfl) ?_
  refine WO_end ?_
  refine then_n ?_
  refine W_sq ?_
  refine W_rg ?_
  refine WO_v (a_mv (v := v₂) rfl) ?_
  obtain ⟨⟨x7, x8⟩, hx₅, hp⟩ := bd_some hp
  obtain ⟨u₅, k₅, ca₅, v₅, rfl, hW₅⟩ := p_join_Path.ok (h := k₄)  (hO₄.sl 1 rfl : Sl e_T_api_Cell k₄ v₂ x1) hx₅
  refine WO_c (id := 35) (caps := []) rfl (mp_cons (v := v₂) rfl (mp_cons (v := .i .i64 0) rfl (mp_cons (v := .i .i64 2) rfl mp_nil))) ca₅ ?_
  have hO₅ : Own B h k₅ [eNone, eSl e_T_api_Cell v₂ x1, eSl eV v₃ vs₁, eAll eInt vs₁ x3, eSl eInt v₄ x5, eSl eInt v₅ x7] := hO₄.call hW₅ rfl
  refine WO_v (a_mv (v := .tu [v₅, .i .i64 x8]) rfl) ?_
  refine WO_v (a_ext (vs := [v₅, .i .i64 x8]) (v := v₅) rfl rfl) ?_
  refine WO_v (a_ext (vs := [v₅, .i .i64 x8]) (v := .i .i64 x8) rfl rfl) ?_
  refine WO_v (a_mv (v := v₅) rfl) ?_
  refine WO_v (a_mv (v := .i .i64 x8) rfl) ?_
  refine WO_end ?_
  refine then_n ?_
  refine W_sq ?_
  refine W_rg ?_
  refine WO_v (a_mv (v := .i .i64 x4) rfl) ?_
  refine WO_v (a_eqI (a := x4) (b := 0) rfl rfl) ?_
  refine WO_v (a_mv (v := .b (decide (x4 = 0))) rfl) ?_
  refine WO_cut 4 (fun fr' k' => k₅ = k' ∧ fr' 35 = .b ((decide (x4 = 0)) && (decide ((x3.length : Int) = 2))) ∧ fr' 1 = v₂ ∧ fr' 2 = v₃ ∧ fr' 4 = v₄ ∧ fr' 5 = .i .i64 x6 ∧ fr' 7 = .i .i64 x8) ?_ ?_
  · rcases bc (decide (x4 = 0)) with b₁ | b₁
    · skip
      refine WO_on rfl b₁ ?_
      refine WO_v (a_mv (v := v₃) rfl) ?_
      refine WO_on rfl b₁ ?_
      refine WO_v (a_lenN (n := (x3).length) (hO₅.sl 2 rfl : Sl eV k₅ v₃ vs₁) (hO₅.allLen 3 rfl : (vs₁).length = (x3).length) rfl) ?_
      refine WO_on rfl b₁ ?_
      refine WO_v (a_eqI (a := (x3.length : Int)) (b := 2) rfl rfl) ?_
      refine WO_v (a_pickT (t := (decide (x4 = 0))) (v := .b ((decide (x4 = 0)) && (decide ((x3.length : Int) = 2)))) rfl b₁ (Eq.trans (b := V.b (decide ((x3.length : Int) = 2))) rfl (and_on b₁))) ?_
      refine WO_end ?_
      exact ⟨rfl, rfl, rfl, rfl, rfl, rfl, rfl⟩
    · skip
      refine WO_off rfl b₁ ?_
      refine WO_off rfl b₁ ?_
      refine WO_off rfl b₁ ?_
      refine WO_v (a_pickF (t := (decide (x4 = 0))) (v := .b ((decide (x4 = 0)) && (decide ((x3.length : Int) = 2)))) rfl b₁ (Eq.trans (b := V.b false) rfl (and_off b₁))) ?_
      refine WO_end ?_
      exact ⟨rfl, rfl, rfl, rfl, rfl, rfl, rfl⟩
  rintro frg₁ _ ⟨rfl, g₁_35, g₁_1, g₁_2, g₁_4, g₁_5, g₁_7⟩
  refine WO_v (a_mv (v := .b ((decide (x4 = 0)) && (decide ((x3.length : Int) = 2)))) g₁_35) ?_
  obtain ⟨t, hv₁, hp⟩ := bd_some hp
  refine WO_cut 6 (fun fr' k' => Own B h k' [eNone, eSl e_T_api_Cell v₂ x1, eSl eV v₃ vs₁, eAll eInt vs₁ x3, eSl eInt v₄ x5, eSl eInt v₅ x7] ∧ fr' 42 = .b t ∧ fr' 1 = v₂ ∧ fr' 4 = v₄ ∧ fr' 5 = .i .i64 x6 ∧ fr' 7 = .i .i64 x8) ?_ ?_
  · clear hp; rcases if_some hv₁ with ⟨b₂, hp⟩ | ⟨b₂, hp⟩
    · skip
      refine WO_on rfl b₂ ?_
      refine WO_v (a_mv (v := v₃) g₁_2) ?_
      refine WO_on rfl b₂ ?_
      obtain ⟨c₁, hp⟩ := ck_some hp
      refine WO_v (a_ixa (E := eV) (z := 0) (hO₅.sl 2 rfl : Sl eV k₅ v₃ vs₁) rfl rfl (by rw [(hO₅.allLen 3 rfl : (vs₁).length = (x3).length)]; exact c₁)) ?_
      refine WO_on rfl b₂ ?_
      refine WO_v (a_ldE (w := (gi vs₁ (0 : Int).toNat)) (hO₅.sl 2 rfl : Sl eV k₅ v₃ vs₁) rfl (by rw [(hO₅.allLen 3 rfl : (vs₁).length = (x3).length)]; exact toNat_lt c₁) rfl) ?_
      refine WO_on rfl b₂ ?_
      refine WO_x (hO₅.bsl (E := eInt) (l := ([0, 1] : List Int)) hO₅.fr (by rw [(ev_cons (v := .i .i64 0) rfl (ev_cons (v := .i .i64 1) rfl ev_nil))]; rfl) rfl) ?_
      rintro v₆ k₆ ⟨r₁, f₁, hW⟩
      have hO₆ : Own B h k₆ [eNone, eSl e_T_api_Cell v₂ x1, eSl eV v₃ vs₁, eAll eInt vs₁ x3, eSl eInt v₄ x5, eSl eInt v₅ x7, eSl eInt v₆ ([0, 1] : List Int)] := hW
      refine WO_on rfl b₂ ?_
      obtain ⟨x9, hx₆, hp⟩ := bd_some hp
      obtain ⟨u₆, k₇, ca₆, rfl, hW₆⟩ := p_slices_Equal_int.ok (h := k₆)  (hO₆.inn 3 rfl (toNat_lt c₁) : Sl eInt k₆ (gi vs₁ (0 : Int).toNat) (gi x3 (0 : Int).toNat)) (hO₆.sl 6 rfl : Sl eInt k₆ v₆ ([0, 1] : List Int)) hx₆
      refine WO_c (id := 33) (caps := []) rfl (mp_cons (v := (gi vs₁ (0 : Int).toNat)) rfl (mp_cons (v := v₆) rfl mp_nil)) ca₆ ?_
      have hO₇ : Own B h k₇ [eNone, eSl e_T_api_Cell v₂ x1, eSl eV v₃ vs₁, eAll eInt vs₁ x3, eSl eInt v₄ x5, eSl eInt v₅ x7, eSl eInt v₆ ([0, 1] : List Int)] := hO₆.call hW₆ rfl
      refine WO_v (a_pickT (t := ((decide (x4 = 0)) && (decide ((x3.length : Int) = 2)))) (v := .b t) rfl b₂ (Eq.trans (b := V.b x9) rfl (congrArg V.b (Option.some.inj hp)))) ?_
      refine WO_end ?_
      exact ⟨hO₇.pick [0, 1, 2, 3, 4, 5] rfl (by decide), rfl, g₁_1, g₁_4, g₁_5, g₁_7⟩
    · skip
      refine WO_off rfl b₂ ?_
      refine WO_off rfl b₂ ?_
      refine WO_off rfl b₂ ?_
      refine WO_off rfl b₂ ?_
      refine WO_off rfl b₂ ?_
      refine WO_v (a_pickF (t := ((decide (x4 = 0)) && (decide ((x3.length : Int) = 2)))) (v := .b t) rfl b₂ (Eq.trans (b := V.b false) rfl (congrArg V.b (Option.some.inj hp)))) ?_
      refine WO_end ?_
      exact ⟨hO₅.pick [0, 1, 2, 3, 4, 5] rfl (by decide), rfl, g₁_1, g₁_4, g₁_5, g₁_7⟩
  rintro frg₂ k₈ ⟨hO₈, g₂_42, g₂_1, g₂_4, g₂_5, g₂_7⟩
  refine WO_v (a_mv (v := .b t) g₂_42) ?_
  obtain ⟨t1, hv₂, hp⟩ := bd_some hp
  refine WO_cut 4 (fun fr' k' => Own B h k' [eNone, eSl e_T_api_Cell v₂ x1, eSl eV v₃ vs₁, eAll eInt vs₁ x3, eSl eInt v₄ x5, eSl eInt v₅ x7] ∧ fr' 47 = .b t1 ∧ fr' 1 = v₂ ∧ fr' 5 = .i .i64 x6 ∧ fr' 7 = .i .i64 x8) ?_ ?_
  · clear hp; rcases if_some hv₂ with ⟨b₃, hp⟩ | ⟨b₃, hp⟩
    · skip
      refine WO_on rfl b₃ ?_
      refine WO_v (a_mv (v := v₄) g₂_4) ?_
      refine WO_on rfl b₃ ?_
      refine WO_x (hO₈.bsl (E := eInt) (l := ([2] : List Int)) hO₈.fr (by rw [(ev_cons (v := .i .i64 2) rfl ev_nil)]; rfl) rfl) ?_
      rintro v₇ k₉ ⟨r₂, f₂, hW⟩
      have hO₉ : Own B h k₉ [eNone, eSl e_T_api_Cell v₂ x1, eSl eV v₃ vs₁, eAll eInt vs₁ x3, eSl eInt v₄ x5, eSl eInt v₅ x7, eSl eInt v₇ ([2] : List Int)] := hW
      refine WO_on rfl b₃ ?_
      obtain ⟨x10, hx₇, hp⟩ := bd_some hp
      obtain ⟨u₇, k₁₀, ca₇, rfl, hW₇⟩ := p_slices_Equal_int.ok (h := k₉)  (hO₉.sl 4 rfl : Sl eInt k₉ v₄ x5) (hO₉.sl 6 rfl : Sl eInt k₉ v₇ ([2] : List Int)) hx₇
      refine WO_c (id := 33) (caps := []) rfl (mp_cons (v := v₄) rfl (mp_cons (v := v₇) rfl mp_nil)) ca₇ ?_
      have hO₁₀ : Own B h k₁₀ [eNone, eSl e_T_api_Cell v₂ x1, eSl eV v₃ vs₁, eAll eInt vs₁ x3, eSl eInt v₄ x5, eSl eInt v₅ x7, eSl eInt v₇ ([2] : List Int)] := hO₉.call hW₇ rfl
      refine WO_v (a_pickT (t := t) (v := .b t1) rfl b₃ (Eq.trans (b := V.b x10) rfl (congrArg V.b (Option.some.inj hp)))) ?_
      refine WO_end ?_
      exact ⟨hO₁₀.pick [0, 1, 2, 3, 4, 5] rfl (by decide), rfl, g₂_1, g₂_5, g₂_7⟩
    · skip
      refine WO_off rfl b₃ ?_
      refine WO_off rfl b₃ ?_
      refine WO_off rfl b₃ ?_
      refine WO_v (a_pickF (t := t) (v := .b t1) rfl b₃ (Eq.trans (b := V.b false) rfl (congrArg V.b (Option.some.inj hp)))) ?_
      refine WO_end ?_
      exact ⟨hO₈.pick [0, 1, 2, 3, 4, 5] rfl (by decide), rfl, g₂_1, g₂_5, g₂_7⟩
  rintro frg₃ k₁₁ ⟨hO₁₁, g₃_47, g₃_1, g₃_5, g₃_7⟩
  refine WO_v (a_mv (v := .b t1) g₃_47) ?_
  refine WO_cut 3 (fun fr' k' => k₁₁ = k' ∧ fr' 51 = .b (t1 && (decide (x6 = 0))) ∧ fr' 1 = v₂ ∧ fr' 7 = .i .i64 x8) ?_ ?_
  · rcases bc t1 with b₄ | b₄
    · skip
      refine WO_on rfl b₄ ?_
      refine WO_v (a_mv (v := .i .i64 x6) g₃_5) ?_
      refine WO_on rfl b₄ ?_
      refine WO_v (a_eqI (a := x6) (b := 0) rfl rfl) ?_
      refine WO_v (a_pickT (t := t1) (v := .b (t1 && (decide (x6 = 0)))) rfl b₄ (Eq.trans (b := V.b (decide (x6 = 0))) rfl (and_on b₄))) ?_
      refine WO_end ?_
      exact ⟨rfl, rfl, g₃_1, g₃_7⟩
    · skip
      refine WO_off rfl b₄ ?_
      refine WO_off rfl b₄ ?_
      refine WO_v (a_pickF (t := t1) (v := .b (t1 && (decide (x6 = 0)))) rfl b₄ (Eq.trans (b := V.b false) rfl (and_off b₄))) ?_
      refine WO_end ?_
      exact ⟨rfl, rfl, g₃_1, g₃_7⟩
  rintro frg₄ _ ⟨rfl, g₄_51, g₄_1, g₄_7⟩
  refine WO_v (a_mv (v := .b (t1 && (decide (x6 = 0)))) g₄_51) ?_
  refine WO_cut 3 (fun fr' k' => k₁₁ = k' ∧ fr' 55 = .b ((t1 && (decide (x6 = 0))) && (decide (x8 = 13))) ∧ fr' 1 = v₂) ?_ ?_
  · rcases bc (t1 && (decide (x6 = 0))) with b₅ | b₅
    · skip
      refine WO_on rfl b₅ ?_
      refine WO_v (a_mv (v := .i .i64 x8) g₄_7) ?_
      refine WO_on rfl b₅ ?_
      refine WO_v (a_eqI (a := x8) (b := 13) rfl rfl) ?_
      refine WO_v (a_pickT (t := (t1 && (decide (x6 = 0)))) (v := .b ((t1 && (decide (x6 = 0))) && (decide (x8 = 13)))) rfl b₅ (Eq.trans (b := V.b (decide (x8 = 13))) rfl (and_on b₅))) ?_
      refine WO_end ?_
      exact ⟨rfl, rfl, g₄_1⟩
    · skip
      refine WO_off rfl b₅ ?_
      refine WO_off rfl b₅ ?_
      refine WO_v (a_pickF (t := (t1 && (decide (x6 = 0)))) (v := .b ((t1 && (decide (x6 = 0))) && (decide (x8 = 13)))) rfl b₅ (Eq.trans (b := V.b false) rfl (and_off b₅))) ?_
      refine WO_end ?_
      exact ⟨rfl, rfl, g₄_1⟩
  rintro frg₅ _ ⟨rfl, g₅_55, g₅_1⟩
  refine WO_v (a_mv (v := .b ((t1 && (decide (x6 = 0))) && (decide (x8 = 13)))) g₅_55) ?_
  obtain ⟨t2, hv₃, hp⟩ := bd_some hp
  refine WO_cut 4 (fun fr' k' => Own B h k' [eNone, eSl e_T_api_Cell v₂ x1, eSl eV v₃ vs₁, eAll eInt vs₁ x3, eSl eInt v₄ x5, eSl eInt v₅ x7] ∧ fr' 60 = .b t2 ∧ fr' 1 = v₂) ?_ ?_
  · clear hp; rcases if_some hv₃ with ⟨b₆, hp⟩ | ⟨b₆, hp⟩
    · skip
      refine WO_on rfl b₆ ?_
      refine WO_v (a_mv (v := v₂) g₅_1) ?_
      refine WO_on rfl b₆ ?_
      obtain ⟨x11, hx₈, hp⟩ := bd_some hp
      obtain ⟨u₈, k₁₂, ca₈, rfl, hW₈⟩ := p_join_Whole.ok (h := k₁₁)  (hO₁₁.sl 1 rfl : Sl e_T_api_Cell k₁₁ v₂ x1) hx₈
      refine WO_c (id := 32) (caps := []) rfl (mp_cons (v := v₂) rfl mp_nil) ca₈ ?_
      have hO₁₂ : Own B h k₁₂ [eNone, eSl e_T_api_Cell v₂ x1, eSl eV v₃ vs₁, eAll eInt vs₁ x3, eSl eInt v₄ x5, eSl eInt v₅ x7] := hO₁₁.call hW₈ rfl
      refine WO_on rfl b₆ ?_
      refine WO_v (a_not (t := x11) rfl) ?_
      refine WO_v (a_pickT (t := ((t1 && (decide (x6 = 0))) && (decide (x8 = 13)))) (v := .b t2) rfl b₆ (Eq.trans (b := V.b (!x11)) rfl (congrArg V.b (Option.some.inj hp)))) ?_
      refine WO_end ?_
      exact ⟨hO₁₂.pick [0, 1, 2, 3, 4, 5] rfl (by decide), rfl, g₅_1⟩
    · skip
      refine WO_off rfl b₆ ?_
      refine WO_off rfl b₆ ?_
      refine WO_off rfl b₆ ?_
      refine WO_v (a_pickF (t := ((t1 && (decide (x6 = 0))) && (decide (x8 = 13)))) (v := .b t2) rfl b₆ (Eq.trans (b := V.b false) rfl (congrArg V.b (Option.some.inj hp)))) ?_
      refine WO_end ?_
      exact ⟨hO₁₁.pick [0, 1, 2, 3, 4, 5] rfl (by decide), rfl, g₅_1⟩
  rintro frg₆ k₁₃ ⟨hO₁₃, g₆_60, g₆_1⟩
  refine WO_v (a_mv (v := .b t2) g₆_60) ?_
  obtain ⟨t3, hv₄, hp⟩ := bd_some hp
  refine WO_cut 4 (fun fr' k' => Own B h k' [eNone, eSl e_T_api_Cell v₂ x1, eSl eV v₃ vs₁, eAll eInt vs₁ x3, eSl eInt v₄ x5, eSl eInt v₅ x7] ∧ fr' 65 = .b t3) ?_ ?_
  · clear hp; rcases if_some hv₄ with ⟨b₇, hp⟩ | ⟨b₇, hp⟩
    · skip
      refine WO_on rfl b₇ ?_
      refine WO_v (a_mv (v := v₂) g₆_1) ?_
      refine WO_on rfl b₇ ?_
      obtain ⟨c₂, hp⟩ := ck_some hp
      refine WO_v (a_slcF (E := e_T_api_Cell) (z := 2) (hO₁₃.sl 1 rfl : Sl e_T_api_Cell k₁₃ v₂ x1) rfl rfl c₂) ?_
      refine WO_on rfl b₇ ?_
      obtain ⟨x12, hx₉, hp⟩ := bd_some hp
      obtain ⟨u₉, k₁₄, ca₉, rfl, hW₉⟩ := p_join_Whole.ok (h := k₁₃)  (Sl.cutF (hO₁₃.sl 1 rfl : Sl e_T_api_Cell k₁₃ v₂ x1) c₂ : Sl e_T_api_Cell k₁₃ (V.cut v₂ (2 : Int).toNat (x1).length) (x1.drop (2 : Int).toNat)) hx₉
      refine WO_c (id := 32) (caps := []) rfl (mp_cons (v := (V.cut v₂ (2 : Int).toNat (x1).length)) rfl mp_nil) ca₉ ?_
      have hO₁₄ : Own B h k₁₄ [eNone, eSl e_T_api_Cell v₂ x1, eSl eV v₃ vs₁, eAll eInt vs₁ x3, eSl eInt v₄ x5, eSl eInt v₅ x7] := hO₁₃.call hW₉ rfl
      refine WO_v (a_pickT (t := t2) (v := .b t3) rfl b₇ (Eq.trans (b := V.b x12) rfl (congrArg V.b (Option.some.inj hp)))) ?_
      refine WO_end ?_
      exact ⟨hO₁₄.pick [0, 1, 2, 3, 4, 5] rfl (by decide), rfl⟩
    · skip
      refine WO_off rfl b₇ ?_
      refine WO_off rfl b₇ ?_
      refine WO_off rfl b₇ ?_
      refine WO_v (a_pickF (t := t2) (v := .b t3) rfl b₇ (Eq.trans (b := V.b false) rfl (congrArg V.b (Option.some.inj hp)))) ?_
      refine WO_end ?_
      exact ⟨hO₁₃.pick [0, 1, 2, 3, 4, 5] rfl (by decide), rfl⟩
  rintro frg₇ k₁₅ ⟨hO₁₅, g₇_65⟩
  refine WO_v (a_mv (v := .b t3) g₇_65) ?_
  refine WO_end ?_
  refine then_n ?_
  refine W_rt ?_
  refine Ret_r (rs_t (n := 0) (v := .b t3) rfl rs_nil) ?_
  have hp := Option.some.inj hp; subst hp
  exact (And.intro rfl (hO₁₅.pick [] rfl (by decide)))

theorem p_muntinref10_Edge.ok {h : Hp} {l : List T_api_Cell} {a : Int} {b : Int} {v_l : V} (s_l : Sl e_T_api_Cell h v_l l) {r : Int × Int × Bool} (hp : p_muntinref10_Edge l a b = some r) :
    ∃ u k', Is G 117 [v_l, .i .i64 a, .i .i64 b] h u k' ∧ V.tu [.i .i64 r.1, .i .i64 r.2.1, .b r.2.2] = u ∧ Own (fun r => r < h.n) h k' [] := by
  refine WC.is (WC_of G_F_muntinref10_Edge ?_)
  unfold p_muntinref10_Edge at hp
  let B : Nat → Prop := (fun r => r < h.n)
  have hO : Own B h h [] := Own.start0 h
  refine W_sq ?_
  refine W_rg ?_
  refine WO_v (a_mv (v := .i .i64 0) rfl) ?_
  refine WO_v (a_mv (v := .i .i64 0) rfl) ?_
  refine WO_v (a_mv (v := .b false) rfl) ?_
  refine WO_end ?_
  refine then_n ?_
  refine W_sq ?_
  refine W_sq ?_
  refine W_rg ?_
  refine WO_v (a_mv (v := .i .i64 0) rfl) ?_
  refine WO_end ?_
  refine then_n ?_
  refine W_bl ?_
  obtain ⟨o₁, ho₁, hp⟩ := bd_some hp
  refine W.mono (Q := fun e fr k => match (generalizing := false) o₁ with
      | .inl _ => e = (.exit 0) ∧ Own B h k []
      | .inr (x, x1) => e = .ret ∧ fr 6 = .i .i64 x ∧ fr 7 = .i .i64 x1 ∧ fr 8 = .b true ∧ Own B h k []) ?_ ?_
  · clear hp
    refine W_loopF (fun st fr k => match st with | i => fr 0 = v_l ∧ fr 1 = .i .i64 a ∧ fr 2 = .i .i64 b ∧ fr 9 = .i .i64 i ∧ Own B h k []) ho₁ (s := 0) (And.intro (rfl) (And.intro (rfl) (And.intro (rfl) (And.intro (rfl) (hO.pick [] rfl (by decide)))))) ?_
    rintro i q₂ k₂ ⟨q₂_0, q₂_1, q₂_2, q₂_9, hO₂⟩ o₂ hp
    dsimp only [p_muntinref10_Edge.s0] at hp
    refine W_sq ?_
    refine W_sq ?_
    refine W_rg ?_
    refine WO_v (a_mv (v := .i .i64 i) q₂_9) ?_
    refine WO_v (a_mv (v := v_l) q₂_0) ?_
    refine WO_v (a_len (hO₂.rd0 s_l.rd : Sl e_T_api_Cell k₂ v_l l) rfl) ?_
    obtain ⟨c₁, hp⟩ := ck_some hp
    refine WO_v (a_mul (a := 4) (b := (l.length : Int)) rfl rfl c₁) ?_
    refine WO_v (a_lss (a := i) (b := (4 * (l.length : Int))) rfl rfl) ?_
    refine WO_end ?_
    refine then_n ?_
    rcases if_some hp with ⟨b₁, hp⟩ | ⟨b₁, hp⟩
    · refine W_cT (t := (decide (i < (4 * (l.length : Int))))) rfl b₁ ?_
      refine W_sk ?_
      refine then_n ?_
      refine W_sq ?_
      refine W_bl ?_
      refine W_sq ?_
      refine W_rg ?_
      refine WO_v (a_mv (v := .i .i64 a) q₂_1) ?_
      refine WO_v (a_mv (v := v_l) q₂_0) ?_
      refine WO_v (a_len (hO₂.rd0 s_l.rd : Sl e_T_api_Cell k₂ v_l l) rfl) ?_
      refine WO_v (a_mx (a := (l.length : Int)) (b := 1) rfl rfl) ?_
      obtain ⟨c₂, hp⟩ := ck_some hp
      refine WO_v (a_rem (a := a) (b := (max (l.length : Int) 1)) rfl rfl c₂) ?_
      obtain ⟨c₃, hp⟩ := ck_some hp
      refine WO_v (a_mul (a := 4) (b := (a.tmod (max (l.length : Int) 1))) rfl rfl c₃) ?_
      refine WO_v (a_mv (v := .i .i64 b) q₂_2) ?_
      refine WO_v (a_rem (a := b) (b := 4) rfl rfl (by decide)) ?_
      obtain ⟨c₄, hp⟩ := ck_some hp
      refine WO_v (a_add (a := (4 * (a.tmod (max (l.length : Int) 1)))) (b := (b.tmod 4)) rfl rfl c₄) ?_
      refine WO_v (a_mv (v := .i .i64 i) q₂_9) ?_
      obtain ⟨c₅, hp⟩ := ck_some hp
      refine WO_v (a_add (a := ((4 * (a.tmod (max (l.length : Int) 1))) + (b.tmod 4))) (b := i) rfl rfl c₅) ?_
      refine WO_v (a_mv (v := v_l) q₂_0) ?_
      refine WO_v (a_len (hO₂.rd0 s_l.rd : Sl e_T_api_Cell k₂ v_l l) rfl) ?_
      refine WO_v (a_mul (a := 4) (b := (l.length : Int)) rfl rfl c₁) ?_
      obtain ⟨c₆, hp⟩ := ck_some hp
      refine WO_v (a_rem (a := (((4 * (a.tmod (max (l.length : Int) 1))) + (b.tmod 4)) + i)) (b := (4 * (l.length : Int))) rfl rfl c₆) ?_
      refine WO_v (a_mv (v := .i .i64 ((((4 * (a.tmod (max (l.length : Int) 1))) + (b.tmod 4)) + i).tmod (4 * (l.length : Int)))) rfl) ?_
      refine WO_end ?_
      refine then_n ?_
      refine W_sq ?_
      refine W_rg ?_
      refine WO_v (a_mv (v := v_l) q₂_0) ?_
      refine WO_v (a_mv (v := .i .i64 ((((4 * (a.tmod (max (l.length : Int) 1))) + (b.tmod 4)) + i).tmod (4 * (l.length : Int)))) rfl) ?_
      obtain ⟨c₇, hp⟩ := ck_some hp
      refine WO_v (a_quo (a := ((((4 * (a.tmod (max (l.length : Int) 1))) + (b.tmod 4)) + i).tmod (4 * (l.length : Int)))) (b := 4) rfl rfl c₇) ?_
      refine WO_v (a_mv (v := .i .i64 ((((4 * (a.tmod (max (l.length : Int) 1))) + (b.tmod 4)) + i).tmod (4 * (l.length : Int)))) rfl) ?_
      refine WO_v (a_rem (a := ((((4 * (a.tmod (max (l.length : Int) 1))) + (b.tmod 4)) + i).tmod (4 * (l.length : Int)))) (b := 4) rfl rfl (by decide)) ?_
      obtain ⟨c₈, hp⟩ := ck_some hp
      refine WO_v (a_ixa (E := e_T_api_Cell) (z := (((((4 * (a.tmod (max (l.length : Int) 1))) + (b.tmod 4)) + i).tmod (4 * (l.length : Int))).tdiv 4)) (hO₂.rd0 s_l.rd : Sl e_T_api_Cell k₂ v_l l) rfl rfl c₈) ?_
      refine WO_v (a_faE (off' := 0) (off2 := 0) (hO₂.rd0 s_l.rd : Sl e_T_api_Cell k₂ v_l l) (toNat_lt c₈) rfl rfl) ?_
      obtain ⟨c₉, hp⟩ := ck_some hp
      refine WO_v (a_ixaaE (off := 0) (off2 := (0 + (((((4 * (a.tmod (max (l.length : Int) 1))) + (b.tmod 4)) + i).tmod (4 * (l.length : Int))).tmod 4 : Int).toNat * 1)) (z := (((((4 * (a.tmod (max (l.length : Int) 1))) + (b.tmod 4)) + i).tmod (4 * (l.length : Int))).tmod 4)) (hO₂.rd0 s_l.rd : Sl e_T_api_Cell k₂ v_l l) (toNat_lt c₈) rfl rfl c₉ rfl) ?_
      refine WO_v (a_ldE (w := .i .i64 (((gi l (((((4 * (a.tmod (max (l.length : Int) 1))) + (b.tmod 4)) + i).tmod (4 * (l.length : Int))).tdiv 4 : Int).toNat).Next).get (((((4 * (a.tmod (max (l.length : Int) 1))) + (b.tmod 4)) + i).tmod (4 * (l.length : Int))).tmod 4))) (hO₂.rd0 s_l.rd : Sl e_T_api_Cell k₂ v_l l) rfl (toNat_lt c₈) (ld_T_api_Cell_Next c₉)) ?_
      refine WO_v (a_geq (a := (((gi l (((((4 * (a.tmod (max (l.length : Int) 1))) + (b.tmod 4)) + i).tmod (4 * (l.length : Int))).tdiv 4 : Int).toNat).Next).get (((((4 * (a.tmod (max (l.length : Int) 1))) + (b.tmod 4)) + i).tmod (4 * (l.length : Int))).tmod 4))) (b := 0) rfl rfl) ?_
      refine WO_end ?_
      refine then_n ?_
      rcases if_some hp with ⟨b₂, hp⟩ | ⟨b₂, hp⟩
      · refine W_cT (t := (decide (0 ≤ (((gi l (((((4 * (a.tmod (max (l.length : Int) 1))) + (b.tmod 4)) + i).tmod (4 * (l.length : Int))).tdiv 4 : Int).toNat).Next).get (((((4 * (a.tmod (max (l.length : Int) 1))) + (b.tmod 4)) + i).tmod (4 * (l.length : Int))).tmod 4))))) rfl b₂ ?_
        refine W_sq ?_
        refine W_rg ?_
        refine WO_v (a_mv (v := .i .i64 ((((4 * (a.tmod (max (l.length : Int) 1))) + (b.tmod 4)) + i).tmod (4 * (l.length : Int)))) rfl) ?_
        refine WO_v (a_quo (a := ((((4 * (a.tmod (max (l.length : Int) 1))) + (b.tmod 4)) + i).tmod (4 * (l.length : Int)))) (b := 4) rfl rfl c₇) ?_
        refine WO_v (a_mv (v := .i .i64 ((((4 * (a.tmod (max (l.length : Int) 1))) + (b.tmod 4)) + i).tmod (4 * (l.length : Int)))) rfl) ?_
        refine WO_v (a_rem (a := ((((4 * (a.tmod (max (l.length : Int) 1))) + (b.tmod 4)) + i).tmod (4 * (l.length : Int)))) (b := 4) rfl rfl (by decide)) ?_
        refine WO_v (a_mv (v := .i .i64 (((((4 * (a.tmod (max (l.length : Int) 1))) + (b.tmod 4)) + i).tmod (4 * (l.length : Int))).tdiv 4)) rfl) ?_
        refine WO_v (a_mv (v := .i .i64 (((((4 * (a.tmod (max (l.length : Int) 1))) + (b.tmod 4)) + i).tmod (4 * (l.length : Int))).tmod 4)) rfl) ?_
        refine WO_v (a_mv (v := .b true) rfl) ?_
        refine WO_end ?_
        refine then_n ?_
        refine W_rt ?_
        refine blk_r ?_
        refine then_r ?_
        have hp := Option.some.inj hp; subst hp
        refine (Or.inr (Exists.intro (.inr (((((4 * (a.tmod (max (l.length : Int) 1))) + (b.tmod 4)) + i).tmod (4 * (l.length : Int))).tdiv 4, ((((4 * (a.tmod (max (l.length : Int) 1))) + (b.tmod 4)) + i).tmod (4 * (l.length : Int))).tmod 4)) (And.intro rfl (And.intro (fun h => nomatch h) (fun he => ?_)))))
        subst he; exact (And.intro rfl (And.intro (rfl) (And.intro (rfl) (And.intro (rfl) (hO₂.pick [] rfl (by decide))))))
      · refine W_cF (t := (decide (0 ≤ (((gi l (((((4 * (a.tmod (max (l.length : Int) 1))) + (b.tmod 4)) + i).tmod (4 * (l.length : Int))).tdiv 4 : Int).toNat).Next).get (((((4 * (a.tmod (max (l.length : Int) 1))) + (b.tmod 4)) + i).tmod (4 * (l.length : Int))).tmod 4))))) rfl b₂ ?_
        refine W_sk ?_
        refine blk_n ?_
        refine then_n ?_
        refine W_rg ?_
        refine WO_v (a_mv (v := .i .i64 i) q₂_9) ?_
        obtain ⟨c₁₀, hp⟩ := ck_some hp
        refine WO_v (a_add (a := i) (b := 1) rfl rfl c₁₀) ?_
        refine WO_v (a_mv (v := .i .i64 (i + 1)) rfl) ?_
        refine WO_end ?_
        have hp := Option.some.inj hp; subst hp
        exact (Or.inl (Exists.intro (i + 1) (And.intro rfl (And.intro rfl (And.intro (q₂_0) (And.intro (q₂_1) (And.intro (q₂_2) (And.intro (rfl) (hO₂.pick [] rfl (by decide))))))))))
    · refine W_cF (t := (decide (i < (4 * (l.length : Int))))) rfl b₁ ?_
      refine W_ex ?_
      refine then_e ?_
      have hp := Option.some.inj hp; subst hp
      refine (Or.inr (Exists.intro (.inl ()) (And.intro rfl (And.intro (fun h => nomatch h) (fun he => ?_)))))
      subst he; exact (And.intro rfl (hO₂.pick [] rfl (by decide)))
  intro e₁ q₁ k₁ hJ₁
  rcases o₁ with _ | ⟨x, x1⟩
  · obtain ⟨rfl, hO₁⟩ := hJ₁
    refine blk_i ?_
    refine then_n ?_
    refine W_sq ?_
    refine W_rg ?_
    refine WO_v (a_mv (v := .i .i64 0) rfl) ?_
    refine WO_v (a_mv (v := .i .i64 0) rfl) ?_
    refine WO_v (a_mv (v := .b false) rfl) ?_
    refine WO_end ?_
    refine then_n ?_
    refine W_rt ?_
    refine Ret_r (rs_t (n := 6) (v := .i .i64 0) rfl (rs_t (n := 7) (v := .i .i64 0) rfl (rs_t (n := 8) (v := .b false) rfl rs_nil))) ?_
    have hp := Option.some.inj hp; subst hp
    exact (And.intro rfl (hO₁.pick [] rfl (by decide)))
  · obtain ⟨rfl, q₁_6, q₁_7, q₁_8, hO₁⟩ := hJ₁
    refine blk_r ?_
    refine then_r ?_
    refine Ret_r (rs_t (n := 6) (v := .i .i64 x) q₁_6 (rs_t (n := 7) (v := .i .i64 x1) q₁_7 (rs_t (n := 8) (v := .b true) q₁_8 rs_nil))) ?_
    have hp := Option.some.inj hp; subst hp
    exact (And.intro rfl (hO₁.pick [] rfl (by decide)))

theorem p_muntinref10_Split.ok {h : Hp} {l : List T_api_Cell} {v : Int} {d : Int} {v_l : V} (H : Own (Bm h [eSl e_T_api_Cell v_l l]) h h [eSl e_T_api_Cell v_l l]) {r : (List T_api_Cell) × Int × Int} (hp : p_muntinref10_Split l v d = some r) :
    ∃ u k', Is G 49 [v_l, .i .i64 v, .i .i64 d] h u k' ∧ ∃ (v₁ : V), V.tu [v₁, .i .i64 r.2.1, .i .i64 r.2.2] = u ∧ Own (Bm h [eSl e_T_api_Cell v_l l]) h k' [eSl e_T_api_Cell v₁ r.1] := by
  refine WC.is (WC_of G_F_muntinref10_Split ?_)
  unfold p_muntinref10_Split at hp
  let B : Nat → Prop := (Bm h [eSl e_T_api_Cell v_l l])
  have hO : Own B h h [eSl e_T_api_Cell v_l l] := H
  refine W_sq ?_
  refine W_rg ?_
  refine WO_v (a_mv (v := .sn) rfl) ?_
  refine WO_v (a_mv (v := .i .i64 0) rfl) ?_
  refine WO_v (a_mv (v := .i .i64 0) rfl) ?_
  refine WO_end ?_
  refine then_n ?_
  refine W_sq ?_
  refine W_sq ?_
  refine W_rg ?_
  refine WO_v (a_mv (v := .i .i64 v) rfl) ?_
  refine WO_v (a_lss (a := v) (b := 0) rfl rfl) ?_
  refine WO_v (a_mv (v := .b (decide (v < 0))) rfl) ?_
  refine WO_cut 5 (fun fr' k' => h = k' ∧ fr' 20 = .b ((decide (v < 0)) || (decide ((l.length : Int) ≤ v))) ∧ fr' 0 = v_l ∧ fr' 1 = .i .i64 v ∧ fr' 2 = .i .i64 d) ?_ ?_
  · rcases bc (decide (v < 0)) with b₁ | b₁
    · skip
      refine WO_off rfl b₁ ?_
      refine WO_off rfl b₁ ?_
      refine WO_off rfl b₁ ?_
      refine WO_off rfl b₁ ?_
      refine WO_v (a_pickT (t := (decide (v < 0))) (v := .b ((decide (v < 0)) || (decide ((l.length : Int) ≤ v)))) rfl b₁ (Eq.trans (b := V.b true) rfl (or_off b₁))) ?_
      refine WO_end ?_
      exact ⟨rfl, rfl, rfl, rfl, rfl⟩
    · skip
      refine WO_on rfl b₁ ?_
      refine WO_v (a_mv (v := .i .i64 v) rfl) ?_
      refine WO_on rfl b₁ ?_
      refine WO_v (a_mv (v := v_l) rfl) ?_
      refine WO_on rfl b₁ ?_
      refine WO_v (a_len (hO.sl 0 rfl : Sl e_T_api_Cell h v_l l) rfl) ?_
      refine WO_on rfl b₁ ?_
      refine WO_v (a_geq (a := v) (b := (l.length : Int)) rfl rfl) ?_
      refine WO_v (a_pickF (t := (decide (v < 0))) (v := .b ((decide (v < 0)) || (decide ((l.length : Int) ≤ v)))) rfl b₁ (Eq.trans (b := V.b (decide ((l.length : Int) ≤ v))) rfl (or_on b₁))) ?_
      refine WO_end ?_
      exact ⟨rfl, rfl, rfl, rfl, rfl⟩
  rintro frg₁ _ ⟨rfl, g₁_20, g₁_0, g₁_1, g₁_2⟩
  refine WO_v (a_mv (v := .b ((decide (v < 0)) || (decide ((l.length : Int) ≤ v)))) g₁_20) ?_
  refine WO_cut 3 (fun fr' k' => h = k' ∧ fr' 24 = .b (((decide (v < 0)) || (decide ((l.length : Int) ≤ v))) || (decide (d < 0))) ∧ fr' 0 = v_l ∧ fr' 1 = .i .i64 v ∧ fr' 2 = .i .i64 d) ?_ ?_
  · rcases bc ((decide (v < 0)) || (decide ((l.length : Int) ≤ v))) with b₂ | b₂
    · skip
      refine WO_off rfl b₂ ?_
      refine WO_off rfl b₂ ?_
      refine WO_v (a_pickT (t := ((decide (v < 0)) || (decide ((l.length : Int) ≤ v)))) (v := .b (((decide (v < 0)) || (decide ((l.length : Int) ≤ v))) || (decide (d < 0)))) rfl b₂ (Eq.trans (b := V.b true) rfl (or_off b₂))) ?_
      refine WO_end ?_
      exact ⟨rfl, rfl, g₁_0, g₁_1, g₁_2⟩
    · skip
      refine WO_on rfl b₂ ?_
      refine WO_v (a_mv (v := .i .i64 d) g₁_2) ?_
      refine WO_on rfl b₂ ?_
      refine WO_v (a_lss (a := d) (b := 0) rfl rfl) ?_
      refine WO_v (a_pickF (t := ((decide (v < 0)) || (decide ((l.length : Int) ≤ v)))) (v := .b (((decide (v < 0)) || (decide ((l.length : Int) ≤ v))) || (decide (d < 0)))) rfl b₂ (Eq.trans (b := V.b (decide (d < 0))) rfl (or_on b₂))) ?_
      refine WO_end ?_
      exact ⟨rfl, rfl, g₁_0, g₁_1, g₁_2⟩
  rintro frg₂ _ ⟨rfl, g₂_24, g₂_0, g₂_1, g₂_2⟩
  refine WO_v (a_mv (v := .b (((decide (v < 0)) || (decide ((l.length : Int) ≤ v))) || (decide (d < 0)))) g₂_24) ?_
  refine WO_cut 3 (fun fr' k' => h = k' ∧ fr' 28 = .b ((((decide (v < 0)) || (decide ((l.length : Int) ≤ v))) || (decide (d < 0))) || (decide (3 < d))) ∧ fr' 0 = v_l ∧ fr' 1 = .i .i64 v ∧ fr' 2 = .i .i64 d) ?_ ?_
  · rcases bc (((decide (v < 0)) || (decide ((l.length : Int) ≤ v))) || (decide (d < 0))) with b₃ | b₃
    · skip
      refine WO_off rfl b₃ ?_
      refine WO_off rfl b₃ ?_
      refine WO_v (a_pickT (t := (((decide (v < 0)) || (decide ((l.length : Int) ≤ v))) || (decide (d < 0)))) (v := .b ((((decide (v < 0)) || (decide ((l.length : Int) ≤ v))) || (decide (d < 0))) || (decide (3 < d)))) rfl b₃ (Eq.trans (b := V.b true) rfl (or_off b₃))) ?_
      refine WO_end ?_
      exact ⟨rfl, rfl, g₂_0, g₂_1, g₂_2⟩
    · skip
      refine WO_on rfl b₃ ?_
      refine WO_v (a_mv (v := .i .i64 d) g₂_2) ?_
      refine WO_on rfl b₃ ?_
      refine WO_v (a_gtr (a := d) (b := 3) rfl rfl) ?_
      refine WO_v (a_pickF (t := (((decide (v < 0)) || (decide ((l.length : Int) ≤ v))) || (decide (d < 0)))) (v := .b ((((decide (v < 0)) || (decide ((l.length : Int) ≤ v))) || (decide (d < 0))) || (decide (3 < d)))) rfl b₃ (Eq.trans (b := V.b (decide (3 < d))) rfl (or_on b₃))) ?_
      refine WO_end ?_
      exact ⟨rfl, rfl, g₂_0, g₂_1, g₂_2⟩
  rintro frg₃ _ ⟨rfl, g₃_28, g₃_0, g₃_1, g₃_2⟩
  refine WO_end ?_
  refine then_n ?_
  rcases if_some hp with ⟨b₄, hp⟩ | ⟨b₄, hp⟩
  · refine W_cT (t := ((((decide (v < 0)) || (decide ((l.length : Int) ≤ v))) || (decide (d < 0))) || (decide (3 < d)))) g₃_28 b₄ ?_
    refine W_sq ?_
    refine W_rg ?_
    refine WO_v (a_mv (v := v_l) g₃_0) ?_
    refine WO_v (a_mv (v := v_l) rfl) ?_
    refine WO_v (a_mv (v := .i .i64 0) rfl) ?_
    refine WO_v (a_mv (v := .i .i64 2) rfl) ?_
    refine WO_end ?_
    refine then_n ?_
    refine W_rt ?_
    refine then_r ?_
    refine Ret_r (rs_t (n := 6) (v := v_l) rfl (rs_t (n := 7) (v := .i .i64 0) rfl (rs_t (n := 8) (v := .i .i64 2) rfl rs_nil))) ?_
    have hp := Option.some.inj hp; subst hp
    exact (Exists.intro v_l (And.intro rfl (hO.pick [0] rfl (by decide))))
  · refine W_cF (t := ((((decide (v < 0)) || (decide ((l.length : Int) ≤ v))) || (decide (d < 0))) || (decide (3 < d)))) g₃_28 b₄ ?_
    refine W_sk ?_
    refine then_n ?_
    refine W_sq ?_
    refine W_rg ?_
    refine WO_v (a_mv (v := v_l) g₃_0) ?_
    refine WO_v (a_mv (v := .i .i64 v) g₃_1) ?_
    refine WO_v (a_mv (v := .i .i64 d) g₃_2) ?_
    obtain ⟨c₁, hp⟩ := ck_some hp
    refine WO_v (a_ixa (E := e_T_api_Cell) (z := v) (hO.sl 0 rfl : Sl e_T_api_Cell h v_l l) rfl rfl c₁) ?_
    refine WO_v (a_faE (off' := 0) (off2 := 0) (hO.sl 0 rfl : Sl e_T_api_Cell h v_l l) (toNat_lt c₁) rfl rfl) ?_
    obtain ⟨c₂, hp⟩ := ck_some hp
    refine WO_v (a_ixaaE (off := 0) (off2 := (0 + (d : Int).toNat * 1)) (z := d) (hO.sl 0 rfl : Sl e_T_api_Cell h v_l l) (toNat_lt c₁) rfl rfl c₂ rfl) ?_
    refine WO_v (a_ldE (w := .i .i64 (((gi l (v : Int).toNat).Next).get d)) (hO.sl 0 rfl : Sl e_T_api_Cell h v_l l) rfl (toNat_lt c₁) (ld_T_api_Cell_Next c₂)) ?_
    refine WO_v (a_mv (v := .i .i64 (((gi l (v : Int).toNat).Next).get d)) rfl) ?_
    refine WO_end ?_
    refine then_n ?_
    refine W_sq ?_
    refine W_sq ?_
    refine W_rg ?_
    refine WO_v (a_mv (v := .i .i64 (((gi l (v : Int).toNat).Next).get d)) rfl) ?_
    refine WO_v (a_eqI (a := (((gi l (v : Int).toNat).Next).get d)) (b := (-1)) rfl rfl) ?_
    refine WO_end ?_
    refine then_n ?_
    rcases if_some hp with ⟨b₅, hp⟩ | ⟨b₅, hp⟩
    · refine W_cT (t := (decide (((gi l (v : Int).toNat).Next).get d = (-1)))) rfl b₅ ?_
      refine W_sq ?_
      refine W_rg ?_
      refine WO_v (a_mv (v := v_l) g₃_0) ?_
      refine WO_v (a_mv (v := v_l) rfl) ?_
      refine WO_v (a_mv (v := .i .i64 0) rfl) ?_
      refine WO_v (a_mv (v := .i .i64 9) rfl) ?_
      refine WO_end ?_
      refine then_n ?_
      refine W_rt ?_
      refine then_r ?_
      refine Ret_r (rs_t (n := 6) (v := v_l) rfl (rs_t (n := 7) (v := .i .i64 0) rfl (rs_t (n := 8) (v := .i .i64 9) rfl rs_nil))) ?_
      have hp := Option.some.inj hp; subst hp
      exact (Exists.intro v_l (And.intro rfl (hO.pick [0] rfl (by decide))))
    · refine W_cF (t := (decide (((gi l (v : Int).toNat).Next).get d = (-1)))) rfl b₅ ?_
      refine W_sk ?_
      refine then_n ?_
      refine W_sq ?_
      refine W_sq ?_
      refine W_rg ?_
      refine WO_v (a_mv (v := v_l) g₃_0) ?_
      refine WO_v (a_len (hO.sl 0 rfl : Sl e_T_api_Cell h v_l l) rfl) ?_
      refine WO_v (a_geq (a := (l.length : Int)) (b := 4096) rfl rfl) ?_
      refine WO_end ?_
      refine then_n ?_
      rcases if_some hp with ⟨b₆, hp⟩ | ⟨b₆, hp⟩
      · refine W_cT (t := (decide (4096 ≤ (l.length : Int)))) rfl b₆ ?_
        refine W_sq ?_
        refine W_rg ?_
        refine WO_v (a_mv (v := v_l) g₃_0) ?_
        refine WO_v (a_mv (v := v_l) rfl) ?_
        refine WO_v (a_mv (v := .i .i64 0) rfl) ?_
        refine WO_v (a_mv (v := .i .i64 6) rfl) ?_
        refine WO_end ?_
        refine then_n ?_
        refine W_rt ?_
        refine then_r ?_
        refine Ret_r (rs_t (n := 6) (v := v_l) rfl (rs_t (n := 7) (v := .i .i64 0) rfl (rs_t (n := 8) (v := .i .i64 6) rfl rs_nil))) ?_
        have hp := Option.some.inj hp; subst hp
        exact (Exists.intro v_l (And.intro rfl (hO.pick [0] rfl (by decide))))
      · refine W_cF (t := (decide (4096 ≤ (l.length : Int)))) rfl b₆ ?_
        refine W_sk ?_
        refine then_n ?_
        refine W_sq ?_
        refine W_rg ?_
        refine WO_v (a_mv (v := v_l) g₃_0) ?_
        refine WO_v (a_mv (v := .i .i64 v) g₃_1) ?_
        refine WO_v (a_mv (v := .i .i64 d) g₃_2) ?_
        refine WO_v (a_ixa (E := e_T_api_Cell) (z := v) (hO.sl 0 rfl : Sl e_T_api_Cell h v_l l) rfl rfl c₁) ?_
        refine WO_v (a_faE (off' := 0) (off2 := 4) (hO.sl 0 rfl : Sl e_T_api_Cell h v_l l) (toNat_lt c₁) rfl rfl) ?_
        refine WO_v (a_ixaaE (off := 4) (off2 := (4 + (d : Int).toNat * 1)) (z := d) (hO.sl 0 rfl : Sl e_T_api_Cell h v_l l) (toNat_lt c₁) rfl rfl c₂ rfl) ?_
        refine WO_v (a_ldE (w := .i .i64 (((gi l (v : Int).toNat).Owner).get d)) (hO.sl 0 rfl : Sl e_T_api_Cell h v_l l) rfl (toNat_lt c₁) (ld_T_api_Cell_Owner c₂)) ?_
        refine WO_v (a_mv (v := .i .i64 (((gi l (v : Int).toNat).Owner).get d)) rfl) ?_
        refine WO_end ?_
        refine then_n ?_
        refine W_sq ?_
        refine W_rg ?_
        refine WO_v (a_mv (v := v_l) g₃_0) ?_
        refine WO_v (a_len (hO.sl 0 rfl : Sl e_T_api_Cell h v_l l) rfl) ?_
        refine WO_v (a_mv (v := .i .i64 (l.length : Int)) rfl) ?_
        refine WO_end ?_
        refine then_n ?_
        refine W_sq ?_
        refine W_rg ?_
        obtain ⟨x, hx₁, hp⟩ := bd_some hp
        obtain ⟨u₁, k₁, ca₁, v₂, rfl, hW₁⟩ := p_muntinref10_New.ok (h := h)   hx₁
        refine WO_c (id := 46) (caps := []) rfl (mp_cons (v := .i .i64 1) rfl mp_nil) ca₁ ?_
        have hO₁ : Own B h k₁ [eSl e_T_api_Cell v_l l, eSl e_T_api_Cell v₂ x] := hO.call hW₁ rfl
        refine WO_v (a_mv (v := v₂) rfl) ?_
        refine WO_end ?_
        refine then_n ?_
        refine W_sq ?_
        refine W_dr ?_
        have hW := hO₁.bump 8
        have fr₁ := Fresh.start k₁ 8
        have nb₁ : ∀ {i : Nat}, h.n ≤ k₁.n + i := Nat.le_trans hO₁.n (Nat.le_add_right _ _)
        have hO₂ : Own B h (k₁.bump 8) [eSl e_T_api_Cell v_l l, eSl e_T_api_Cell v₂ x] := hW
        refine WD_v (a_mv (v := v_l) g₃_0) ?_
        obtain ⟨x1, hx₂, hp⟩ := bd_some hp
        obtain ⟨u₂, k₃, ca₂, v₃, rfl, hW₂⟩ := p_muntinref10_with.ok (h := (k₁.bump 8))  (hO₂.sl 0 rfl : Sl e_T_api_Cell (k₁.bump 8) v_l l) hx₂
        refine WD_c (id := 65) (caps := []) rfl (mp_cons (v := v_l) rfl (mp_cons (v := .i .i64 (-1)) rfl (mp_cons (v := .i .i64 0) rfl (mp_cons (v := .i .i64 (-1)) rfl (mp_cons (v := .i .i64 0) rfl mp_nil))))) ca₂ ?_
        have fr₂ := fr₁.call hW₂
        have hO₃ : Own B h k₃ [eSl e_T_api_Cell v_l l, eSl e_T_api_Cell v₂ x, eSl e_T_api_Cell v₃ x1] := hO₂.call hW₂ rfl
        refine WD_v (a_mv (v := v₂) rfl) ?_
        obtain ⟨c₃, hp⟩ := ck_some hp
        refine WD_v (a_ixa (E := e_T_api_Cell) (z := 0) (hO₃.sl 1 rfl : Sl e_T_api_Cell k₃ v₂ x) rfl rfl c₃) ?_
        refine WD_v (a_ldA (E := e_T_api_Cell) (hO₃.sl 1 rfl : Sl e_T_api_Cell k₃ v₂ x) rfl (toNat_lt c₃)) ?_
        refine WD_x (hO₃.bsl (E := e_T_api_Cell) (l := [gi x (0 : Int).toNat]) ⟨fr₂.m 5 (by decide) (by decide), nb₁⟩ (by rw [(ev_cons (v := .ag (e_T_api_Cell.c (gi x (0 : Int).toNat))) rfl ev_nil)]; rfl) rfl) ?_
        rintro v₄ k₄ z₁ ⟨r₁, f₁, hW⟩
        have fr₃ := fr₂.kept f₁ (by decide)
        have hO₄ : Own B h k₄ [eSl e_T_api_Cell v_l l, eSl e_T_api_Cell v₂ x, eSl e_T_api_Cell v₃ x1, eSl e_T_api_Cell v₄ [gi x (0 : Int).toNat]] := hW
        obtain ⟨c₄, hp⟩ := ck_some hp
        refine WD_x (hO₄.app (E := e_T_api_Cell) (bytes := 64) 2 ⟨fr₃.m 6 (by decide) (by decide), nb₁⟩ rfl (hO₄.sl 3 rfl : Sl e_T_api_Cell k₄ v₄ [gi x (0 : Int).toNat]) rfl rfl (fun _ => rfl) c₄ (by decide)) ?_
        rintro v₅ k₅ z₂ ⟨f₂, hW⟩
        have fr₄ := fr₃.kept f₂ (by decide)
        have hO₅ : Own B h k₅ [eSl e_T_api_Cell v_l l, eSl e_T_api_Cell v₂ x, eSl e_T_api_Cell v₅ (x1 ++ [gi x (0 : Int).toNat]), eSl e_T_api_Cell v₄ [gi x (0 : Int).toNat]] := hW
        refine WD_v (a_mv (v := v₅) rfl) ?_
        refine WD_end ?_
        refine And.intro ?_ ?_
        · intro q hq
          simp only [List.mem_cons, List.not_mem_nil, or_false] at hq
          rcases hq with rfl | rfl
          · refine ap_cl rfl ?_
            · exact (fun r hm hc => hc (hW₂.base r (Nat.lt_of_lt_of_le (hO₁.ltAt 1 rfl _ (refs_elt (tch (v := V.elt v₂ (0 : Int).toNat 0) (ld_el hm) rfl))) (Nat.le_trans (Nat.le_add_right _ _) fr₁.n))))
          · refine ap_cl rfl ?_
            · exact (fun r hm hc => nomatch hm)
        refine then_n ?_
        refine W_sq ?_
        refine W_rg ?_
        refine WO_v (a_mv (v := v₅) rfl) ?_
        refine WO_v (a_mv (v := .i .i64 v) g₃_1) ?_
        refine WO_v (a_mv (v := .i .i64 d) g₃_2) ?_
        refine WO_v (a_mv (v := .i .i64 (l.length : Int)) rfl) ?_
        refine WO_v (a_mv (v := .i .i64 (((gi l (v : Int).toNat).Owner).get d)) rfl) ?_
        obtain ⟨x2, hx₃, hp⟩ := bd_some hp
        obtain ⟨u₃, k₆, ca₃, v₆, rfl, hW₃⟩ := p_muntinref10_with.ok (h := k₅)  (hO₅.sl 2 rfl : Sl e_T_api_Cell k₅ v₅ (x1 ++ [gi x (0 : Int).toNat])) hx₃
        refine WO_c (id := 65) (caps := []) rfl (mp_cons (v := v₅) rfl (mp_cons (v := .i .i64 v) rfl (mp_cons (v := .i .i64 d) rfl (mp_cons (v := .i .i64 (l.length : Int)) rfl (mp_cons (v := .i .i64 (((gi l (v : Int).toNat).Owner).get d)) rfl mp_nil))))) ca₃ ?_
        have hO₆ : Own B h k₆ [eSl e_T_api_Cell v_l l, eSl e_T_api_Cell v₂ x, eSl e_T_api_Cell v₅ (x1 ++ [gi x (0 : Int).toNat]), eSl e_T_api_Cell v₄ [gi x (0 : Int).toNat], eSl e_T_api_Cell v₆ x2] := hO₅.call hW₃ rfl
        refine WO_v (a_mv (v := v₆) rfl) ?_
        refine WO_end ?_
        refine then_n ?_
        refine W_sq ?_
        refine W_rg ?_
        refine WO_v (a_mv (v := v₆) rfl) ?_
        refine WO_v (a_mv (v := .i .i64 (l.length : Int)) rfl) ?_
        refine WO_v (a_mv (v := .i .i64 d) g₃_2) ?_
        refine WO_v (a_mv (v := .i .i64 (((gi l (v : Int).toNat).Next).get d)) rfl) ?_
        refine WO_v (a_mv (v := .i .i64 (((gi l (v : Int).toNat).Owner).get d)) rfl) ?_
        obtain ⟨x3, hx₄, hp⟩ := bd_some hp
        obtain ⟨u₄, k₇, ca₄, v₇, rfl, hW₄⟩ := p_muntinref10_with.ok (h := k₆)  (hO₆.sl 4 rfl : Sl e_T_api_Cell k₆ v₆ x2) hx₄
        refine WO_c (id := 65) (caps := []) rfl (mp_cons (v := v₆) rfl (mp_cons (v := .i .i64 (l.length : Int)) rfl (mp_cons (v := .i .i64 d) rfl (mp_cons (v := .i .i64 (((gi l (v : Int).toNat).Next).get d)) rfl (mp_cons (v := .i .i64 (((gi l (v : Int).toNat).Owner).get d)) rfl mp_nil))))) ca₄ ?_
        have hO₇ : Own B h k₇ [eSl e_T_api_Cell v_l l, eSl e_T_api_Cell v₂ x, eSl e_T_api_Cell v₅ (x1 ++ [gi x (0 : Int).toNat]), eSl e_T_api_Cell v₄ [gi x (0 : Int).toNat], eSl e_T_api_Cell v₆ x2, eSl e_T_api_Cell v₇ x3] := hO₆.call hW₄ rfl
        refine WO_v (a_mv (v := v₇) rfl) ?_
        refine WO_end ?_
        refine then_n ?_
        refine W_sq ?_
        refine W_rg ?_
        refine WO_v (a_mv (v := v₇) rfl) ?_
        refine WO_v (a_mv (v := .i .i64 (l.length : Int)) rfl) ?_
        refine WO_v (a_mv (v := v₇) rfl) ?_
        refine WO_v (a_mv (v := .i .i64 (l.length : Int)) rfl) ?_
        refine WO_v (a_mv (v := .i .i64 0) rfl) ?_
        refine WO_end ?_
        refine then_n ?_
        refine W_rt ?_
        refine Ret_r (rs_t (n := 6) (v := v₇) rfl (rs_t (n := 7) (v := .i .i64 (l.length : Int)) rfl (rs_t (n := 8) (v := .i .i64 0) rfl rs_nil))) ?_
        have hp := Option.some.inj hp; subst hp
        exact (Exists.intro v₇ (And.intro rfl (hO₇.pick [5] rfl (by decide))))

theorem p_slices_Index_int.ok {h : Hp} {s : List Int} {v : Int} {v_s : V} (s_s : Sl eInt h v_s s) {r : Int} (hp : p_slices_Index_int s v = some r) :
    ∃ u k', Is G 136 [v_s, .i .i64 v] h u k' ∧ V.i .i64 r = u ∧ Own (fun r => r < h.n) h k' [] := by
  refine WC.is (WC_of G_F_slices_Index_int ?_)
  unfold p_slices_Index_int at hp
  let B : Nat → Prop := (fun r => r < h.n)
  have hO : Own B h h [] := Own.start0 h
  refine W_sq ?_
  refine W_rg ?_
  refine WO_v (a_mv (v := .i .i64 0) rfl) ?_
  refine WO_end ?_
  refine then_n ?_
  refine W_sq ?_
  refine W_sq ?_
  refine W_rg ?_
  refine WO_v (a_mv (v := v_s) rfl) ?_
  refine WO_v (a_len (hO.rd0 s_s.rd : Sl eInt h v_s s) rfl) ?_
  refine WO_v (a_mv (v := .i .i64 0) rfl) ?_
  refine WO_end ?_
  refine then_n ?_
  refine W_bl ?_
  obtain ⟨o₁, ho₁, hp⟩ := bd_some hp
  refine W.mono (Q := fun e fr k => match (generalizing := false) o₁ with
      | .inl _ => e = (.exit 0) ∧ Own B h k []
      | .inr x1 => e = .ret ∧ fr 4 = .i .i64 x1 ∧ Own B h k []) ?_ ?_
  · clear hp
    refine W_loopF (fun st fr k => match st with | x => fr 0 = v_s ∧ fr 1 = .i .i64 v ∧ fr 7 = .i .i64 (s.length : Int) ∧ fr 8 = .i .i64 x ∧ Own B h k []) ho₁ (s := 0) (And.intro (rfl) (And.intro (rfl) (And.intro (rfl) (And.intro (rfl) (hO.pick [] rfl (by decide)))))) ?_
    rintro x q₂ k₂ ⟨q₂_0, q₂_1, q₂_7, q₂_8, hO₂⟩ o₂ hp
    dsimp only [p_slices_Index_int.s0] at hp
    refine W_sq ?_
    refine W_rg ?_
    refine WO_v (a_lss (a := x) (b := (s.length : Int)) q₂_8 q₂_7) ?_
    refine WO_end ?_
    refine then_n ?_
    refine W_sq ?_
    rcases if_some hp with ⟨b₁, hp⟩ | ⟨b₁, hp⟩
    · refine W_cT (t := (decide (x < (s.length : Int)))) rfl b₁ ?_
      refine W_sk ?_
      refine then_n ?_
      refine W_sq ?_
      refine W_bl ?_
      refine W_sq ?_
      refine W_rg ?_
      refine WO_v (a_mv (v := .i .i64 x) q₂_8) ?_
      refine WO_v (a_mv (v := .i .i64 x) rfl) ?_
      refine WO_end ?_
      refine then_n ?_
      refine W_sq ?_
      refine W_rg ?_
      refine WO_v (a_mv (v := .i .i64 v) q₂_1) ?_
      refine WO_v (a_mv (v := v_s) q₂_0) ?_
      refine WO_v (a_mv (v := .i .i64 x) rfl) ?_
      obtain ⟨c₁, hp⟩ := ck_some hp
      refine WO_v (a_ixa (E := eInt) (z := x) (hO₂.rd0 s_s.rd : Sl eInt k₂ v_s s) rfl rfl c₁) ?_
      refine WO_v (a_ldE (w := .i .i64 (gi s (x : Int).toNat)) (hO₂.rd0 s_s.rd : Sl eInt k₂ v_s s) rfl (toNat_lt c₁) rfl) ?_
      refine WO_v (a_eqI (a := v) (b := (gi s (x : Int).toNat)) rfl rfl) ?_
      refine WO_end ?_
      refine then_n ?_
      rcases if_some hp with ⟨b₂, hp⟩ | ⟨b₂, hp⟩
      · refine W_cT (t := (decide (v = gi s (x : Int).toNat))) rfl b₂ ?_
        refine W_sq ?_
        refine W_rg ?_
        refine WO_v (a_mv (v := .i .i64 x) rfl) ?_
        refine WO_v (a_mv (v := .i .i64 x) rfl) ?_
        refine WO_end ?_
        refine then_n ?_
        refine W_rt ?_
        refine blk_r ?_
        refine then_r ?_
        have hp := Option.some.inj hp; subst hp
        refine (Or.inr (Exists.intro (.inr x) (And.intro rfl (And.intro (fun h => nomatch h) (fun he => ?_)))))
        subst he; exact (And.intro rfl (And.intro (rfl) (hO₂.pick [] rfl (by decide))))
      · refine W_cF (t := (decide (v = gi s (x : Int).toNat))) rfl b₂ ?_
        refine W_sk ?_
        refine blk_n ?_
        refine then_n ?_
        refine W_rg ?_
        obtain ⟨c₂, hp⟩ := ck_some hp
        refine WO_v (a_add (a := x) (b := 1) q₂_8 rfl c₂) ?_
        refine WO_v (a_mv (v := .i .i64 (x + 1)) rfl) ?_
        refine WO_end ?_
        have hp := Option.some.inj hp; subst hp
        exact (Or.inl (Exists.intro (x + 1) (And.intro rfl (And.intro rfl (And.intro (q₂_0) (And.intro (q₂_1) (And.intro (q₂_7) (And.intro (rfl) (hO₂.pick [] rfl (by decide))))))))))
    · refine W_cF (t := (decide (x < (s.length : Int)))) rfl b₁ ?_
      refine W_ex ?_
      refine then_e ?_
      have hp := Option.some.inj hp; subst hp
      refine (Or.inr (Exists.intro (.inl ()) (And.intro rfl (And.intro (fun h => nomatch h) (fun he => ?_)))))
      subst he; exact (And.intro rfl (hO₂.pick [] rfl (by decide)))
  intro e₁ q₁ k₁ hJ₁
  rcases o₁ with _ | x1
  · obtain ⟨rfl, hO₁⟩ := hJ₁
    refine blk_i ?_
    refine then_n ?_
    refine W_sq ?_
    refine W_rg ?_
    refine WO_v (a_mv (v := .i .i64 (-1)) rfl) ?_
    refine WO_end ?_
    refine then_n ?_
    refine W_rt ?_
    refine Ret_r (rs_t (n := 4) (v := .i .i64 (-1)) rfl rs_nil) ?_
    have hp := Option.some.inj hp; subst hp
    exact (And.intro rfl (hO₁.pick [] rfl (by decide)))
  · obtain ⟨rfl, q₁_4, hO₁⟩ := hJ₁
    refine blk_r ?_
    refine then_r ?_
    refine Ret_r (rs_t (n := 4) (v := .i .i64 x1) q₁_4 rs_nil) ?_
    have hp := Option.some.inj hp; subst hp
    exact (And.intro rfl (hO₁.pick [] rfl (by decide)))

theorem p_slices_Contains_int.ok {h : Hp} {s : List Int} {v : Int} {v_s : V} (s_s : Sl eInt h v_s s) {r : Bool} (hp : p_slices_Contains_int s v = some r) :
    ∃ u k', Is G 118 [v_s, .i .i64 v] h u k' ∧ V.b r = u ∧ Own (fun r => r < h.n) h k' [] := by
  refine WC.is (WC_of G_F_slices_Contains_int ?_)
  unfold p_slices_Contains_int at hp
  let B : Nat → Prop := (fun r => r < h.n)
  have hO : Own B h h [] := Own.start0 h
  refine W_sq ?_
  refine W_rg ?_
  refine WO_v (a_mv (v := .b false) rfl) ?_
  refine WO_end ?_
  refine then_n ?_
  refine W_sq ?_
  refine W_rg ?_
  refine WO_v (a_mv (v := v_s) rfl) ?_
  refine WO_v (a_mv (v := .i .i64 v) rfl) ?_
  obtain ⟨x, hx₁, hp⟩ := bd_some hp
  obtain ⟨u₁, k₁, ca₁, rfl, hW₁⟩ := p_slices_Index_int.ok (h := h)  (hO.rd0 s_s.rd : Sl eInt h v_s s) hx₁
  refine WO_c (id := 136) (caps := []) rfl (mp_cons (v := v_s) rfl (mp_cons (v := .i .i64 v) rfl mp_nil)) ca₁ ?_
  have hO₁ : Own B h k₁ [] := hO.call hW₁ rfl
  refine WO_v (a_geq (a := x) (b := 0) rfl rfl) ?_
  refine WO_v (a_mv (v := .b (decide (0 ≤ x))) rfl) ?_
  refine WO_end ?_
  refine then_n ?_
  refine W_rt ?_
  refine Ret_r (rs_t (n := 4) (v := .b (decide (0 ≤ x))) rfl rs_nil) ?_
  have hp := Option.some.inj hp; subst hp
  exact (And.intro rfl (hO₁.pick [] rfl (by decide)))

end Mu
