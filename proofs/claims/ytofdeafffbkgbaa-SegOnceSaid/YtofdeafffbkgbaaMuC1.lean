/- The code comes to what was worked out. -/
import Derived.Test.YtofdeafffbkgbaaMuDf
import Derived.Test.YtofdeafffbkgbaaMuPa
import Derived.Test.YtofdeafffbkgbaaMuC0
set_option linter.unusedVariables false
set_option linter.unnecessarySimpa false
set_option linter.unusedSimpArgs false
set_option maxHeartbeats 2000000
set_option maxRecDepth 10000
namespace Mu
open Go (IntKind BinOp UnOp)
theorem p_slices_Repeat_int.ok {h : Hp} {x : List Int} {count : Int} {v_x : V} (s_x : Sl eInt h v_x x) {r : (List Int)} (hp : p_slices_Repeat_int x count = some r) :
    ∃ u k', Is G 83 [v_x, .i .i64 count] h u k' ∧ ∃ (v₁ : V), v₁ = u ∧ Own (fun r => r < h.n) h k' [eSl eInt v₁ r] := by
  refine WC.is (WC_of G_F_slices_Repeat_int ?_)
  unfold p_slices_Repeat_int at hp
  let B : Nat → Prop := (fun r => r < h.n)
  have hO : Own B h h [] := Own.start0 h
  refine W_sq ?_
  refine W_rg ?_
  refine WO_v (a_mv (v := .sn) rfl) ?_
  refine WO_end ?_
  refine then_n ?_
  refine W_sq ?_
  refine W_sq ?_
  refine W_rg ?_
  refine WO_v (a_mv (v := .i .i64 count) rfl) ?_
  refine WO_v (a_lss (a := count) (b := 0) rfl rfl) ?_
  refine WO_end ?_
  refine then_n ?_
  obtain ⟨o₁, ho₁, hp⟩ := bd_some hp
  refine W.mono (Q := fun e fr k => match (generalizing := false) o₁ with
      | _ => e = .normal ∧ fr 0 = v_x ∧ fr 1 = .i .i64 count ∧ Own B h k []) ?_ ?_
  · clear hp; have hp := ho₁; clear ho₁
    rcases if_some hp with ⟨b₁, hp⟩ | ⟨b₁, hp⟩
    · refine W_cT (t := (decide (count < 0))) rfl b₁ ?_
      exact nomatch hp
    · refine W_cF (t := (decide (count < 0))) rfl b₁ ?_
      refine W_sk ?_
      have hp := Option.some.inj hp; subst hp
      exact (And.intro rfl (And.intro (rfl) (And.intro (rfl) (hO.pick [] rfl (by decide)))))
  intro e₁ q₁ k₁ hJ₁
  obtain ⟨rfl, q₁_0, q₁_1, hO₁⟩ := hJ₁
  refine then_n ?_
  refine W_sq ?_
  refine W_rg ?_
  refine WO_v (a_mv (v := v_x) q₁_0) ?_
  refine WO_v (a_len (hO₁.rd0 s_x.rd : Sl eInt k₁ v_x x) rfl) ?_
  obtain ⟨c₁, hp⟩ := ck_some hp
  refine WO_v (a_conv (a := (x.length : Int)) rfl c₁) ?_
  refine WO_v (a_mv (v := .i .i64 count) q₁_1) ?_
  obtain ⟨c₂, hp⟩ := ck_some hp
  refine WO_v (a_conv (a := count) rfl c₂) ?_
  obtain ⟨⟨x1, x2⟩, hx₁, hp⟩ := bd_some hp
  obtain ⟨u₁, k₂, ca₁, rfl, hW₁⟩ := p_bits_Mul.ok (h := k₁)   hx₁
  refine WO_c (id := 89) (caps := []) rfl (mp_cons (v := .i .u64 (x.length : Int)) rfl (mp_cons (v := .i .u64 count) rfl mp_nil)) ca₁ ?_
  have hO₂ : Own B h k₂ [] := hO₁.call hW₁ rfl
  refine WO_v (a_mv (v := .tu [.i .u64 x1, .i .u64 x2]) rfl) ?_
  refine WO_v (a_ext (vs := [.i .u64 x1, .i .u64 x2]) (v := .i .u64 x1) rfl rfl) ?_
  refine WO_v (a_ext (vs := [.i .u64 x1, .i .u64 x2]) (v := .i .u64 x2) rfl rfl) ?_
  refine WO_v (a_mv (v := .i .u64 x1) rfl) ?_
  refine WO_v (a_mv (v := .i .u64 x2) rfl) ?_
  refine WO_end ?_
  refine then_n ?_
  refine W_sq ?_
  refine W_sq ?_
  refine W_rg ?_
  refine WO_v (a_mv (v := .i .u64 x1) rfl) ?_
  refine WO_v (a_gtr (a := x1) (b := 0) rfl rfl) ?_
  refine WO_v (a_mv (v := .b (decide (0 < x1))) rfl) ?_
  refine WO_cut 3 (fun fr' k' => k₂ = k' ∧ fr' 26 = .b ((decide (0 < x1)) || (decide (9223372036854775807 < x2))) ∧ fr' 0 = v_x ∧ fr' 6 = .i .u64 x2) ?_ ?_
  · rcases bc (decide (0 < x1)) with b₂ | b₂
    · skip
      refine WO_off rfl b₂ ?_
      refine WO_off rfl b₂ ?_
      refine WO_v (a_pickT (t := (decide (0 < x1))) (v := .b ((decide (0 < x1)) || (decide (9223372036854775807 < x2)))) rfl b₂ (Eq.trans (b := V.b true) rfl (or_off b₂))) ?_
      refine WO_end ?_
      exact ⟨rfl, rfl, q₁_0, rfl⟩
    · skip
      refine WO_on rfl b₂ ?_
      refine WO_v (a_mv (v := .i .u64 x2) rfl) ?_
      refine WO_on rfl b₂ ?_
      refine WO_v (a_gtr (a := x2) (b := 9223372036854775807) rfl rfl) ?_
      refine WO_v (a_pickF (t := (decide (0 < x1))) (v := .b ((decide (0 < x1)) || (decide (9223372036854775807 < x2)))) rfl b₂ (Eq.trans (b := V.b (decide (9223372036854775807 < x2))) rfl (or_on b₂))) ?_
      refine WO_end ?_
      exact ⟨rfl, rfl, q₁_0, rfl⟩
  rintro frg₁ _ ⟨rfl, g₁_26, g₁_0, g₁_6⟩
  refine WO_end ?_
  refine then_n ?_
  obtain ⟨o₂, ho₂, hp⟩ := bd_some hp
  refine W.mono (Q := fun e fr k => match (generalizing := false) o₂ with
      | _ => e = .normal ∧ fr 0 = v_x ∧ fr 6 = .i .u64 x2 ∧ Own B h k []) ?_ ?_
  · clear hp; have hp := ho₂; clear ho₂
    rcases if_some hp with ⟨b₃, hp⟩ | ⟨b₃, hp⟩
    · refine W_cT (t := ((decide (0 < x1)) || (decide (9223372036854775807 < x2)))) g₁_26 b₃ ?_
      exact nomatch hp
    · refine W_cF (t := ((decide (0 < x1)) || (decide (9223372036854775807 < x2)))) g₁_26 b₃ ?_
      refine W_sk ?_
      have hp := Option.some.inj hp; subst hp
      exact (And.intro rfl (And.intro (g₁_0) (And.intro (g₁_6) (hO₂.pick [] rfl (by decide)))))
  intro e₂ q₂ k₃ hJ₂
  obtain ⟨rfl, q₂_0, q₂_6, hO₃⟩ := hJ₂
  refine then_n ?_
  refine W_sq ?_
  refine W_rg ?_
  refine WO_v (a_mv (v := .i .u64 x2) q₂_6) ?_
  obtain ⟨c₃, hp⟩ := ck_some hp
  refine WO_v (a_conv (a := x2) rfl c₃) ?_
  obtain ⟨c₄, hp⟩ := ck_some hp
  refine WO_x (hO₃.mks (E := eInt) (y := (0 : Int)) (bytes := 8) (z := x2) hO₃.fr rfl rfl rfl c₄ (by decide)) ?_
  rintro v₂ k₄ ⟨r₁, f₁, hW⟩
  have hO₄ : Own B h k₄ [eSl eInt v₂ (List.replicate (x2 : Int).toNat (0 : Int))] := hW
  refine WO_v (a_mv (v := v₂) rfl) ?_
  refine WO_end ?_
  refine then_n ?_
  refine W_sq ?_
  refine W_rg ?_
  refine WO_v (a_mv (v := v₂) rfl) ?_
  refine WO_v (a_mv (v := v_x) q₂_0) ?_
  refine WO_x (hO₄.cpy (E := eInt) 0 rfl (hO₄.rd0 s_x.rd : Sl eInt k₄ v_x x) rfl rfl (fun _ => rfl)) ?_
  rintro _ k₅ ⟨rfl, f₂, hW⟩
  have hO₅ : Own B h k₅ [eSl eInt v₂ (x.take (List.replicate (x2 : Int).toNat (0 : Int)).length ++ (List.replicate (x2 : Int).toNat (0 : Int)).drop x.length)] := hW
  refine WO_v (a_mv (v := .i .i64 ((min x.length (List.replicate (x2 : Int).toNat (0 : Int)).length : Nat) : Int)) rfl) ?_
  refine WO_end ?_
  refine then_n ?_
  refine W_sq ?_
  refine W_bl ?_
  obtain ⟨o₃, ho₃, hp⟩ := bd_some hp
  refine W.mono (Q := fun e fr k => match (generalizing := false) o₃ with
      | newslice1 => e = (.exit 0) ∧ fr 7 = v₂ ∧ Own B h k [eSl eInt v₂ newslice1]) ?_ ?_
  · clear hp
    refine W_loopF (fun st fr k => match st with | (newslice, n) => fr 7 = v₂ ∧ fr 8 = .i .i64 n ∧ Own B h k [eSl eInt v₂ newslice]) ho₃ (s := (x.take (List.replicate (x2 : Int).toNat (0 : Int)).length ++ (List.replicate (x2 : Int).toNat (0 : Int)).drop x.length, ((min x.length (List.replicate (x2 : Int).toNat (0 : Int)).length : Nat) : Int))) (And.intro (rfl) (And.intro (rfl) (hO₅.pick [0] rfl (by decide)))) ?_
    rintro ⟨newslice, n⟩ q₄ k₇ ⟨q₄_7, q₄_8, hO₇⟩ o₄ hp
    dsimp only [p_slices_Repeat_int.s0] at hp
    refine W_sq ?_
    refine W_sq ?_
    refine W_rg ?_
    refine WO_v (a_mv (v := .i .i64 n) q₄_8) ?_
    refine WO_v (a_mv (v := v₂) q₄_7) ?_
    refine WO_v (a_len (hO₇.sl 0 rfl : Sl eInt k₇ v₂ newslice) rfl) ?_
    refine WO_v (a_lss (a := n) (b := (newslice.length : Int)) rfl rfl) ?_
    refine WO_end ?_
    refine then_n ?_
    rcases if_some hp with ⟨b₄, hp⟩ | ⟨b₄, hp⟩
    · refine W_cT (t := (decide (n < (newslice.length : Int)))) rfl b₄ ?_
      refine W_sk ?_
      refine then_n ?_
      refine W_bl ?_
      refine W_dr ?_
      have hW := hO₇.bump 10
      have fr₁ := Fresh.start k₇ 10
      have nb₁ : ∀ {i : Nat}, h.n ≤ k₇.n + i := Nat.le_trans hO₇.n (Nat.le_add_right _ _)
      have hO₈ : Own B h (k₇.bump 10) [eSl eInt v₂ newslice] := hW
      refine WD_v (a_mv (v := .i .i64 n) q₄_8) ?_
      refine WD_v (a_mv (v := v₂) q₄_7) ?_
      refine WD_v (a_mv (v := .i .i64 n) q₄_8) ?_
      obtain ⟨c₅, hp⟩ := ck_some hp
      refine WD_v (a_slcF (E := eInt) (z := n) (hO₈.sl 0 rfl : Sl eInt (k₇.bump 10) v₂ newslice) rfl rfl c₅) ?_
      refine WD_v (a_mv (v := v₂) q₄_7) ?_
      refine WD_v (a_mv (v := .i .i64 n) q₄_8) ?_
      refine WD_v (a_slcU (E := eInt) (z := n) (hO₈.sl 0 rfl : Sl eInt (k₇.bump 10) v₂ newslice) rfl rfl c₅) ?_
      refine WD_x (hO₈.cpyF (E := eInt) (z := n) 0 rfl c₅ (Sl.cutU (hO₈.sl 0 rfl : Sl eInt (k₇.bump 10) v₂ newslice) c₅ : Sl eInt (k₇.bump 10) (V.cut v₂ 0 (n : Int).toNat) (newslice.take (n : Int).toNat)) rfl rfl (fun _ => rfl)) ?_
      rintro _ k₉ z₁ ⟨rfl, f₃, hW⟩
      have fr₂ := fr₁.kept f₃ (by decide)
      have hO₉ : Own B h k₉ [eSl eInt v₂ (newslice.take (n : Int).toNat ++ ((newslice.take (n : Int).toNat).take (newslice.drop (n : Int).toNat).length ++ (newslice.drop (n : Int).toNat).drop (newslice.take (n : Int).toNat).length))] := hW
      obtain ⟨c₆, hp⟩ := ck_some hp
      refine WD_v (a_add (a := n) (b := ((min (newslice.take (n : Int).toNat).length (newslice.drop (n : Int).toNat).length : Nat) : Int)) rfl rfl c₆) ?_
      refine WD_v (a_mv (v := .i .i64 (n + ((min (newslice.take (n : Int).toNat).length (newslice.drop (n : Int).toNat).length : Nat) : Int))) rfl) ?_
      refine WD_end ?_
      refine And.intro ?_ ?_
      · intro q hq
        cases hq
      refine blk_n ?_
      have hp := Option.some.inj hp; subst hp
      exact (Or.inl (Exists.intro (newslice.take (n : Int).toNat ++ ((newslice.take (n : Int).toNat).take (newslice.drop (n : Int).toNat).length ++ (newslice.drop (n : Int).toNat).drop (newslice.take (n : Int).toNat).length), n + ((min (newslice.take (n : Int).toNat).length (newslice.drop (n : Int).toNat).length : Nat) : Int)) (And.intro rfl (And.intro rfl (And.intro (q₄_7) (And.intro (rfl) (hO₉.pick [0] rfl (by decide))))))))
    · refine W_cF (t := (decide (n < (newslice.length : Int)))) rfl b₄ ?_
      refine W_ex ?_
      refine then_e ?_
      have hp := Option.some.inj hp; subst hp
      refine (Or.inr (Exists.intro newslice (And.intro rfl (And.intro (fun h => nomatch h) (fun he => ?_)))))
      subst he; exact (And.intro rfl (And.intro (q₄_7) (hO₇.pick [0] rfl (by decide))))
  intro e₃ q₃ k₆ hJ₃
  obtain ⟨newslice1, rfl⟩ : ∃ x, x = o₃ := ⟨_, rfl⟩
  obtain ⟨rfl, q₃_7, hO₆⟩ := hJ₃
  refine blk_i ?_
  refine then_n ?_
  refine W_sq ?_
  refine W_rg ?_
  refine WO_v (a_mv (v := v₂) q₃_7) ?_
  refine WO_v (a_mv (v := v₂) rfl) ?_
  refine WO_end ?_
  refine then_n ?_
  refine W_rt ?_
  refine Ret_r (rs_t (n := 4) (v := v₂) rfl rs_nil) ?_
  have hp := Option.some.inj hp; subst hp
  exact (Exists.intro v₂ (And.intro rfl (hO₆.pick [0] rfl (by decide))))

theorem p_seg_chains.ok {h : Hp} {cells : List T_api_Cell} {d : Int} {v_cells : V} (s_cells : Sl e_T_api_Cell h v_cells cells) {r : (List Int) × (List (List Int)) × Bool} (hp : p_seg_chains cells d = some r) :
    ∃ u k', Is G 137 [v_cells, .i .i64 d] h u k' ∧ ∃ (v₁ : V), ∃ (v₂ : V), ∃ (vs₁ : List V), V.tu [v₁, v₂, .b r.2.2] = u ∧ Own (fun r => r < h.n) h k' [eSl eInt v₁ r.1, eSl eV v₂ vs₁, eAll eInt vs₁ r.2.1] := by
  refine WC.is (WC_of G_F_seg_chains ?_)
  unfold p_seg_chains at hp
  let B : Nat → Prop := (fun r => r < h.n)
  have hO : Own B h h [] := Own.start0 h
  refine W_sq ?_
  refine W_rg ?_
  refine WO_v (a_mv (v := .sn) rfl) ?_
  refine WO_v (a_mv (v := .sn) rfl) ?_
  refine WO_v (a_mv (v := .b false) rfl) ?_
  refine WO_end ?_
  refine then_n ?_
  refine W_sq ?_
  refine W_rg ?_
  refine WO_x (hO.bsl (E := eInt) (l := ([(-1)] : List Int)) hO.fr (by rw [(ev_cons (v := .i .i64 (-1)) rfl ev_nil)]; rfl) rfl) ?_
  rintro v₃ k₁ ⟨r₁, f₁, hW⟩
  have hO₁ : Own B h k₁ [eSl eInt v₃ ([(-1)] : List Int)] := hW
  refine WO_v (a_mv (v := v_cells) rfl) ?_
  refine WO_v (a_len (hO₁.rd0 s_cells.rd : Sl e_T_api_Cell k₁ v_cells cells) rfl) ?_
  obtain ⟨x, hx₁, hp⟩ := bd_some hp
  obtain ⟨u₁, k₂, ca₁, v₄, rfl, hW₁⟩ := p_slices_Repeat_int.ok (h := k₁)  (hO₁.sl 0 rfl : Sl eInt k₁ v₃ ([(-1)] : List Int)) hx₁
  refine WO_c (id := 83) (caps := []) rfl (mp_cons (v := v₃) rfl (mp_cons (v := .i .i64 (cells.length : Int)) rfl mp_nil)) ca₁ ?_
  have hO₂ : Own B h k₂ [eSl eInt v₃ ([(-1)] : List Int), eSl eInt v₄ x] := hO₁.call hW₁ rfl
  refine WO_v (a_mv (v := v₄) rfl) ?_
  refine WO_end ?_
  refine then_n ?_
  refine W_sq ?_
  refine W_rg ?_
  refine WO_v (a_mv (v := .i .i64 d) rfl) ?_
  obtain ⟨x1, hx₂, hp⟩ := bd_some hp
  obtain ⟨u₂, k₃, ca₂, rfl, hW₂⟩ := p_compass_Left.ok (h := k₂)   hx₂
  refine WO_c (id := 77) (caps := []) rfl (mp_cons (v := .i .i64 d) rfl (mp_cons (v := .i .i64 2) rfl mp_nil)) ca₂ ?_
  have hO₃ : Own B h k₃ [eSl eInt v₃ ([(-1)] : List Int), eSl eInt v₄ x] := hO₂.call hW₂ rfl
  refine WO_v (a_mv (v := .i .i64 x1) rfl) ?_
  refine WO_end ?_
  refine then_n ?_
  refine W_sq ?_
  refine W_rg ?_
  refine WO_v (a_mv (v := .sn) rfl) ?_
  refine WO_end ?_
  refine then_n ?_
  refine W_sq ?_
  refine W_sq ?_
  refine W_rg ?_
  refine WO_v (a_mv (v := v_cells) rfl) ?_
  refine WO_v (a_len (hO₃.rd0 s_cells.rd : Sl e_T_api_Cell k₃ v_cells cells) rfl) ?_
  refine WO_v (a_mv (v := .i .i64 0) rfl) ?_
  refine WO_end ?_
  refine then_n ?_
  refine W_bl ?_
  obtain ⟨o₁, ho₁, hp⟩ := bd_some hp
  refine W.mono (Q := fun e fr k => match (generalizing := false) o₁ with
      | .inl (at_1, l1) => e = (.exit 0) ∧ ∃ (v₆ : V), ∃ (vs₃ : List V), fr 7 = v₄ ∧ fr 9 = v₆ ∧ Own B h k [eSl eInt v₄ at_1, eSl eV v₆ vs₃, eAll eInt vs₃ l1]
      | .inr _ => e = .ret ∧ fr 4 = .sn ∧ fr 5 = .sn ∧ fr 6 = .b false ∧ Own B h k []) ?_ ?_
  · clear hp
    have hO₅ : Own B h k₃ [eSl eInt v₃ ([(-1)] : List Int), eSl eInt v₄ x, eSl eV .sn []] := hO₃.nil eV
    have hO₆ : Own B h k₃ [eSl eInt v₃ ([(-1)] : List Int), eSl eInt v₄ x, eSl eV .sn [], eAll eInt [] []] := hO₅.allNil eInt 0
    refine W_loopF (fun st fr k => match st with | (at_, l, x2) => ∃ (v₅ : V), ∃ (vs₂ : List V), fr 0 = v_cells ∧ fr 1 = .i .i64 d ∧ fr 7 = v₄ ∧ fr 8 = .i .i64 x1 ∧ fr 9 = v₅ ∧ fr 22 = .i .i64 (cells.length : Int) ∧ fr 23 = .i .i64 x2 ∧ Own B h k [eSl eInt v₄ at_, eSl eV v₅ vs₂, eAll eInt vs₂ l]) ho₁ (s := (x, ([] : List (List Int)), 0)) (Exists.intro V.sn (Exists.intro [] (And.intro (rfl) (And.intro (rfl) (And.intro (rfl) (And.intro (rfl) (And.intro (rfl) (And.intro (rfl) (And.intro (rfl) (hO₆.pick [1, 2, 3] rfl (by decide))))))))))) ?_
    rintro ⟨at_, l, x2⟩ q₂ k₅ ⟨v₅, vs₂, q₂_0, q₂_1, q₂_7, q₂_8, q₂_9, q₂_22, q₂_23, hO₇⟩ o₂ hp
    dsimp only [p_seg_chains.s0] at hp
    refine W_sq ?_
    refine W_rg ?_
    refine WO_v (a_lss (a := x2) (b := (cells.length : Int)) q₂_23 q₂_22) ?_
    refine WO_end ?_
    refine then_n ?_
    refine W_sq ?_
    rcases if_some hp with ⟨b₁, hp⟩ | ⟨b₁, hp⟩
    · refine W_cT (t := (decide (x2 < (cells.length : Int)))) rfl b₁ ?_
      refine W_sk ?_
      refine then_n ?_
      refine W_sq ?_
      refine W_bl ?_
      refine W_sq ?_
      refine W_rg ?_
      refine WO_v (a_mv (v := .i .i64 x2) q₂_23) ?_
      refine WO_v (a_mv (v := .i .i64 x2) rfl) ?_
      refine WO_end ?_
      refine then_n ?_
      refine W_sq ?_
      refine W_sq ?_
      refine W_rg ?_
      refine WO_v (a_mv (v := v₄) q₂_7) ?_
      refine WO_v (a_mv (v := .i .i64 x2) rfl) ?_
      obtain ⟨c₁, hp⟩ := ck_some hp
      refine WO_v (a_ixa (E := eInt) (z := x2) (hO₇.sl 0 rfl : Sl eInt k₅ v₄ at_) rfl rfl c₁) ?_
      refine WO_v (a_ldE (w := .i .i64 (gi at_ (x2 : Int).toNat)) (hO₇.sl 0 rfl : Sl eInt k₅ v₄ at_) rfl (toNat_lt c₁) rfl) ?_
      refine WO_v (a_geq (a := (gi at_ (x2 : Int).toNat)) (b := 0) rfl rfl) ?_
      refine WO_end ?_
      refine then_n ?_
      rcases if_some hp with ⟨b₂, hp⟩ | ⟨b₂, hp⟩
      · refine W_cT (t := (decide (0 ≤ (gi at_ (x2 : Int).toNat)))) rfl b₂ ?_
        refine W_ex ?_
        refine then_e ?_
        refine blk_i ?_
        refine then_n ?_
        refine W_rg ?_
        obtain ⟨c₂, hp⟩ := ck_some hp
        refine WO_v (a_add (a := x2) (b := 1) q₂_23 rfl c₂) ?_
        refine WO_v (a_mv (v := .i .i64 (x2 + 1)) rfl) ?_
        refine WO_end ?_
        have hp := Option.some.inj hp; subst hp
        exact (Or.inl (Exists.intro (at_, l, x2 + 1) (And.intro rfl (And.intro rfl (Exists.intro v₅ (Exists.intro vs₂ (And.intro (q₂_0) (And.intro (q₂_1) (And.intro (q₂_7) (And.intro (q₂_8) (And.intro (q₂_9) (And.intro (q₂_22) (And.intro (rfl) (hO₇.pick [0, 1, 2] rfl (by decide)))))))))))))))
      · refine W_cF (t := (decide (0 ≤ (gi at_ (x2 : Int).toNat)))) rfl b₂ ?_
        refine W_sk ?_
        refine then_n ?_
        refine W_sq ?_
        refine W_rg ?_
        refine WO_v (a_mv (v := .i .i64 x2) rfl) ?_
        refine WO_v (a_mv (v := .i .i64 x2) rfl) ?_
        refine WO_end ?_
        refine then_n ?_
        refine W_sq ?_
        refine W_sq ?_
        refine W_rg ?_
        refine WO_v (a_mv (v := .i .i64 0) rfl) ?_
        refine WO_end ?_
        refine then_n ?_
        refine W_bl ?_
        obtain ⟨o₃, ho₂, hp⟩ := bd_some hp
        refine W.mono (Q := fun e fr k => match (generalizing := false) o₃ with
            | .inl first1 => e = (.exit 2) ∧ fr 0 = v_cells ∧ fr 1 = .i .i64 d ∧ fr 7 = v₄ ∧ fr 8 = .i .i64 x1 ∧ fr 9 = v₅ ∧ fr 11 = .i .i64 first1 ∧ fr 22 = .i .i64 (cells.length : Int) ∧ fr 23 = .i .i64 x2 ∧ Own B h k [eSl eInt v₄ at_, eSl eV v₅ vs₂, eAll eInt vs₂ l]
            | .inr _ => e = .ret ∧ fr 4 = .sn ∧ fr 5 = .sn ∧ fr 6 = .b false ∧ Own B h k []) ?_ ?_
        · clear hp
          refine W_loopF (fun st fr k => match st with | (first, n) => fr 0 = v_cells ∧ fr 1 = .i .i64 d ∧ fr 7 = v₄ ∧ fr 8 = .i .i64 x1 ∧ fr 9 = v₅ ∧ fr 11 = .i .i64 first ∧ fr 12 = .i .i64 n ∧ fr 22 = .i .i64 (cells.length : Int) ∧ fr 23 = .i .i64 x2 ∧ Own B h k [eSl eInt v₄ at_, eSl eV v₅ vs₂, eAll eInt vs₂ l]) ho₂ (s := (x2, 0)) (And.intro (q₂_0) (And.intro (q₂_1) (And.intro (q₂_7) (And.intro (q₂_8) (And.intro (q₂_9) (And.intro (rfl) (And.intro (rfl) (And.intro (q₂_22) (And.intro (q₂_23) (hO₇.pick [0, 1, 2] rfl (by decide))))))))))) ?_
          rintro ⟨first, n⟩ q₄ k₇ ⟨q₄_0, q₄_1, q₄_7, q₄_8, q₄_9, q₄_11, q₄_12, q₄_22, q₄_23, hO₉⟩ o₄ hp
          dsimp only [p_seg_chains.s1] at hp
          refine W_sq ?_
          refine W_sq ?_
          refine W_rg ?_
          refine WO_v (a_mv (v := v_cells) q₄_0) ?_
          refine WO_v (a_mv (v := .i .i64 first) q₄_11) ?_
          refine WO_v (a_mv (v := .i .i64 x1) q₄_8) ?_
          obtain ⟨c₃, hp⟩ := ck_some hp
          refine WO_v (a_ixa (E := e_T_api_Cell) (z := first) (hO₉.rd0 s_cells.rd : Sl e_T_api_Cell k₇ v_cells cells) rfl rfl c₃) ?_
          refine WO_v (a_faE (off' := 0) (off2 := 0) (hO₉.rd0 s_cells.rd : Sl e_T_api_Cell k₇ v_cells cells) (toNat_lt c₃) rfl rfl) ?_
          obtain ⟨c₄, hp⟩ := ck_some hp
          refine WO_v (a_ixaaE (off := 0) (off2 := (0 + (x1 : Int).toNat * 1)) (z := x1) (hO₉.rd0 s_cells.rd : Sl e_T_api_Cell k₇ v_cells cells) (toNat_lt c₃) rfl rfl c₄ rfl) ?_
          refine WO_v (a_ldE (w := .i .i64 (((gi cells (first : Int).toNat).Next).get x1)) (hO₉.rd0 s_cells.rd : Sl e_T_api_Cell k₇ v_cells cells) rfl (toNat_lt c₃) (ld_T_api_Cell_Next c₄)) ?_
          refine WO_v (a_geq (a := (((gi cells (first : Int).toNat).Next).get x1)) (b := 0) rfl rfl) ?_
          refine WO_end ?_
          refine then_n ?_
          rcases if_some hp with ⟨b₃, hp⟩ | ⟨b₃, hp⟩
          · refine W_cT (t := (decide (0 ≤ (((gi cells (first : Int).toNat).Next).get x1)))) rfl b₃ ?_
            refine W_sk ?_
            refine then_n ?_
            refine W_sq ?_
            refine W_bl ?_
            refine W_sq ?_
            refine W_sq ?_
            refine W_rg ?_
            refine WO_v (a_mv (v := .i .i64 n) q₄_12) ?_
            refine WO_v (a_mv (v := v_cells) q₄_0) ?_
            refine WO_v (a_len (hO₉.rd0 s_cells.rd : Sl e_T_api_Cell k₇ v_cells cells) rfl) ?_
            refine WO_v (a_eqI (a := n) (b := (cells.length : Int)) rfl rfl) ?_
            refine WO_end ?_
            refine then_n ?_
            rcases if_some hp with ⟨b₄, hp⟩ | ⟨b₄, hp⟩
            · refine W_cT (t := (decide (n = (cells.length : Int)))) rfl b₄ ?_
              refine W_sq ?_
              refine W_rg ?_
              refine WO_v (a_mv (v := .sn) rfl) ?_
              refine WO_v (a_mv (v := .sn) rfl) ?_
              refine WO_v (a_mv (v := .b false) rfl) ?_
              refine WO_end ?_
              refine then_n ?_
              refine W_rt ?_
              refine then_r ?_
              refine blk_r ?_
              refine then_r ?_
              have hp := Option.some.inj hp; subst hp
              refine (Or.inr (Exists.intro (.inr ()) (And.intro rfl (And.intro (fun h => nomatch h) (fun he => ?_)))))
              subst he; exact (And.intro rfl (And.intro (rfl) (And.intro (rfl) (And.intro (rfl) (hO₉.pick [] rfl (by decide))))))
            · refine W_cF (t := (decide (n = (cells.length : Int)))) rfl b₄ ?_
              refine W_sk ?_
              refine then_n ?_
              refine W_rg ?_
              refine WO_v (a_mv (v := v_cells) q₄_0) ?_
              refine WO_v (a_mv (v := .i .i64 first) q₄_11) ?_
              refine WO_v (a_mv (v := .i .i64 x1) q₄_8) ?_
              refine WO_v (a_ixa (E := e_T_api_Cell) (z := first) (hO₉.rd0 s_cells.rd : Sl e_T_api_Cell k₇ v_cells cells) rfl rfl c₃) ?_
              refine WO_v (a_faE (off' := 0) (off2 := 0) (hO₉.rd0 s_cells.rd : Sl e_T_api_Cell k₇ v_cells cells) (toNat_lt c₃) rfl rfl) ?_
              refine WO_v (a_ixaaE (off := 0) (off2 := (0 + (x1 : Int).toNat * 1)) (z := x1) (hO₉.rd0 s_cells.rd : Sl e_T_api_Cell k₇ v_cells cells) (toNat_lt c₃) rfl rfl c₄ rfl) ?_
              refine WO_v (a_ldE (w := .i .i64 (((gi cells (first : Int).toNat).Next).get x1)) (hO₉.rd0 s_cells.rd : Sl e_T_api_Cell k₇ v_cells cells) rfl (toNat_lt c₃) (ld_T_api_Cell_Next c₄)) ?_
              refine WO_v (a_mv (v := .i .i64 (((gi cells (first : Int).toNat).Next).get x1)) rfl) ?_
              refine WO_end ?_
              refine blk_n ?_
              refine then_n ?_
              refine W_rg ?_
              refine WO_v (a_mv (v := .i .i64 n) q₄_12) ?_
              obtain ⟨c₅, hp⟩ := ck_some hp
              refine WO_v (a_add (a := n) (b := 1) rfl rfl c₅) ?_
              refine WO_v (a_mv (v := .i .i64 (n + 1)) rfl) ?_
              refine WO_end ?_
              have hp := Option.some.inj hp; subst hp
              exact (Or.inl (Exists.intro (((gi cells (first : Int).toNat).Next).get x1, n + 1) (And.intro rfl (And.intro rfl (And.intro (q₄_0) (And.intro (q₄_1) (And.intro (q₄_7) (And.intro (q₄_8) (And.intro (q₄_9) (And.intro (rfl) (And.intro (rfl) (And.intro (q₄_22) (And.intro (q₄_23) (hO₉.pick [0, 1, 2] rfl (by decide)))))))))))))))
          · refine W_cF (t := (decide (0 ≤ (((gi cells (first : Int).toNat).Next).get x1)))) rfl b₃ ?_
            refine W_ex ?_
            refine then_e ?_
            have hp := Option.some.inj hp; subst hp
            refine (Or.inr (Exists.intro (.inl first) (And.intro rfl (And.intro (fun h => nomatch h) (fun he => ?_)))))
            subst he; exact (And.intro rfl (And.intro (q₄_0) (And.intro (q₄_1) (And.intro (q₄_7) (And.intro (q₄_8) (And.intro (q₄_9) (And.intro (q₄_11) (And.intro (q₄_22) (And.intro (q₄_23) (hO₉.pick [0, 1, 2] rfl (by decide)))))))))))
        intro e₂ q₃ k₆ hJ₂
        rcases o₃ with first1 | _
        · obtain ⟨rfl, q₃_0, q₃_1, q₃_7, q₃_8, q₃_9, q₃_11, q₃_22, q₃_23, hO₈⟩ := hJ₂
          refine blk_i ?_
          refine then_n ?_
          refine W_sq ?_
          refine W_rg ?_
          refine WO_v (a_mv (v := .sn) rfl) ?_
          refine WO_end ?_
          refine then_n ?_
          refine W_sq ?_
          refine W_sq ?_
          refine W_rg ?_
          refine WO_v (a_mv (v := .i .i64 first1) q₃_11) ?_
          refine WO_v (a_mv (v := .i .i64 first1) rfl) ?_
          refine WO_end ?_
          refine then_n ?_
          refine W_bl ?_
          obtain ⟨o₅, ho₃, hp⟩ := bd_some hp
          refine W.mono (Q := fun e fr k => match (generalizing := false) o₅ with
              | (at_3, chain1) => e = (.exit 4) ∧ ∃ (v₈ : V), fr 0 = v_cells ∧ fr 1 = .i .i64 d ∧ fr 7 = v₄ ∧ fr 8 = .i .i64 x1 ∧ fr 9 = v₅ ∧ fr 13 = v₈ ∧ fr 22 = .i .i64 (cells.length : Int) ∧ fr 23 = .i .i64 x2 ∧ Own B h k [eSl eInt v₄ at_3, eSl eV v₅ vs₂, eAll eInt vs₂ l, eSl eInt v₈ chain1]) ?_ ?_
          · clear hp
            have hO₁₁ : Own B h k₆ [eSl eInt v₄ at_, eSl eV v₅ vs₂, eAll eInt vs₂ l, eSl eInt .sn ([] : List Int)] := hO₈.nil eInt
            refine W_loopF (fun st fr k => match st with | (at_2, chain, w) => ∃ (v₇ : V), fr 0 = v_cells ∧ fr 1 = .i .i64 d ∧ fr 7 = v₄ ∧ fr 8 = .i .i64 x1 ∧ fr 9 = v₅ ∧ fr 13 = v₇ ∧ fr 14 = .i .i64 w ∧ fr 22 = .i .i64 (cells.length : Int) ∧ fr 23 = .i .i64 x2 ∧ Own B h k [eSl eInt v₄ at_2, eSl eV v₅ vs₂, eAll eInt vs₂ l, eSl eInt v₇ chain]) ho₃ (s := (at_, ([] : List Int), first1)) (Exists.intro V.sn (And.intro (q₃_0) (And.intro (q₃_1) (And.intro (q₃_7) (And.intro (q₃_8) (And.intro (q₃_9) (And.intro (rfl) (And.intro (rfl) (And.intro (q₃_22) (And.intro (q₃_23) (hO₁₁.pick [0, 1, 2, 3] rfl (by decide)))))))))))) ?_
            rintro ⟨at_2, chain, w⟩ q₆ k₉ ⟨v₇, q₆_0, q₆_1, q₆_7, q₆_8, q₆_9, q₆_13, q₆_14, q₆_22, q₆_23, hO₁₂⟩ o₆ hp
            dsimp only [p_seg_chains.s2] at hp
            refine W_sq ?_
            refine W_sq ?_
            refine W_rg ?_
            refine WO_v (a_mv (v := .i .i64 w) q₆_14) ?_
            refine WO_v (a_geq (a := w) (b := 0) rfl rfl) ?_
            refine WO_end ?_
            refine then_n ?_
            rcases if_some hp with ⟨b₅, hp⟩ | ⟨b₅, hp⟩
            · refine W_cT (t := (decide (0 ≤ w))) rfl b₅ ?_
              refine W_sk ?_
              refine then_n ?_
              refine W_sq ?_
              refine W_bl ?_
              refine W_sq ?_
              refine W_rg ?_
              refine WO_v (a_mv (v := v₄) q₆_7) ?_
              refine WO_v (a_mv (v := .i .i64 w) q₆_14) ?_
              refine WO_v (a_mv (v := v₅) q₆_9) ?_
              refine WO_v (a_lenN (n := (l).length) (hO₁₂.sl 1 rfl : Sl eV k₉ v₅ vs₂) (hO₁₂.allLen 2 rfl : (vs₂).length = (l).length) rfl) ?_
              obtain ⟨c₆, hp⟩ := ck_some hp
              refine WO_v (a_ixa (E := eInt) (z := w) (hO₁₂.sl 0 rfl : Sl eInt k₉ v₄ at_2) rfl rfl c₆) ?_
              refine WO_x (hO₁₂.ste (E := eInt) (y := (l.length : Int)) (ws := [.i .i64 (l.length : Int)]) 0 rfl rfl (toNat_lt c₆) rfl rfl ⟨rfl, Nat.le_of_ble_eq_true rfl, rfl⟩ rfl) ?_
              rintro _ k₁₀ ⟨rfl, f₂, m₁, hW⟩
              have hO₁₃ : Own B h k₁₀ [eSl eInt v₄ (at_2.set (w : Int).toNat (l.length : Int)), eSl eV v₅ vs₂, eAll eInt vs₂ l, eSl eInt v₇ chain] := hW
              refine WO_end ?_
              refine then_n ?_
              refine W_rg ?_
              refine WO_v (a_mv (v := v₇) q₆_13) ?_
              refine WO_v (a_mv (v := .i .i64 w) q₆_14) ?_
              refine WO_x (hO₁₃.bsl (E := eInt) (l := [w]) hO₁₃.fr (by rw [(ev_cons (v := .i .i64 w) rfl ev_nil)]; rfl) rfl) ?_
              rintro v₉ k₁₁ ⟨r₂, f₃, hW⟩
              have hO₁₄ : Own B h k₁₁ [eSl eInt v₄ (at_2.set (w : Int).toNat (l.length : Int)), eSl eV v₅ vs₂, eAll eInt vs₂ l, eSl eInt v₇ chain, eSl eInt v₉ [w]] := hW
              obtain ⟨c₇, hp⟩ := ck_some hp
              refine WO_x (hO₁₄.app (E := eInt) (bytes := 8) 3 hO₁₄.fr rfl (hO₁₄.sl 4 rfl : Sl eInt k₁₁ v₉ [w]) rfl rfl (fun _ => rfl) c₇ (by decide)) ?_
              rintro v₁₀ k₁₂ ⟨f₄, hW⟩
              have hO₁₅ : Own B h k₁₂ [eSl eInt v₄ (at_2.set (w : Int).toNat (l.length : Int)), eSl eV v₅ vs₂, eAll eInt vs₂ l, eSl eInt v₁₀ (chain ++ [w]), eSl eInt v₉ [w]] := hW
              refine WO_v (a_mv (v := v₁₀) rfl) ?_
              refine WO_end ?_
              refine blk_n ?_
              refine then_n ?_
              refine W_rg ?_
              refine WO_v (a_mv (v := v_cells) q₆_0) ?_
              refine WO_v (a_mv (v := .i .i64 w) q₆_14) ?_
              refine WO_v (a_mv (v := .i .i64 d) q₆_1) ?_
              obtain ⟨c₈, hp⟩ := ck_some hp
              refine WO_v (a_ixa (E := e_T_api_Cell) (z := w) (hO₁₅.rd0 s_cells.rd : Sl e_T_api_Cell k₁₂ v_cells cells) rfl rfl c₈) ?_
              refine WO_v (a_faE (off' := 0) (off2 := 0) (hO₁₅.rd0 s_cells.rd : Sl e_T_api_Cell k₁₂ v_cells cells) (toNat_lt c₈) rfl rfl) ?_
              obtain ⟨c₉, hp⟩ := ck_some hp
              refine WO_v (a_ixaaE (off := 0) (off2 := (0 + (d : Int).toNat * 1)) (z := d) (hO₁₅.rd0 s_cells.rd : Sl e_T_api_Cell k₁₂ v_cells cells) (toNat_lt c₈) rfl rfl c₉ rfl) ?_
              refine WO_v (a_ldE (w := .i .i64 (((gi cells (w : Int).toNat).Next).get d)) (hO₁₅.rd0 s_cells.rd : Sl e_T_api_Cell k₁₂ v_cells cells) rfl (toNat_lt c₈) (ld_T_api_Cell_Next c₉)) ?_
              refine WO_v (a_mv (v := .i .i64 (((gi cells (w : Int).toNat).Next).get d)) rfl) ?_
              refine WO_end ?_
              have hp := Option.some.inj hp; subst hp
              exact (Or.inl (Exists.intro (at_2.set (w : Int).toNat (l.length : Int), chain ++ [w], ((gi cells (w : Int).toNat).Next).get d) (And.intro rfl (And.intro rfl (Exists.intro v₁₀ (And.intro (q₆_0) (And.intro (q₆_1) (And.intro (q₆_7) (And.intro (q₆_8) (And.intro (q₆_9) (And.intro (rfl) (And.intro (rfl) (And.intro (q₆_22) (And.intro (q₆_23) (hO₁₅.pick [0, 1, 2, 3] rfl (by decide))))))))))))))))
            · refine W_cF (t := (decide (0 ≤ w))) rfl b₅ ?_
              refine W_ex ?_
              refine then_e ?_
              have hp := Option.some.inj hp; subst hp
              refine (Or.inr (Exists.intro (at_2, chain) (And.intro rfl (And.intro (fun h => nomatch h) (fun he => ?_)))))
              subst he; exact (And.intro rfl (Exists.intro v₇ (And.intro (q₆_0) (And.intro (q₆_1) (And.intro (q₆_7) (And.intro (q₆_8) (And.intro (q₆_9) (And.intro (q₆_13) (And.intro (q₆_22) (And.intro (q₆_23) (hO₁₂.pick [0, 1, 2, 3] rfl (by decide))))))))))))
          intro e₃ q₅ k₈ hJ₃
          obtain ⟨at_3, chain1⟩ := o₅
          obtain ⟨rfl, v₈, q₅_0, q₅_1, q₅_7, q₅_8, q₅_9, q₅_13, q₅_22, q₅_23, hO₁₀⟩ := hJ₃
          refine blk_i ?_
          refine then_n ?_
          refine W_rg ?_
          refine WO_v (a_mv (v := v₅) q₅_9) ?_
          refine WO_v (a_mv (v := v₈) q₅_13) ?_
          refine WO_x (hO₁₀.bsl (E := eV) (l := [v₈]) hO₁₀.fr (by rw [(ev_cons (v := v₈) rfl ev_nil)]; simp [fill, over, (hO₁₀.sl 3 rfl : Sl eInt k₈ v₈ chain1).cells]) rfl) ?_
          rintro v₁₁ k₁₃ ⟨r₃, f₅, hW⟩
          have hO₁₆ : Own B h k₁₃ [eSl eInt v₄ at_3, eSl eV v₅ vs₂, eAll eInt vs₂ l, eSl eInt v₈ chain1, eSl eV v₁₁ [v₈]] := hW
          obtain ⟨c₁₀, hp⟩ := ck_some hp
          refine WO_x (hO₁₆.appV (bytes := 24) 1 hO₁₆.fr rfl (hO₁₆.sl 4 rfl : Sl eV k₁₃ v₁₁ [v₈]) rfl rfl (by simp only [List.all_cons, List.all_nil, Bool.and_true]; exact (hO₁₆.sl 3 rfl : Sl eInt k₁₃ v₈ chain1).oneV) (by rw [(hO₁₆.allLen 2 rfl : (vs₂).length = (l).length)]; exact c₁₀) (by decide)) ?_
          rintro v₁₂ k₁₄ ⟨f₆, hW⟩
          have hO₁₇ : Own B h k₁₄ [eSl eInt v₄ at_3, eSl eV v₁₂ (vs₂ ++ [v₈]), eAll eInt vs₂ l, eSl eInt v₈ chain1, eSl eV v₁₁ [v₈]] := hW
          have hO₁₈ : Own B h k₁₄ [eSl eInt v₄ at_3, eSl eV v₁₂ (vs₂ ++ [v₈]), eAll eInt (vs₂ ++ [v₈]) (l ++ [chain1]), eNone, eSl eV v₁₁ [v₈]] := hO₁₇.absorb 2 3 rfl rfl (by decide)
          refine WO_v (a_mv (v := v₁₂) rfl) ?_
          refine WO_end ?_
          refine blk_n ?_
          refine then_n ?_
          refine W_rg ?_
          obtain ⟨c₁₁, hp⟩ := ck_some hp
          refine WO_v (a_add (a := x2) (b := 1) q₅_23 rfl c₁₁) ?_
          refine WO_v (a_mv (v := .i .i64 (x2 + 1)) rfl) ?_
          refine WO_end ?_
          have hp := Option.some.inj hp; subst hp
          exact (Or.inl (Exists.intro (at_3, l ++ [chain1], x2 + 1) (And.intro rfl (And.intro rfl (Exists.intro v₁₂ (Exists.intro (vs₂ ++ [v₈]) (And.intro (q₅_0) (And.intro (q₅_1) (And.intro (q₅_7) (And.intro (q₅_8) (And.intro (rfl) (And.intro (q₅_22) (And.intro (rfl) (hO₁₈.pick [0, 1, 2] rfl (by decide)))))))))))))))
        · obtain ⟨rfl, q₃_4, q₃_5, q₃_6, hO₈⟩ := hJ₂
          refine blk_r ?_
          refine then_r ?_
          refine blk_r ?_
          refine then_r ?_
          have hp := Option.some.inj hp; subst hp
          refine (Or.inr (Exists.intro (.inr ()) (And.intro rfl (And.intro (fun h => nomatch h) (fun he => ?_)))))
          subst he; exact (And.intro rfl (And.intro (q₃_4) (And.intro (q₃_5) (And.intro (q₃_6) (hO₈.pick [] rfl (by decide))))))
    · refine W_cF (t := (decide (x2 < (cells.length : Int)))) rfl b₁ ?_
      refine W_ex ?_
      refine then_e ?_
      have hp := Option.some.inj hp; subst hp
      refine (Or.inr (Exists.intro (.inl (at_, l)) (And.intro rfl (And.intro (fun h => nomatch h) (fun he => ?_)))))
      subst he; exact (And.intro rfl (Exists.intro v₅ (Exists.intro vs₂ (And.intro (q₂_7) (And.intro (q₂_9) (hO₇.pick [0, 1, 2] rfl (by decide)))))))
  intro e₁ q₁ k₄ hJ₁
  rcases o₁ with ⟨at_1, l1⟩ | _
  · obtain ⟨rfl, v₆, vs₃, q₁_7, q₁_9, hO₄⟩ := hJ₁
    refine blk_i ?_
    refine then_n ?_
    refine W_sq ?_
    refine W_rg ?_
    refine WO_v (a_mv (v := v₄) q₁_7) ?_
    refine WO_v (a_mv (v := v₆) q₁_9) ?_
    refine WO_v (a_mv (v := v₄) rfl) ?_
    refine WO_v (a_mv (v := v₆) rfl) ?_
    refine WO_v (a_mv (v := .b true) rfl) ?_
    refine WO_end ?_
    refine then_n ?_
    refine W_rt ?_
    refine Ret_r (rs_t (n := 4) (v := v₄) rfl (rs_t (n := 5) (v := v₆) rfl (rs_t (n := 6) (v := .b true) rfl rs_nil))) ?_
    have hp := Option.some.inj hp; subst hp
    exact (Exists.intro v₄ (Exists.intro v₆ (Exists.intro vs₃ (And.intro rfl (hO₄.pick [0, 1, 2] rfl (by decide))))))
  · obtain ⟨rfl, q₁_4, q₁_5, q₁_6, hO₄⟩ := hJ₁
    refine blk_r ?_
    refine then_r ?_
    have hO₁₉ : Own B h k₄ [eSl eInt .sn ([] : List Int)] := hO₄.nil eInt
    have hO₂₀ : Own B h k₄ [eSl eInt .sn ([] : List Int), eSl eV .sn []] := hO₁₉.nil eV
    have hO₂₁ : Own B h k₄ [eSl eInt .sn ([] : List Int), eSl eV .sn [], eAll eInt [] []] := hO₂₀.allNil eInt 0
    refine Ret_r (rs_t (n := 4) (v := .sn) q₁_4 (rs_t (n := 5) (v := .sn) q₁_5 (rs_t (n := 6) (v := .b false) q₁_6 rs_nil))) ?_
    have hp := Option.some.inj hp; subst hp
    exact (Exists.intro V.sn (Exists.intro V.sn (Exists.intro [] (And.intro rfl (hO₂₁.pick [0, 1, 2] rfl (by decide))))))

theorem p_seg_Of.ok {h : Hp} {cells : List T_api_Cell} {v_cells : V} (s_cells : Sl e_T_api_Cell h v_cells cells) {r : T_seg_Chains × Int} (hp : p_seg_Of cells = some r) :
    ∃ u k', Is G 120 [v_cells] h u k' ∧ ∃ (v₁ : V), ∃ (v₂ : V), ∃ (v₃ : V), ∃ (vs₁ : List V), ∃ (v₄ : V), ∃ (vs₂ : List V), V.tu [.ag [v₁, v₂, v₃, v₄], .i .i64 r.2] = u ∧ Own (fun r => r < h.n) h k' [eSl eInt v₁ r.1.X, eSl eInt v₂ r.1.Y, eSl eV v₃ vs₁, eAll eInt vs₁ r.1.Vert, eSl eV v₄ vs₂, eAll eInt vs₂ r.1.Horz] := by
  refine WC.is (WC_of G_F_seg_Of ?_)
  unfold p_seg_Of at hp
  let B : Nat → Prop := (fun r => r < h.n)
  have hO : Own B h h [] := Own.start0 h
  refine W_sq ?_
  refine W_rg ?_
  refine WO_x (hO.alloc (cs := [.sn, .sn, .sn, .sn]) hO.fr) ?_
  rintro _ k₁ ⟨r₁, rfl, n₁, f₁, hW⟩
  have hO₁ : Own B h k₁ [eBox r₁ [.sn, .sn, .sn, .sn]] := hW
  refine WO_v (a_mv (v := .i .i64 0) rfl) ?_
  refine WO_end ?_
  refine then_n ?_
  refine W_sq ?_
  refine W_sq ?_
  refine W_rg ?_
  refine WO_v (a_mv (v := v_cells) rfl) ?_
  obtain ⟨x, hx₁, hp⟩ := bd_some hp
  obtain ⟨u₁, k₂, ca₁, rfl, hW₁⟩ := p_grid_Check.ok (h := k₁)  (hO₁.rd0 s_cells.rd : Sl e_T_api_Cell k₁ v_cells cells) hx₁
  refine WO_c (id := 66) (caps := []) rfl (mp_cons (v := v_cells) rfl mp_nil) ca₁ ?_
  have hO₂ : Own B h k₂ [eBox r₁ [.sn, .sn, .sn, .sn]] := hO₁.call hW₁ rfl
  refine WO_v (a_mv (v := .i .i64 x) rfl) ?_
  refine WO_end ?_
  refine then_n ?_
  refine W_sq ?_
  refine W_rg ?_
  refine WO_v (a_mv (v := .i .i64 x) rfl) ?_
  refine WO_v (a_neI (a := x) (b := 0) rfl rfl) ?_
  refine WO_end ?_
  refine then_n ?_
  rcases if_some hp with ⟨b₁, hp⟩ | ⟨b₁, hp⟩
  · refine W_cT (t := (!(decide (x = 0)))) rfl b₁ ?_
    refine W_sq ?_
    refine W_rg ?_
    refine WO_v (a_build (cs := [.sn, .sn, .sn, .sn]) (by rw [ev_nil]; simp [fill, over, cells_i, cells_b, cells_f, cells_p, cells_a, cells_n, (Sl.nil : Sl eInt k₂ .sn ([] : List Int)).cells, (Sl.nil : Sl eInt k₂ .sn ([] : List Int)).cells, (Sl.nil : Sl eV k₂ .sn []).cells, (Sl.nil : Sl eV k₂ .sn []).cells])) ?_
    refine WO_v (a_mv (v := .i .i64 x) rfl) ?_
    refine WO_x (hO₂.stb (ws := [.sn, .sn, .sn, .sn]) (cs' := [.sn, .sn, .sn, .sn]) (v := .ag [.sn, .sn, .sn, .sn]) 0 rfl rfl rfl rfl ⟨rfl, Nat.le_of_ble_eq_true rfl, (all_cons (Sl.nil : Sl eInt k₂ .sn ([] : List Int)).oneV (all_cons (Sl.nil : Sl eInt k₂ .sn ([] : List Int)).oneV (all_cons (Sl.nil : Sl eV k₂ .sn []).oneV (all_cons (Sl.nil : Sl eV k₂ .sn []).oneV all_nil))))⟩ rfl) ?_
    rintro _ k₃ ⟨rfl, f₂, m₁, hW⟩
    have hO₃ : Own B h k₃ [eBox r₁ [.sn, .sn, .sn, .sn]] := hW
    refine WO_v (a_mv (v := .i .i64 x) rfl) ?_
    refine WO_end ?_
    refine then_n ?_
    refine W_rt ?_
    refine then_r ?_
    have hO₄ : Own B h k₃ [eBox r₁ [.sn, .sn, .sn, .sn], eSl eInt .sn ([] : List Int)] := hO₃.nil eInt
    have hO₅ : Own B h k₃ [eBox r₁ [.sn, .sn, .sn, .sn], eSl eInt .sn ([] : List Int), eSl eInt .sn ([] : List Int)] := hO₄.nil eInt
    have hO₆ : Own B h k₃ [eBox r₁ [.sn, .sn, .sn, .sn], eSl eInt .sn ([] : List Int), eSl eInt .sn ([] : List Int), eSl eV .sn []] := hO₅.nil eV
    have hO₇ : Own B h k₃ [eBox r₁ [.sn, .sn, .sn, .sn], eSl eInt .sn ([] : List Int), eSl eInt .sn ([] : List Int), eSl eV .sn [], eAll eInt [] []] := hO₆.allNil eInt 0
    have hO₈ : Own B h k₃ [eBox r₁ [.sn, .sn, .sn, .sn], eSl eInt .sn ([] : List Int), eSl eInt .sn ([] : List Int), eSl eV .sn [], eAll eInt [] [], eSl eV .sn []] := hO₇.nil eV
    have hO₉ : Own B h k₃ [eBox r₁ [.sn, .sn, .sn, .sn], eSl eInt .sn ([] : List Int), eSl eInt .sn ([] : List Int), eSl eV .sn [], eAll eInt [] [], eSl eV .sn [], eAll eInt [] []] := hO₈.allNil eInt 0
    refine Ret_r (rs_c (n := 2) (v := .ag [.sn, .sn, .sn, .sn]) (r := r₁) rfl (hO₉.box 0 rfl) rfl (rs_t (n := 3) (v := .i .i64 x) rfl rs_nil)) ?_
    have hp := Option.some.inj hp; subst hp
    exact (Exists.intro V.sn (Exists.intro V.sn (Exists.intro V.sn (Exists.intro [] (Exists.intro V.sn (Exists.intro [] (And.intro rfl (hO₉.pick [1, 2, 3, 4, 5, 6] rfl (by decide)))))))))
  · refine W_cF (t := (!(decide (x = 0)))) rfl b₁ ?_
    refine W_sk ?_
    refine then_n ?_
    refine W_sq ?_
    refine W_rg ?_
    refine WO_v (a_mv (v := v_cells) rfl) ?_
    obtain ⟨⟨x1, x2, x3⟩, hx₂, hp⟩ := bd_some hp
    obtain ⟨u₂, k₄, ca₂, v₅, v₆, vs₃, rfl, hW₂⟩ := p_seg_chains.ok (h := k₂)  (hO₂.rd0 s_cells.rd : Sl e_T_api_Cell k₂ v_cells cells) hx₂
    refine WO_c (id := 137) (caps := []) rfl (mp_cons (v := v_cells) rfl (mp_cons (v := .i .i64 1) rfl mp_nil)) ca₂ ?_
    have hO₁₀ : Own B h k₄ [eBox r₁ [.sn, .sn, .sn, .sn], eSl eInt v₅ x1, eSl eV v₆ vs₃, eAll eInt vs₃ x2] := hO₂.call hW₂ rfl
    refine WO_v (a_mv (v := .tu [v₅, v₆, .b x3]) rfl) ?_
    refine WO_v (a_ext (vs := [v₅, v₆, .b x3]) (v := v₅) rfl rfl) ?_
    refine WO_v (a_ext (vs := [v₅, v₆, .b x3]) (v := v₆) rfl rfl) ?_
    refine WO_v (a_ext (vs := [v₅, v₆, .b x3]) (v := .b x3) rfl rfl) ?_
    refine WO_v (a_mv (v := v₅) rfl) ?_
    refine WO_v (a_mv (v := v₆) rfl) ?_
    refine WO_v (a_mv (v := .b x3) rfl) ?_
    refine WO_end ?_
    refine then_n ?_
    refine W_sq ?_
    refine W_rg ?_
    refine WO_v (a_mv (v := v_cells) rfl) ?_
    obtain ⟨⟨x4, x5, x6⟩, hx₃, hp⟩ := bd_some hp
    obtain ⟨u₃, k₅, ca₃, v₇, v₈, vs₄, rfl, hW₃⟩ := p_seg_chains.ok (h := k₄)  (hO₁₀.rd0 s_cells.rd : Sl e_T_api_Cell k₄ v_cells cells) hx₃
    refine WO_c (id := 137) (caps := []) rfl (mp_cons (v := v_cells) rfl (mp_cons (v := .i .i64 0) rfl mp_nil)) ca₃ ?_
    have hO₁₁ : Own B h k₅ [eBox r₁ [.sn, .sn, .sn, .sn], eSl eInt v₅ x1, eSl eV v₆ vs₃, eAll eInt vs₃ x2, eSl eInt v₇ x4, eSl eV v₈ vs₄, eAll eInt vs₄ x5] := hO₁₀.call hW₃ rfl
    refine WO_v (a_mv (v := .tu [v₇, v₈, .b x6]) rfl) ?_
    refine WO_v (a_ext (vs := [v₇, v₈, .b x6]) (v := v₇) rfl rfl) ?_
    refine WO_v (a_ext (vs := [v₇, v₈, .b x6]) (v := v₈) rfl rfl) ?_
    refine WO_v (a_ext (vs := [v₇, v₈, .b x6]) (v := .b x6) rfl rfl) ?_
    refine WO_v (a_mv (v := v₇) rfl) ?_
    refine WO_v (a_mv (v := v₈) rfl) ?_
    refine WO_v (a_mv (v := .b x6) rfl) ?_
    refine WO_end ?_
    refine then_n ?_
    refine W_sq ?_
    refine W_sq ?_
    refine W_rg ?_
    refine WO_v (a_mv (v := .b x3) rfl) ?_
    refine WO_v (a_not (t := x3) rfl) ?_
    refine WO_v (a_mv (v := .b (!x3)) rfl) ?_
    refine WO_cut 3 (fun fr' k' => k₅ = k' ∧ fr' 34 = .b ((!x3) || (!x6)) ∧ fr' 2 = .p r₁ 0 ∧ fr' 5 = v₅ ∧ fr' 6 = v₆ ∧ fr' 8 = v₇ ∧ fr' 9 = v₈) ?_ ?_
    · rcases bc (!x3) with b₂ | b₂
      · skip
        refine WO_off rfl b₂ ?_
        refine WO_off rfl b₂ ?_
        refine WO_v (a_pickT (t := (!x3)) (v := .b ((!x3) || (!x6))) rfl b₂ (Eq.trans (b := V.b true) rfl (or_off b₂))) ?_
        refine WO_end ?_
        exact ⟨rfl, rfl, rfl, rfl, rfl, rfl, rfl⟩
      · skip
        refine WO_on rfl b₂ ?_
        refine WO_v (a_mv (v := .b x6) rfl) ?_
        refine WO_on rfl b₂ ?_
        refine WO_v (a_not (t := x6) rfl) ?_
        refine WO_v (a_pickF (t := (!x3)) (v := .b ((!x3) || (!x6))) rfl b₂ (Eq.trans (b := V.b (!x6)) rfl (or_on b₂))) ?_
        refine WO_end ?_
        exact ⟨rfl, rfl, rfl, rfl, rfl, rfl, rfl⟩
    rintro frg₁ _ ⟨rfl, g₁_34, g₁_2, g₁_5, g₁_6, g₁_8, g₁_9⟩
    refine WO_end ?_
    refine then_n ?_
    rcases if_some hp with ⟨b₃, hp⟩ | ⟨b₃, hp⟩
    · refine W_cT (t := ((!x3) || (!x6))) g₁_34 b₃ ?_
      refine W_sq ?_
      refine W_rg ?_
      refine WO_v (a_build (cs := [.sn, .sn, .sn, .sn]) (by rw [ev_nil]; simp [fill, over, cells_i, cells_b, cells_f, cells_p, cells_a, cells_n, (Sl.nil : Sl eInt k₅ .sn ([] : List Int)).cells, (Sl.nil : Sl eInt k₅ .sn ([] : List Int)).cells, (Sl.nil : Sl eV k₅ .sn []).cells, (Sl.nil : Sl eV k₅ .sn []).cells])) ?_
      refine WO_x (hO₁₁.stb (ws := [.sn, .sn, .sn, .sn]) (cs' := [.sn, .sn, .sn, .sn]) (v := .ag [.sn, .sn, .sn, .sn]) 0 rfl g₁_2 rfl rfl ⟨rfl, Nat.le_of_ble_eq_true rfl, (all_cons (Sl.nil : Sl eInt k₅ .sn ([] : List Int)).oneV (all_cons (Sl.nil : Sl eInt k₅ .sn ([] : List Int)).oneV (all_cons (Sl.nil : Sl eV k₅ .sn []).oneV (all_cons (Sl.nil : Sl eV k₅ .sn []).oneV all_nil))))⟩ rfl) ?_
      rintro _ k₆ ⟨rfl, f₃, m₂, hW⟩
      have hO₁₂ : Own B h k₆ [eBox r₁ [.sn, .sn, .sn, .sn], eSl eInt v₅ x1, eSl eV v₆ vs₃, eAll eInt vs₃ x2, eSl eInt v₇ x4, eSl eV v₈ vs₄, eAll eInt vs₄ x5] := hW
      refine WO_v (a_mv (v := .i .i64 10) rfl) ?_
      refine WO_end ?_
      refine then_n ?_
      refine W_rt ?_
      refine then_r ?_
      have hO₁₃ : Own B h k₆ [eBox r₁ [.sn, .sn, .sn, .sn], eSl eInt v₅ x1, eSl eV v₆ vs₃, eAll eInt vs₃ x2, eSl eInt v₇ x4, eSl eV v₈ vs₄, eAll eInt vs₄ x5, eSl eInt .sn ([] : List Int)] := hO₁₂.nil eInt
      have hO₁₄ : Own B h k₆ [eBox r₁ [.sn, .sn, .sn, .sn], eSl eInt v₅ x1, eSl eV v₆ vs₃, eAll eInt vs₃ x2, eSl eInt v₇ x4, eSl eV v₈ vs₄, eAll eInt vs₄ x5, eSl eInt .sn ([] : List Int), eSl eInt .sn ([] : List Int)] := hO₁₃.nil eInt
      have hO₁₅ : Own B h k₆ [eBox r₁ [.sn, .sn, .sn, .sn], eSl eInt v₅ x1, eSl eV v₆ vs₃, eAll eInt vs₃ x2, eSl eInt v₇ x4, eSl eV v₈ vs₄, eAll eInt vs₄ x5, eSl eInt .sn ([] : List Int), eSl eInt .sn ([] : List Int), eSl eV .sn []] := hO₁₄.nil eV
      have hO₁₆ : Own B h k₆ [eBox r₁ [.sn, .sn, .sn, .sn], eSl eInt v₅ x1, eSl eV v₆ vs₃, eAll eInt vs₃ x2, eSl eInt v₇ x4, eSl eV v₈ vs₄, eAll eInt vs₄ x5, eSl eInt .sn ([] : List Int), eSl eInt .sn ([] : List Int), eSl eV .sn [], eAll eInt [] []] := hO₁₅.allNil eInt 0
      have hO₁₇ : Own B h k₆ [eBox r₁ [.sn, .sn, .sn, .sn], eSl eInt v₅ x1, eSl eV v₆ vs₃, eAll eInt vs₃ x2, eSl eInt v₇ x4, eSl eV v₈ vs₄, eAll eInt vs₄ x5, eSl eInt .sn ([] : List Int), eSl eInt .sn ([] : List Int), eSl eV .sn [], eAll eInt [] [], eSl eV .sn []] := hO₁₆.nil eV
      have hO₁₈ : Own B h k₆ [eBox r₁ [.sn, .sn, .sn, .sn], eSl eInt v₅ x1, eSl eV v₆ vs₃, eAll eInt vs₃ x2, eSl eInt v₇ x4, eSl eV v₈ vs₄, eAll eInt vs₄ x5, eSl eInt .sn ([] : List Int), eSl eInt .sn ([] : List Int), eSl eV .sn [], eAll eInt [] [], eSl eV .sn [], eAll eInt [] []] := hO₁₇.allNil eInt 0
      refine Ret_r (rs_c (n := 2) (v := .ag [.sn, .sn, .sn, .sn]) (r := r₁) g₁_2 (hO₁₈.box 0 rfl) rfl (rs_t (n := 3) (v := .i .i64 10) rfl rs_nil)) ?_
      have hp := Option.some.inj hp; subst hp
      exact (Exists.intro V.sn (Exists.intro V.sn (Exists.intro V.sn (Exists.intro [] (Exists.intro V.sn (Exists.intro [] (And.intro rfl (hO₁₈.pick [7, 8, 9, 10, 11, 12] rfl (by decide)))))))))
    · refine W_cF (t := ((!x3) || (!x6))) g₁_34 b₃ ?_
      refine W_sk ?_
      refine then_n ?_
      refine W_sq ?_
      refine W_rg ?_
      refine WO_v (a_mv (v := v₅) g₁_5) ?_
      refine WO_v (a_mv (v := v₇) g₁_8) ?_
      refine WO_v (a_mv (v := v₆) g₁_6) ?_
      refine WO_v (a_mv (v := v₈) g₁_9) ?_
      refine WO_v (a_build (cs := [v₅, v₇, v₆, v₈]) (by rw [(ev_cons (v := v₅) rfl (ev_cons (v := v₇) rfl (ev_cons (v := v₆) rfl (ev_cons (v := v₈) rfl ev_nil))))]; simp [fill, over, cells_i, cells_b, cells_f, cells_p, cells_a, cells_n, (hO₁₁.sl 1 rfl : Sl eInt k₅ v₅ x1).cells, (hO₁₁.sl 4 rfl : Sl eInt k₅ v₇ x4).cells, (hO₁₁.sl 2 rfl : Sl eV k₅ v₆ vs₃).cells, (hO₁₁.sl 5 rfl : Sl eV k₅ v₈ vs₄).cells])) ?_
      refine WO_x (hO₁₁.stb (ws := [v₅, v₇, v₆, v₈]) (cs' := [v₅, v₇, v₆, v₈]) (v := .ag [v₅, v₇, v₆, v₈]) 0 rfl g₁_2 rfl rfl ⟨rfl, Nat.le_of_ble_eq_true rfl, (all_cons (hO₁₁.sl 1 rfl : Sl eInt k₅ v₅ x1).oneV (all_cons (hO₁₁.sl 4 rfl : Sl eInt k₅ v₇ x4).oneV (all_cons (hO₁₁.sl 2 rfl : Sl eV k₅ v₆ vs₃).oneV (all_cons (hO₁₁.sl 5 rfl : Sl eV k₅ v₈ vs₄).oneV all_nil))))⟩ rfl) ?_
      rintro _ k₇ ⟨rfl, f₄, m₃, hW⟩
      have hO₁₉ : Own B h k₇ [eBox r₁ [v₅, v₇, v₆, v₈], eSl eInt v₅ x1, eSl eV v₆ vs₃, eAll eInt vs₃ x2, eSl eInt v₇ x4, eSl eV v₈ vs₄, eAll eInt vs₄ x5] := hW
      refine WO_v (a_mv (v := .i .i64 0) rfl) ?_
      refine WO_end ?_
      refine then_n ?_
      refine W_rt ?_
      refine Ret_r (rs_c (n := 2) (v := .ag [v₅, v₇, v₆, v₈]) (r := r₁) g₁_2 (hO₁₉.box 0 rfl) rfl (rs_t (n := 3) (v := .i .i64 0) rfl rs_nil)) ?_
      have hp := Option.some.inj hp; subst hp
      exact (Exists.intro v₅ (Exists.intro v₇ (Exists.intro v₆ (Exists.intro vs₃ (Exists.intro v₈ (Exists.intro vs₄ (And.intro rfl (hO₁₉.pick [1, 4, 2, 3, 5, 6] rfl (by decide)))))))))

theorem p_muntinref10_Join.ok {h : Hp} {l : List T_api_Cell} {v : Int} {d : Int} {w : Int} {o : Int} {v_l : V} (H : Own (Bm h [eSl e_T_api_Cell v_l l]) h h [eSl e_T_api_Cell v_l l]) {r : (List T_api_Cell) × Int} (hp : p_muntinref10_Join l v d w o = some r) :
    ∃ u k', Is G 53 [v_l, .i .i64 v, .i .i64 d, .i .i64 w, .i .i64 o] h u k' ∧ ∃ (v₁ : V), V.tu [v₁, .i .i64 r.2] = u ∧ Own (Bm h [eSl e_T_api_Cell v_l l]) h k' [eSl e_T_api_Cell v₁ r.1] := by
  refine WC.is (WC_of G_F_muntinref10_Join ?_)
  unfold p_muntinref10_Join at hp
  let B : Nat → Prop := (Bm h [eSl e_T_api_Cell v_l l])
  have hO : Own B h h [eSl e_T_api_Cell v_l l] := H
  refine W_sq ?_
  refine W_rg ?_
  refine WO_v (a_mv (v := .sn) rfl) ?_
  refine WO_v (a_mv (v := .i .i64 0) rfl) ?_
  refine WO_end ?_
  refine then_n ?_
  refine W_sq ?_
  refine W_sq ?_
  refine W_rg ?_
  refine WO_v (a_mv (v := .i .i64 v) rfl) ?_
  refine WO_v (a_lss (a := v) (b := 0) rfl rfl) ?_
  refine WO_v (a_mv (v := .b (decide (v < 0))) rfl) ?_
  refine WO_cut 5 (fun fr' k' => h = k' ∧ fr' 20 = .b ((decide (v < 0)) || (decide ((l.length : Int) ≤ v))) ∧ fr' 0 = v_l ∧ fr' 1 = .i .i64 v ∧ fr' 2 = .i .i64 d ∧ fr' 3 = .i .i64 w ∧ fr' 4 = .i .i64 o) ?_ ?_
  · rcases bc (decide (v < 0)) with b₁ | b₁
    · skip
      refine WO_off rfl b₁ ?_
      refine WO_off rfl b₁ ?_
      refine WO_off rfl b₁ ?_
      refine WO_off rfl b₁ ?_
      refine WO_v (a_pickT (t := (decide (v < 0))) (v := .b ((decide (v < 0)) || (decide ((l.length : Int) ≤ v)))) rfl b₁ (Eq.trans (b := V.b true) rfl (or_off b₁))) ?_
      refine WO_end ?_
      exact ⟨rfl, rfl, rfl, rfl, rfl, rfl, rfl⟩
    · skip
      refine WO_on rfl b₁ ?_
      refine WO_v (a_mv (v := .i .i64 v) rfl) ?_
      refine WO_on rfl b₁ ?_
      refine WO_v (a_mv (v := v_l) rfl) ?_
      refine WO_on rfl b₁ ?_
      refine WO_v (a_len (hO.sl 0 rfl : Sl e_T_api_Cell h v_l l) rfl) ?_
      refine WO_on rfl b₁ ?_
      refine WO_v (a_geq (a := v) (b := (l.length : Int)) rfl rfl) ?_
      refine WO_v (a_pickF (t := (decide (v < 0))) (v := .b ((decide (v < 0)) || (decide ((l.length : Int) ≤ v)))) rfl b₁ (Eq.trans (b := V.b (decide ((l.length : Int) ≤ v))) rfl (or_on b₁))) ?_
      refine WO_end ?_
      exact ⟨rfl, rfl, rfl, rfl, rfl, rfl, rfl⟩
  rintro frg₁ _ ⟨rfl, g₁_20, g₁_0, g₁_1, g₁_2, g₁_3, g₁_4⟩
  refine WO_v (a_mv (v := .b ((decide (v < 0)) || (decide ((l.length : Int) ≤ v)))) g₁_20) ?_
  refine WO_cut 3 (fun fr' k' => h = k' ∧ fr' 24 = .b (((decide (v < 0)) || (decide ((l.length : Int) ≤ v))) || (decide (w < 0))) ∧ fr' 0 = v_l ∧ fr' 1 = .i .i64 v ∧ fr' 2 = .i .i64 d ∧ fr' 3 = .i .i64 w ∧ fr' 4 = .i .i64 o) ?_ ?_
  · rcases bc ((decide (v < 0)) || (decide ((l.length : Int) ≤ v))) with b₂ | b₂
    · skip
      refine WO_off rfl b₂ ?_
      refine WO_off rfl b₂ ?_
      refine WO_v (a_pickT (t := ((decide (v < 0)) || (decide ((l.length : Int) ≤ v)))) (v := .b (((decide (v < 0)) || (decide ((l.length : Int) ≤ v))) || (decide (w < 0)))) rfl b₂ (Eq.trans (b := V.b true) rfl (or_off b₂))) ?_
      refine WO_end ?_
      exact ⟨rfl, rfl, g₁_0, g₁_1, g₁_2, g₁_3, g₁_4⟩
    · skip
      refine WO_on rfl b₂ ?_
      refine WO_v (a_mv (v := .i .i64 w) g₁_3) ?_
      refine WO_on rfl b₂ ?_
      refine WO_v (a_lss (a := w) (b := 0) rfl rfl) ?_
      refine WO_v (a_pickF (t := ((decide (v < 0)) || (decide ((l.length : Int) ≤ v)))) (v := .b (((decide (v < 0)) || (decide ((l.length : Int) ≤ v))) || (decide (w < 0)))) rfl b₂ (Eq.trans (b := V.b (decide (w < 0))) rfl (or_on b₂))) ?_
      refine WO_end ?_
      exact ⟨rfl, rfl, g₁_0, g₁_1, g₁_2, g₁_3, g₁_4⟩
  rintro frg₂ _ ⟨rfl, g₂_24, g₂_0, g₂_1, g₂_2, g₂_3, g₂_4⟩
  refine WO_v (a_mv (v := .b (((decide (v < 0)) || (decide ((l.length : Int) ≤ v))) || (decide (w < 0)))) g₂_24) ?_
  refine WO_cut 5 (fun fr' k' => h = k' ∧ fr' 30 = .b ((((decide (v < 0)) || (decide ((l.length : Int) ≤ v))) || (decide (w < 0))) || (decide ((l.length : Int) ≤ w))) ∧ fr' 0 = v_l ∧ fr' 1 = .i .i64 v ∧ fr' 2 = .i .i64 d ∧ fr' 3 = .i .i64 w ∧ fr' 4 = .i .i64 o) ?_ ?_
  · rcases bc (((decide (v < 0)) || (decide ((l.length : Int) ≤ v))) || (decide (w < 0))) with b₃ | b₃
    · skip
      refine WO_off rfl b₃ ?_
      refine WO_off rfl b₃ ?_
      refine WO_off rfl b₃ ?_
      refine WO_off rfl b₃ ?_
      refine WO_v (a_pickT (t := (((decide (v < 0)) || (decide ((l.length : Int) ≤ v))) || (decide (w < 0)))) (v := .b ((((decide (v < 0)) || (decide ((l.length : Int) ≤ v))) || (decide (w < 0))) || (decide ((l.length : Int) ≤ w)))) rfl b₃ (Eq.trans (b := V.b true) rfl (or_off b₃))) ?_
      refine WO_end ?_
      exact ⟨rfl, rfl, g₂_0, g₂_1, g₂_2, g₂_3, g₂_4⟩
    · skip
      refine WO_on rfl b₃ ?_
      refine WO_v (a_mv (v := .i .i64 w) g₂_3) ?_
      refine WO_on rfl b₃ ?_
      refine WO_v (a_mv (v := v_l) g₂_0) ?_
      refine WO_on rfl b₃ ?_
      refine WO_v (a_len (hO.sl 0 rfl : Sl e_T_api_Cell h v_l l) rfl) ?_
      refine WO_on rfl b₃ ?_
      refine WO_v (a_geq (a := w) (b := (l.length : Int)) rfl rfl) ?_
      refine WO_v (a_pickF (t := (((decide (v < 0)) || (decide ((l.length : Int) ≤ v))) || (decide (w < 0)))) (v := .b ((((decide (v < 0)) || (decide ((l.length : Int) ≤ v))) || (decide (w < 0))) || (decide ((l.length : Int) ≤ w)))) rfl b₃ (Eq.trans (b := V.b (decide ((l.length : Int) ≤ w))) rfl (or_on b₃))) ?_
      refine WO_end ?_
      exact ⟨rfl, rfl, g₂_0, g₂_1, g₂_2, g₂_3, g₂_4⟩
  rintro frg₃ _ ⟨rfl, g₃_30, g₃_0, g₃_1, g₃_2, g₃_3, g₃_4⟩
  refine WO_v (a_mv (v := .b ((((decide (v < 0)) || (decide ((l.length : Int) ≤ v))) || (decide (w < 0))) || (decide ((l.length : Int) ≤ w)))) g₃_30) ?_
  refine WO_cut 4 (fun fr' k' => h = k' ∧ fr' 35 = .b (((((decide (v < 0)) || (decide ((l.length : Int) ≤ v))) || (decide (w < 0))) || (decide ((l.length : Int) ≤ w))) || (decide (v = w))) ∧ fr' 0 = v_l ∧ fr' 1 = .i .i64 v ∧ fr' 2 = .i .i64 d ∧ fr' 3 = .i .i64 w ∧ fr' 4 = .i .i64 o) ?_ ?_
  · rcases bc ((((decide (v < 0)) || (decide ((l.length : Int) ≤ v))) || (decide (w < 0))) || (decide ((l.length : Int) ≤ w))) with b₄ | b₄
    · skip
      refine WO_off rfl b₄ ?_
      refine WO_off rfl b₄ ?_
      refine WO_off rfl b₄ ?_
      refine WO_v (a_pickT (t := ((((decide (v < 0)) || (decide ((l.length : Int) ≤ v))) || (decide (w < 0))) || (decide ((l.length : Int) ≤ w)))) (v := .b (((((decide (v < 0)) || (decide ((l.length : Int) ≤ v))) || (decide (w < 0))) || (decide ((l.length : Int) ≤ w))) || (decide (v = w)))) rfl b₄ (Eq.trans (b := V.b true) rfl (or_off b₄))) ?_
      refine WO_end ?_
      exact ⟨rfl, rfl, g₃_0, g₃_1, g₃_2, g₃_3, g₃_4⟩
    · skip
      refine WO_on rfl b₄ ?_
      refine WO_v (a_mv (v := .i .i64 v) g₃_1) ?_
      refine WO_on rfl b₄ ?_
      refine WO_v (a_mv (v := .i .i64 w) g₃_3) ?_
      refine WO_on rfl b₄ ?_
      refine WO_v (a_eqI (a := v) (b := w) rfl rfl) ?_
      refine WO_v (a_pickF (t := ((((decide (v < 0)) || (decide ((l.length : Int) ≤ v))) || (decide (w < 0))) || (decide ((l.length : Int) ≤ w)))) (v := .b (((((decide (v < 0)) || (decide ((l.length : Int) ≤ v))) || (decide (w < 0))) || (decide ((l.length : Int) ≤ w))) || (decide (v = w)))) rfl b₄ (Eq.trans (b := V.b (decide (v = w))) rfl (or_on b₄))) ?_
      refine WO_end ?_
      exact ⟨rfl, rfl, g₃_0, g₃_1, g₃_2, g₃_3, g₃_4⟩
  rintro frg₄ _ ⟨rfl, g₄_35, g₄_0, g₄_1, g₄_2, g₄_3, g₄_4⟩
  refine WO_v (a_mv (v := .b (((((decide (v < 0)) || (decide ((l.length : Int) ≤ v))) || (decide (w < 0))) || (decide ((l.length : Int) ≤ w))) || (decide (v = w)))) g₄_35) ?_
  refine WO_cut 3 (fun fr' k' => h = k' ∧ fr' 39 = .b ((((((decide (v < 0)) || (decide ((l.length : Int) ≤ v))) || (decide (w < 0))) || (decide ((l.length : Int) ≤ w))) || (decide (v = w))) || (decide (d < 0))) ∧ fr' 0 = v_l ∧ fr' 1 = .i .i64 v ∧ fr' 2 = .i .i64 d ∧ fr' 3 = .i .i64 w ∧ fr' 4 = .i .i64 o) ?_ ?_
  · rcases bc (((((decide (v < 0)) || (decide ((l.length : Int) ≤ v))) || (decide (w < 0))) || (decide ((l.length : Int) ≤ w))) || (decide (v = w))) with b₅ | b₅
    · skip
      refine WO_off rfl b₅ ?_
      refine WO_off rfl b₅ ?_
      refine WO_v (a_pickT (t := (((((decide (v < 0)) || (decide ((l.length : Int) ≤ v))) || (decide (w < 0))) || (decide ((l.length : Int) ≤ w))) || (decide (v = w)))) (v := .b ((((((decide (v < 0)) || (decide ((l.length : Int) ≤ v))) || (decide (w < 0))) || (decide ((l.length : Int) ≤ w))) || (decide (v = w))) || (decide (d < 0)))) rfl b₅ (Eq.trans (b := V.b true) rfl (or_off b₅))) ?_
      refine WO_end ?_
      exact ⟨rfl, rfl, g₄_0, g₄_1, g₄_2, g₄_3, g₄_4⟩
    · skip
      refine WO_on rfl b₅ ?_
      refine WO_v (a_mv (v := .i .i64 d) g₄_2) ?_
      refine WO_on rfl b₅ ?_
      refine WO_v (a_lss (a := d) (b := 0) rfl rfl) ?_
      refine WO_v (a_pickF (t := (((((decide (v < 0)) || (decide ((l.length : Int) ≤ v))) || (decide (w < 0))) || (decide ((l.length : Int) ≤ w))) || (decide (v = w)))) (v := .b ((((((decide (v < 0)) || (decide ((l.length : Int) ≤ v))) || (decide (w < 0))) || (decide ((l.length : Int) ≤ w))) || (decide (v = w))) || (decide (d < 0)))) rfl b₅ (Eq.trans (b := V.b (decide (d < 0))) rfl (or_on b₅))) ?_
      refine WO_end ?_
      exact ⟨rfl, rfl, g₄_0, g₄_1, g₄_2, g₄_3, g₄_4⟩
  rintro frg₅ _ ⟨rfl, g₅_39, g₅_0, g₅_1, g₅_2, g₅_3, g₅_4⟩
  refine WO_v (a_mv (v := .b ((((((decide (v < 0)) || (decide ((l.length : Int) ≤ v))) || (decide (w < 0))) || (decide ((l.length : Int) ≤ w))) || (decide (v = w))) || (decide (d < 0)))) g₅_39) ?_
  refine WO_cut 3 (fun fr' k' => h = k' ∧ fr' 43 = .b (((((((decide (v < 0)) || (decide ((l.length : Int) ≤ v))) || (decide (w < 0))) || (decide ((l.length : Int) ≤ w))) || (decide (v = w))) || (decide (d < 0))) || (decide (3 < d))) ∧ fr' 0 = v_l ∧ fr' 1 = .i .i64 v ∧ fr' 2 = .i .i64 d ∧ fr' 3 = .i .i64 w ∧ fr' 4 = .i .i64 o) ?_ ?_
  · rcases bc ((((((decide (v < 0)) || (decide ((l.length : Int) ≤ v))) || (decide (w < 0))) || (decide ((l.length : Int) ≤ w))) || (decide (v = w))) || (decide (d < 0))) with b₆ | b₆
    · skip
      refine WO_off rfl b₆ ?_
      refine WO_off rfl b₆ ?_
      refine WO_v (a_pickT (t := ((((((decide (v < 0)) || (decide ((l.length : Int) ≤ v))) || (decide (w < 0))) || (decide ((l.length : Int) ≤ w))) || (decide (v = w))) || (decide (d < 0)))) (v := .b (((((((decide (v < 0)) || (decide ((l.length : Int) ≤ v))) || (decide (w < 0))) || (decide ((l.length : Int) ≤ w))) || (decide (v = w))) || (decide (d < 0))) || (decide (3 < d)))) rfl b₆ (Eq.trans (b := V.b true) rfl (or_off b₆))) ?_
      refine WO_end ?_
      exact ⟨rfl, rfl, g₅_0, g₅_1, g₅_2, g₅_3, g₅_4⟩
    · skip
      refine WO_on rfl b₆ ?_
      refine WO_v (a_mv (v := .i .i64 d) g₅_2) ?_
      refine WO_on rfl b₆ ?_
      refine WO_v (a_gtr (a := d) (b := 3) rfl rfl) ?_
      refine WO_v (a_pickF (t := ((((((decide (v < 0)) || (decide ((l.length : Int) ≤ v))) || (decide (w < 0))) || (decide ((l.length : Int) ≤ w))) || (decide (v = w))) || (decide (d < 0)))) (v := .b (((((((decide (v < 0)) || (decide ((l.length : Int) ≤ v))) || (decide (w < 0))) || (decide ((l.length : Int) ≤ w))) || (decide (v = w))) || (decide (d < 0))) || (decide (3 < d)))) rfl b₆ (Eq.trans (b := V.b (decide (3 < d))) rfl (or_on b₆))) ?_
      refine WO_end ?_
      exact ⟨rfl, rfl, g₅_0, g₅_1, g₅_2, g₅_3, g₅_4⟩
  rintro frg₆ _ ⟨rfl, g₆_43, g₆_0, g₆_1, g₆_2, g₆_3, g₆_4⟩
  refine WO_v (a_mv (v := .b (((((((decide (v < 0)) || (decide ((l.length : Int) ≤ v))) || (decide (w < 0))) || (decide ((l.length : Int) ≤ w))) || (decide (v = w))) || (decide (d < 0))) || (decide (3 < d)))) g₆_43) ?_
  refine WO_cut 3 (fun fr' k' => h = k' ∧ fr' 47 = .b ((((((((decide (v < 0)) || (decide ((l.length : Int) ≤ v))) || (decide (w < 0))) || (decide ((l.length : Int) ≤ w))) || (decide (v = w))) || (decide (d < 0))) || (decide (3 < d))) || (decide (o < (-2)))) ∧ fr' 0 = v_l ∧ fr' 1 = .i .i64 v ∧ fr' 2 = .i .i64 d ∧ fr' 3 = .i .i64 w ∧ fr' 4 = .i .i64 o) ?_ ?_
  · rcases bc (((((((decide (v < 0)) || (decide ((l.length : Int) ≤ v))) || (decide (w < 0))) || (decide ((l.length : Int) ≤ w))) || (decide (v = w))) || (decide (d < 0))) || (decide (3 < d))) with b₇ | b₇
    · skip
      refine WO_off rfl b₇ ?_
      refine WO_off rfl b₇ ?_
      refine WO_v (a_pickT (t := (((((((decide (v < 0)) || (decide ((l.length : Int) ≤ v))) || (decide (w < 0))) || (decide ((l.length : Int) ≤ w))) || (decide (v = w))) || (decide (d < 0))) || (decide (3 < d)))) (v := .b ((((((((decide (v < 0)) || (decide ((l.length : Int) ≤ v))) || (decide (w < 0))) || (decide ((l.length : Int) ≤ w))) || (decide (v = w))) || (decide (d < 0))) || (decide (3 < d))) || (decide (o < (-2))))) rfl b₇ (Eq.trans (b := V.b true) rfl (or_off b₇))) ?_
      refine WO_end ?_
      exact ⟨rfl, rfl, g₆_0, g₆_1, g₆_2, g₆_3, g₆_4⟩
    · skip
      refine WO_on rfl b₇ ?_
      refine WO_v (a_mv (v := .i .i64 o) g₆_4) ?_
      refine WO_on rfl b₇ ?_
      refine WO_v (a_lss (a := o) (b := (-2)) rfl rfl) ?_
      refine WO_v (a_pickF (t := (((((((decide (v < 0)) || (decide ((l.length : Int) ≤ v))) || (decide (w < 0))) || (decide ((l.length : Int) ≤ w))) || (decide (v = w))) || (decide (d < 0))) || (decide (3 < d)))) (v := .b ((((((((decide (v < 0)) || (decide ((l.length : Int) ≤ v))) || (decide (w < 0))) || (decide ((l.length : Int) ≤ w))) || (decide (v = w))) || (decide (d < 0))) || (decide (3 < d))) || (decide (o < (-2))))) rfl b₇ (Eq.trans (b := V.b (decide (o < (-2)))) rfl (or_on b₇))) ?_
      refine WO_end ?_
      exact ⟨rfl, rfl, g₆_0, g₆_1, g₆_2, g₆_3, g₆_4⟩
  rintro frg₇ _ ⟨rfl, g₇_47, g₇_0, g₇_1, g₇_2, g₇_3, g₇_4⟩
  refine WO_end ?_
  refine then_n ?_
  rcases if_some hp with ⟨b₈, hp⟩ | ⟨b₈, hp⟩
  · refine W_cT (t := ((((((((decide (v < 0)) || (decide ((l.length : Int) ≤ v))) || (decide (w < 0))) || (decide ((l.length : Int) ≤ w))) || (decide (v = w))) || (decide (d < 0))) || (decide (3 < d))) || (decide (o < (-2))))) g₇_47 b₈ ?_
    refine W_sq ?_
    refine W_rg ?_
    refine WO_v (a_mv (v := v_l) g₇_0) ?_
    refine WO_v (a_mv (v := v_l) rfl) ?_
    refine WO_v (a_mv (v := .i .i64 2) rfl) ?_
    refine WO_end ?_
    refine then_n ?_
    refine W_rt ?_
    refine then_r ?_
    refine Ret_r (rs_t (n := 10) (v := v_l) rfl (rs_t (n := 11) (v := .i .i64 2) rfl rs_nil)) ?_
    have hp := Option.some.inj hp; subst hp
    exact (Exists.intro v_l (And.intro rfl (hO.pick [0] rfl (by decide))))
  · refine W_cF (t := ((((((((decide (v < 0)) || (decide ((l.length : Int) ≤ v))) || (decide (w < 0))) || (decide ((l.length : Int) ≤ w))) || (decide (v = w))) || (decide (d < 0))) || (decide (3 < d))) || (decide (o < (-2))))) g₇_47 b₈ ?_
    refine W_sk ?_
    refine then_n ?_
    refine W_sq ?_
    refine W_sq ?_
    refine W_rg ?_
    refine WO_v (a_mv (v := v_l) g₇_0) ?_
    refine WO_v (a_mv (v := .i .i64 v) g₇_1) ?_
    refine WO_v (a_mv (v := .i .i64 d) g₇_2) ?_
    obtain ⟨c₁, hp⟩ := ck_some hp
    refine WO_v (a_ixa (E := e_T_api_Cell) (z := v) (hO.sl 0 rfl : Sl e_T_api_Cell h v_l l) rfl rfl c₁) ?_
    refine WO_v (a_faE (off' := 0) (off2 := 0) (hO.sl 0 rfl : Sl e_T_api_Cell h v_l l) (toNat_lt c₁) rfl rfl) ?_
    obtain ⟨c₂, hp⟩ := ck_some hp
    refine WO_v (a_ixaaE (off := 0) (off2 := (0 + (d : Int).toNat * 1)) (z := d) (hO.sl 0 rfl : Sl e_T_api_Cell h v_l l) (toNat_lt c₁) rfl rfl c₂ rfl) ?_
    refine WO_v (a_ldE (w := .i .i64 (((gi l (v : Int).toNat).Next).get d)) (hO.sl 0 rfl : Sl e_T_api_Cell h v_l l) rfl (toNat_lt c₁) (ld_T_api_Cell_Next c₂)) ?_
    refine WO_v (a_neI (a := (((gi l (v : Int).toNat).Next).get d)) (b := (-1)) rfl rfl) ?_
    refine WO_v (a_mv (v := .b (!(decide (((gi l (v : Int).toNat).Next).get d = (-1))))) rfl) ?_
    obtain ⟨t, hv₁, hp⟩ := bd_some hp
    refine WO_cut 11 (fun fr' k' => h = k' ∧ fr' 68 = .b t ∧ fr' 0 = v_l ∧ fr' 1 = .i .i64 v ∧ fr' 2 = .i .i64 d ∧ fr' 3 = .i .i64 w ∧ fr' 4 = .i .i64 o) ?_ ?_
    · clear hp; rcases if_some hv₁ with ⟨b₉, hp⟩ | ⟨b₉, hp⟩
      · skip
        refine WO_off rfl b₉ ?_
        refine WO_off rfl b₉ ?_
        refine WO_off rfl b₉ ?_
        refine WO_off rfl b₉ ?_
        refine WO_off rfl b₉ ?_
        refine WO_off rfl b₉ ?_
        refine WO_off rfl b₉ ?_
        refine WO_off rfl b₉ ?_
        refine WO_off rfl b₉ ?_
        refine WO_off rfl b₉ ?_
        refine WO_v (a_pickT (t := (!(decide (((gi l (v : Int).toNat).Next).get d = (-1))))) (v := .b t) rfl b₉ (Eq.trans (b := V.b true) rfl (congrArg V.b (Option.some.inj hp)))) ?_
        refine WO_end ?_
        exact ⟨rfl, rfl, g₇_0, g₇_1, g₇_2, g₇_3, g₇_4⟩
      · skip
        refine WO_on rfl b₉ ?_
        refine WO_v (a_mv (v := v_l) g₇_0) ?_
        refine WO_on rfl b₉ ?_
        refine WO_v (a_mv (v := .i .i64 w) g₇_3) ?_
        refine WO_on rfl b₉ ?_
        refine WO_v (a_mv (v := .i .i64 d) g₇_2) ?_
        refine WO_on rfl b₉ ?_
        obtain ⟨c₃, hp⟩ := ck_some hp
        refine WO_v (a_add (a := d) (b := 2) rfl rfl c₃) ?_
        refine WO_on rfl b₉ ?_
        refine WO_v (a_rem (a := (d + 2)) (b := 4) rfl rfl (by decide)) ?_
        refine WO_on rfl b₉ ?_
        obtain ⟨c₄, hp⟩ := ck_some hp
        refine WO_v (a_ixa (E := e_T_api_Cell) (z := w) (hO.sl 0 rfl : Sl e_T_api_Cell h v_l l) rfl rfl c₄) ?_
        refine WO_on rfl b₉ ?_
        refine WO_v (a_faE (off' := 0) (off2 := 0) (hO.sl 0 rfl : Sl e_T_api_Cell h v_l l) (toNat_lt c₄) rfl rfl) ?_
        refine WO_on rfl b₉ ?_
        obtain ⟨c₅, hp⟩ := ck_some hp
        refine WO_v (a_ixaaE (off := 0) (off2 := (0 + ((d + 2).tmod 4 : Int).toNat * 1)) (z := ((d + 2).tmod 4)) (hO.sl 0 rfl : Sl e_T_api_Cell h v_l l) (toNat_lt c₄) rfl rfl c₅ rfl) ?_
        refine WO_on rfl b₉ ?_
        refine WO_v (a_ldE (w := .i .i64 (((gi l (w : Int).toNat).Next).get ((d + 2).tmod 4))) (hO.sl 0 rfl : Sl e_T_api_Cell h v_l l) rfl (toNat_lt c₄) (ld_T_api_Cell_Next c₅)) ?_
        refine WO_on rfl b₉ ?_
        refine WO_v (a_neI (a := (((gi l (w : Int).toNat).Next).get ((d + 2).tmod 4))) (b := (-1)) rfl rfl) ?_
        refine WO_v (a_pickF (t := (!(decide (((gi l (v : Int).toNat).Next).get d = (-1))))) (v := .b t) rfl b₉ (Eq.trans (b := V.b (!(decide (((gi l (w : Int).toNat).Next).get ((d + 2).tmod 4) = (-1))))) rfl (congrArg V.b (Option.some.inj hp)))) ?_
        refine WO_end ?_
        exact ⟨rfl, rfl, g₇_0, g₇_1, g₇_2, g₇_3, g₇_4⟩
    rintro frg₈ _ ⟨rfl, g₈_68, g₈_0, g₈_1, g₈_2, g₈_3, g₈_4⟩
    refine WO_end ?_
    refine then_n ?_
    rcases if_some hp with ⟨b₁₀, hp⟩ | ⟨b₁₀, hp⟩
    · refine W_cT (t := t) g₈_68 b₁₀ ?_
      refine W_sq ?_
      refine W_rg ?_
      refine WO_v (a_mv (v := v_l) g₈_0) ?_
      refine WO_v (a_mv (v := v_l) rfl) ?_
      refine WO_v (a_mv (v := .i .i64 9) rfl) ?_
      refine WO_end ?_
      refine then_n ?_
      refine W_rt ?_
      refine then_r ?_
      refine Ret_r (rs_t (n := 10) (v := v_l) rfl (rs_t (n := 11) (v := .i .i64 9) rfl rs_nil)) ?_
      have hp := Option.some.inj hp; subst hp
      exact (Exists.intro v_l (And.intro rfl (hO.pick [0] rfl (by decide))))
    · refine W_cF (t := t) g₈_68 b₁₀ ?_
      refine W_sk ?_
      refine then_n ?_
      refine W_sq ?_
      refine W_rg ?_
      refine WO_v (a_mv (v := v_l) g₈_0) ?_
      refine WO_v (a_mv (v := .i .i64 v) g₈_1) ?_
      refine WO_v (a_mv (v := .i .i64 d) g₈_2) ?_
      refine WO_v (a_mv (v := .i .i64 w) g₈_3) ?_
      refine WO_v (a_mv (v := .i .i64 o) g₈_4) ?_
      obtain ⟨x, hx₁, hp⟩ := bd_some hp
      obtain ⟨u₁, k₁, ca₁, v₂, rfl, hW₁⟩ := p_muntinref10_with.ok (h := h)  (hO.sl 0 rfl : Sl e_T_api_Cell h v_l l) hx₁
      refine WO_c (id := 65) (caps := []) rfl (mp_cons (v := v_l) rfl (mp_cons (v := .i .i64 v) rfl (mp_cons (v := .i .i64 d) rfl (mp_cons (v := .i .i64 w) rfl (mp_cons (v := .i .i64 o) rfl mp_nil))))) ca₁ ?_
      have hO₁ : Own B h k₁ [eSl e_T_api_Cell v_l l, eSl e_T_api_Cell v₂ x] := hO.call hW₁ rfl
      refine WO_v (a_mv (v := v₂) rfl) ?_
      refine WO_end ?_
      refine then_n ?_
      refine W_sq ?_
      refine W_rg ?_
      refine WO_v (a_mv (v := v₂) rfl) ?_
      refine WO_v (a_mv (v := v₂) rfl) ?_
      refine WO_v (a_mv (v := .i .i64 0) rfl) ?_
      refine WO_end ?_
      refine then_n ?_
      refine W_rt ?_
      refine Ret_r (rs_t (n := 10) (v := v₂) rfl (rs_t (n := 11) (v := .i .i64 0) rfl rs_nil)) ?_
      have hp := Option.some.inj hp; subst hp
      exact (Exists.intro v₂ (And.intro rfl (hO₁.pick [1] rfl (by decide))))

theorem p_muntinlaw16_square.ok {h : Hp}    {r : (List T_api_Cell)} (hp : p_muntinlaw16_square  = some r) :
    ∃ u k', Is G 139 [] h u k' ∧ ∃ (v₁ : V), v₁ = u ∧ Own (fun r => r < h.n) h k' [eSl e_T_api_Cell v₁ r] := by
  refine WC.is (WC_of G_F_muntinlaw16_square ?_)
  unfold p_muntinlaw16_square at hp
  let B : Nat → Prop := (fun r => r < h.n)
  have hO : Own B h h [] := Own.start0 h
  refine W_sq ?_
  refine W_rg ?_
  refine WO_v (a_mv (v := .sn) rfl) ?_
  refine WO_end ?_
  refine then_n ?_
  refine W_sq ?_
  refine W_rg ?_
  obtain ⟨x, hx₁, hp⟩ := bd_some hp
  obtain ⟨u₁, k₁, ca₁, v₂, rfl, hW₁⟩ := p_muntinref10_New.ok (h := h)   hx₁
  refine WO_c (id := 46) (caps := []) rfl (mp_cons (v := .i .i64 4) rfl mp_nil) ca₁ ?_
  have hO₁ : Own B h k₁ [eSl e_T_api_Cell v₂ x] := hO.call hW₁ rfl
  refine WO_v (a_mv (v := v₂) rfl) ?_
  refine WO_end ?_
  refine then_n ?_
  refine W_sq ?_
  refine W_rg ?_
  refine WO_v (a_mv (v := v₂) rfl) ?_
  obtain ⟨⟨x1, x2⟩, hx₂, hp⟩ := bd_some hp
  obtain ⟨u₂, k₂, ca₂, v₃, rfl, hW₂⟩ := p_muntinref10_Join.ok (h := k₁) (l := x) (v := 0) (d := 0) (w := 1) (o := 0) (hO₁.toM [0] rfl (by decide))  hx₂
  refine WO_c (id := 53) (caps := []) rfl (mp_cons (v := v₂) rfl (mp_cons (v := .i .i64 0) rfl (mp_cons (v := .i .i64 0) rfl (mp_cons (v := .i .i64 1) rfl (mp_cons (v := .i .i64 0) rfl mp_nil))))) ca₂ ?_
  have hO₂ : Own B h k₂ [eNone, eSl e_T_api_Cell v₃ x1] := (hO₁.callM [0] [] rfl rfl (by decide) hW₂ rfl).pick [900, 0] rfl (by decide)
  refine WO_v (a_mv (v := .tu [v₃, .i .i64 x2]) rfl) ?_
  refine WO_v (a_ext (vs := [v₃, .i .i64 x2]) (v := v₃) rfl rfl) ?_
  refine WO_v (a_ext (vs := [v₃, .i .i64 x2]) (v := .i .i64 x2) rfl rfl) ?_
  refine WO_v (a_mv (v := v₃) rfl) ?_
  refine WO_end ?_
  refine then_n ?_
  refine W_sq ?_
  refine W_rg ?_
  refine WO_v (a_mv (v := v₃) rfl) ?_
  obtain ⟨⟨x3, x4⟩, hx₃, hp⟩ := bd_some hp
  obtain ⟨u₃, k₃, ca₃, v₄, rfl, hW₃⟩ := p_muntinref10_Join.ok (h := k₂) (l := x1) (v := 1) (d := 1) (w := 2) (o := 0) (hO₂.toM [1] rfl (by decide))  hx₃
  refine WO_c (id := 53) (caps := []) rfl (mp_cons (v := v₃) rfl (mp_cons (v := .i .i64 1) rfl (mp_cons (v := .i .i64 1) rfl (mp_cons (v := .i .i64 2) rfl (mp_cons (v := .i .i64 0) rfl mp_nil))))) ca₃ ?_
  have hO₃ : Own B h k₃ [eNone, eNone, eSl e_T_api_Cell v₄ x3] := (hO₂.callM [1] [] rfl rfl (by decide) hW₃ rfl).pick [900, 901, 0] rfl (by decide)
  refine WO_v (a_mv (v := .tu [v₄, .i .i64 x4]) rfl) ?_
  refine WO_v (a_ext (vs := [v₄, .i .i64 x4]) (v := v₄) rfl rfl) ?_
  refine WO_v (a_ext (vs := [v₄, .i .i64 x4]) (v := .i .i64 x4) rfl rfl) ?_
  refine WO_v (a_mv (v := v₄) rfl) ?_
  refine WO_end ?_
  refine then_n ?_
  refine W_sq ?_
  refine W_rg ?_
  refine WO_v (a_mv (v := v₄) rfl) ?_
  obtain ⟨⟨x5, x6⟩, hx₄, hp⟩ := bd_some hp
  obtain ⟨u₄, k₄, ca₄, v₅, rfl, hW₄⟩ := p_muntinref10_Join.ok (h := k₃) (l := x3) (v := 2) (d := 2) (w := 3) (o := 0) (hO₃.toM [2] rfl (by decide))  hx₄
  refine WO_c (id := 53) (caps := []) rfl (mp_cons (v := v₄) rfl (mp_cons (v := .i .i64 2) rfl (mp_cons (v := .i .i64 2) rfl (mp_cons (v := .i .i64 3) rfl (mp_cons (v := .i .i64 0) rfl mp_nil))))) ca₄ ?_
  have hO₄ : Own B h k₄ [eNone, eNone, eNone, eSl e_T_api_Cell v₅ x5] := (hO₃.callM [2] [] rfl rfl (by decide) hW₄ rfl).pick [900, 901, 902, 0] rfl (by decide)
  refine WO_v (a_mv (v := .tu [v₅, .i .i64 x6]) rfl) ?_
  refine WO_v (a_ext (vs := [v₅, .i .i64 x6]) (v := v₅) rfl rfl) ?_
  refine WO_v (a_ext (vs := [v₅, .i .i64 x6]) (v := .i .i64 x6) rfl rfl) ?_
  refine WO_v (a_mv (v := v₅) rfl) ?_
  refine WO_end ?_
  refine then_n ?_
  refine W_sq ?_
  refine W_rg ?_
  refine WO_v (a_mv (v := v₅) rfl) ?_
  obtain ⟨⟨x7, x8⟩, hx₅, hp⟩ := bd_some hp
  obtain ⟨u₅, k₅, ca₅, v₆, rfl, hW₅⟩ := p_muntinref10_Join.ok (h := k₄) (l := x5) (v := 3) (d := 3) (w := 0) (o := 0) (hO₄.toM [3] rfl (by decide))  hx₅
  refine WO_c (id := 53) (caps := []) rfl (mp_cons (v := v₅) rfl (mp_cons (v := .i .i64 3) rfl (mp_cons (v := .i .i64 3) rfl (mp_cons (v := .i .i64 0) rfl (mp_cons (v := .i .i64 0) rfl mp_nil))))) ca₅ ?_
  have hO₅ : Own B h k₅ [eNone, eNone, eNone, eNone, eSl e_T_api_Cell v₆ x7] := (hO₄.callM [3] [] rfl rfl (by decide) hW₅ rfl).pick [900, 901, 902, 903, 0] rfl (by decide)
  refine WO_v (a_mv (v := .tu [v₆, .i .i64 x8]) rfl) ?_
  refine WO_v (a_ext (vs := [v₆, .i .i64 x8]) (v := v₆) rfl rfl) ?_
  refine WO_v (a_ext (vs := [v₆, .i .i64 x8]) (v := .i .i64 x8) rfl rfl) ?_
  refine WO_v (a_mv (v := v₆) rfl) ?_
  refine WO_end ?_
  refine then_n ?_
  refine W_sq ?_
  refine W_rg ?_
  refine WO_v (a_mv (v := v₆) rfl) ?_
  refine WO_v (a_mv (v := v₆) rfl) ?_
  refine WO_end ?_
  refine then_n ?_
  refine W_rt ?_
  refine Ret_r (rs_t (n := 0) (v := v₆) rfl rs_nil) ?_
  have hp := Option.some.inj hp; subst hp
  exact (Exists.intro v₆ (And.intro rfl (hO₅.pick [4] rfl (by decide))))

theorem p_seg_Chains_chain.ok {h : Hp} {B0 : Nat → Prop} {h0 : Hp} {c : T_seg_Chains} {vertical : Bool} {i : Int} {v_c_X : V} {v_c_Y : V} {v_c_Vert : V} {vs_c_Vert : List V} {v_c_Horz : V} {vs_c_Horz : List V} (HO : Own B0 h0 h []) (S_c_X : Rd B0 h0 eInt v_c_X c.X) (S_c_Y : Rd B0 h0 eInt v_c_Y c.Y) (SN_c_Vert : Rd B0 h0 eV v_c_Vert vs_c_Vert) (lN_c_Vert : vs_c_Vert.length = c.Vert.length) (IN_c_Vert : ∀ j, j < c.Vert.length → Rd B0 h0 eInt (gi vs_c_Vert j) (gi c.Vert j)) (SN_c_Horz : Rd B0 h0 eV v_c_Horz vs_c_Horz) (lN_c_Horz : vs_c_Horz.length = c.Horz.length) (IN_c_Horz : ∀ j, j < c.Horz.length → Rd B0 h0 eInt (gi vs_c_Horz j) (gi c.Horz j)) {r : (List Int)} (hp : p_seg_Chains_chain c vertical i = some r) :
    ∃ u k', Is G 140 [.ag [v_c_X, v_c_Y, v_c_Vert, v_c_Horz], .b vertical, .i .i64 i] h u k' ∧ ∃ (v₁ : V), v₁ = u ∧ Rd B0 h0 eInt v₁ r ∧ Own (fun r => r < h.n) h k' [] := by
  refine WC.is (WC_of G_F_seg_Chains_chain ?_)
  unfold p_seg_Chains_chain at hp
  let B : Nat → Prop := (fun r => r < h.n)
  have hO : Own B h h [] := Own.start0 h
  refine W_sq ?_
  refine W_rg ?_
  refine WO_x (hO.boxd (v := .ag [v_c_X, v_c_Y, v_c_Vert, v_c_Horz]) (cs := [v_c_X, v_c_Y, v_c_Vert, v_c_Horz]) hO.fr rfl rfl) ?_
  rintro _ k₁ ⟨r₁, rfl, n₁, f₁, hW⟩
  have hO₁ : Own B h k₁ [eBox r₁ [v_c_X, v_c_Y, v_c_Vert, v_c_Horz]] := hW
  refine WO_v (a_mv (v := .sn) rfl) ?_
  refine WO_end ?_
  refine then_n ?_
  refine W_sq ?_
  refine W_rg ?_
  refine WO_v (a_fa (r := r₁) (o := 0) (o' := 3) rfl rfl) ?_
  refine WO_v (a_ldb (cs := [v_c_X, v_c_Y, v_c_Vert, v_c_Horz]) (v := v_c_Horz) (hO₁.box 0 rfl) rfl rfl) ?_
  refine WO_v (a_mv (v := v_c_Horz) rfl) ?_
  refine WO_end ?_
  refine then_n ?_
  refine W_sq ?_
  refine W_sq ?_
  refine W_rg ?_
  refine WO_v (a_mv (v := .b vertical) rfl) ?_
  refine WO_end ?_
  refine then_n ?_
  obtain ⟨o₁, ho₁, hp⟩ := bd_some hp
  refine W.mono (Q := fun e fr k => match (generalizing := false) o₁ with
      | l => e = .normal ∧ ∃ (v₂ : V), ∃ (vs₁ : List V), fr 2 = .i .i64 i ∧ fr 7 = v₂ ∧ Rd B0 h0 eV v₂ vs₁ ∧ vs₁.length = l.length ∧ (∀ j, j < l.length → Rd B0 h0 eInt (gi vs₁ j) (gi l j)) ∧ Own B h k []) ?_ ?_
  · clear hp; have hp := ho₁; clear ho₁
    rcases if_some hp with ⟨b₁, hp⟩ | ⟨b₁, hp⟩
    · refine W_cT (t := vertical) rfl b₁ ?_
      refine W_rg ?_
      refine WO_v (a_fa (r := r₁) (o := 0) (o' := 2) rfl rfl) ?_
      refine WO_v (a_ldb (cs := [v_c_X, v_c_Y, v_c_Vert, v_c_Horz]) (v := v_c_Vert) (hO₁.box 0 rfl) rfl rfl) ?_
      refine WO_v (a_mv (v := v_c_Vert) rfl) ?_
      refine WO_end ?_
      have hp := Option.some.inj hp; subst hp
      exact (And.intro rfl (Exists.intro v_c_Vert (Exists.intro vs_c_Vert (And.intro (rfl) (And.intro (rfl) (And.intro (SN_c_Vert) (And.intro lN_c_Vert (And.intro (fun j hj => ((IN_c_Vert j hj))) (hO₁.pick [] rfl (by decide))))))))))
    · refine W_cF (t := vertical) rfl b₁ ?_
      refine W_sk ?_
      have hp := Option.some.inj hp; subst hp
      exact (And.intro rfl (Exists.intro v_c_Horz (Exists.intro vs_c_Horz (And.intro (rfl) (And.intro (rfl) (And.intro (SN_c_Horz) (And.intro lN_c_Horz (And.intro (fun j hj => ((IN_c_Horz j hj))) (hO₁.pick [] rfl (by decide))))))))))
  intro e₁ q₁ k₂ hJ₁
  obtain ⟨l, rfl⟩ : ∃ x, x = o₁ := ⟨_, rfl⟩
  obtain ⟨rfl, v₂, vs₁, q₁_2, q₁_7, s₁, sl₁, si₁, hO₂⟩ := hJ₁
  refine then_n ?_
  refine W_sq ?_
  refine W_sq ?_
  refine W_rg ?_
  refine WO_v (a_mv (v := .i .i64 i) q₁_2) ?_
  refine WO_v (a_lss (a := i) (b := 0) rfl rfl) ?_
  refine WO_v (a_mv (v := .b (decide (i < 0))) rfl) ?_
  refine WO_cut 5 (fun fr' k' => k₂ = k' ∧ fr' 20 = .b ((decide (i < 0)) || (decide ((l.length : Int) ≤ i))) ∧ fr' 2 = .i .i64 i ∧ fr' 7 = v₂) ?_ ?_
  · rcases bc (decide (i < 0)) with b₂ | b₂
    · skip
      refine WO_off rfl b₂ ?_
      refine WO_off rfl b₂ ?_
      refine WO_off rfl b₂ ?_
      refine WO_off rfl b₂ ?_
      refine WO_v (a_pickT (t := (decide (i < 0))) (v := .b ((decide (i < 0)) || (decide ((l.length : Int) ≤ i)))) rfl b₂ (Eq.trans (b := V.b true) rfl (or_off b₂))) ?_
      refine WO_end ?_
      exact ⟨rfl, rfl, q₁_2, q₁_7⟩
    · skip
      refine WO_on rfl b₂ ?_
      refine WO_v (a_mv (v := .i .i64 i) q₁_2) ?_
      refine WO_on rfl b₂ ?_
      refine WO_v (a_mv (v := v₂) q₁_7) ?_
      refine WO_on rfl b₂ ?_
      refine WO_v (a_lenN (n := (l).length) (hO₂.rd0 (Rd.via HO s₁) : Sl eV k₂ v₂ vs₁) sl₁ rfl) ?_
      refine WO_on rfl b₂ ?_
      refine WO_v (a_geq (a := i) (b := (l.length : Int)) rfl rfl) ?_
      refine WO_v (a_pickF (t := (decide (i < 0))) (v := .b ((decide (i < 0)) || (decide ((l.length : Int) ≤ i)))) rfl b₂ (Eq.trans (b := V.b (decide ((l.length : Int) ≤ i))) rfl (or_on b₂))) ?_
      refine WO_end ?_
      exact ⟨rfl, rfl, q₁_2, q₁_7⟩
  rintro frg₁ _ ⟨rfl, g₁_20, g₁_2, g₁_7⟩
  refine WO_end ?_
  refine then_n ?_
  rcases if_some hp with ⟨b₃, hp⟩ | ⟨b₃, hp⟩
  · refine W_cT (t := ((decide (i < 0)) || (decide ((l.length : Int) ≤ i)))) g₁_20 b₃ ?_
    refine W_sq ?_
    refine W_rg ?_
    refine WO_v (a_mv (v := .sn) rfl) ?_
    refine WO_end ?_
    refine then_n ?_
    refine W_rt ?_
    refine then_r ?_
    refine Ret_r (rs_t (n := 6) (v := .sn) rfl rs_nil) ?_
    have hp := Option.some.inj hp; subst hp
    exact (Exists.intro V.sn (And.intro rfl (And.intro (fun _ _ => Sl.nil) (hO₂.pick [] rfl (by decide)))))
  · refine W_cF (t := ((decide (i < 0)) || (decide ((l.length : Int) ≤ i)))) g₁_20 b₃ ?_
    refine W_sk ?_
    refine then_n ?_
    refine W_sq ?_
    refine W_rg ?_
    refine WO_v (a_mv (v := v₂) g₁_7) ?_
    refine WO_v (a_mv (v := .i .i64 i) g₁_2) ?_
    obtain ⟨c₁, hp⟩ := ck_some hp
    refine WO_v (a_ixa (E := eV) (z := i) (hO₂.rd0 (Rd.via HO s₁) : Sl eV k₂ v₂ vs₁) rfl rfl (by rw [sl₁]; exact c₁)) ?_
    refine WO_v (a_ldE (w := (gi vs₁ (i : Int).toNat)) (hO₂.rd0 (Rd.via HO s₁) : Sl eV k₂ v₂ vs₁) rfl (by rw [sl₁]; exact toNat_lt c₁) rfl) ?_
    refine WO_v (a_mv (v := (gi vs₁ (i : Int).toNat)) rfl) ?_
    refine WO_end ?_
    refine then_n ?_
    refine W_rt ?_
    refine Ret_r (rs_t (n := 6) (v := (gi vs₁ (i : Int).toNat)) rfl rs_nil) ?_
    have hp := Option.some.inj hp; subst hp
    exact (Exists.intro (gi vs₁ (i : Int).toNat) (And.intro rfl (And.intro ((fun j hj => ((si₁ j hj))) _ (toNat_lt c₁)) (hO₂.pick [] rfl (by decide)))))

theorem p_seg_Chains_Span.ok {h : Hp} {c : T_seg_Chains} {vertical : Bool} {i : Int} {v_c_X : V} {v_c_Y : V} {v_c_Vert : V} {vs_c_Vert : List V} {v_c_Horz : V} {vs_c_Horz : List V} (s_c_X : Sl eInt h v_c_X c.X) (s_c_Y : Sl eInt h v_c_Y c.Y) (sN_c_Vert : Sl eV h v_c_Vert vs_c_Vert) (lN_c_Vert : vs_c_Vert.length = c.Vert.length) (iN_c_Vert : ∀ j, j < c.Vert.length → Sl eInt h (gi vs_c_Vert j) (gi c.Vert j)) (sN_c_Horz : Sl eV h v_c_Horz vs_c_Horz) (lN_c_Horz : vs_c_Horz.length = c.Horz.length) (iN_c_Horz : ∀ j, j < c.Horz.length → Sl eInt h (gi vs_c_Horz j) (gi c.Horz j)) {r : Int × Int} (hp : p_seg_Chains_Span c vertical i = some r) :
    ∃ u k', Is G 126 [.ag [v_c_X, v_c_Y, v_c_Vert, v_c_Horz], .b vertical, .i .i64 i] h u k' ∧ V.tu [.i .i64 r.1, .i .i64 r.2] = u ∧ Own (fun r => r < h.n) h k' [] := by
  refine WC.is (WC_of G_F_seg_Chains_Span ?_)
  unfold p_seg_Chains_Span at hp
  let B : Nat → Prop := (fun r => r < h.n)
  have hO : Own B h h [] := Own.start0 h
  refine W_sq ?_
  refine W_rg ?_
  refine WO_x (hO.boxd (v := .ag [v_c_X, v_c_Y, v_c_Vert, v_c_Horz]) (cs := [v_c_X, v_c_Y, v_c_Vert, v_c_Horz]) hO.fr rfl rfl) ?_
  rintro _ k₁ ⟨r₁, rfl, n₁, f₁, hW⟩
  have hO₁ : Own B h k₁ [eBox r₁ [v_c_X, v_c_Y, v_c_Vert, v_c_Horz]] := hW
  refine WO_v (a_mv (v := .i .i64 0) rfl) ?_
  refine WO_v (a_mv (v := .i .i64 0) rfl) ?_
  refine WO_end ?_
  refine then_n ?_
  refine W_sq ?_
  refine W_rg ?_
  refine WO_v (a_ldbA (cs := [v_c_X, v_c_Y, v_c_Vert, v_c_Horz]) (ws := [v_c_X, v_c_Y, v_c_Vert, v_c_Horz]) (hO₁.box 0 rfl) rfl rfl) ?_
  refine WO_v (a_mv (v := .b vertical) rfl) ?_
  refine WO_v (a_mv (v := .i .i64 i) rfl) ?_
  obtain ⟨x, hx₁, hp⟩ := bd_some hp
  obtain ⟨u₁, k₂, ca₁, v₁, rfl, hb₁, hW₁⟩ := p_seg_Chains_chain.ok (h := k₁)  (hO₁.pick [] rfl (by decide)) s_c_X.rd s_c_Y.rd sN_c_Vert.rd lN_c_Vert (fun j hj => (iN_c_Vert j hj).rd) sN_c_Horz.rd lN_c_Horz (fun j hj => (iN_c_Horz j hj).rd) hx₁
  refine WO_c (id := 140) (caps := []) rfl (mp_cons (v := .ag [v_c_X, v_c_Y, v_c_Vert, v_c_Horz]) rfl (mp_cons (v := .b vertical) rfl (mp_cons (v := .i .i64 i) rfl mp_nil))) ca₁ ?_
  have hO₂ : Own B h k₂ [eBox r₁ [v_c_X, v_c_Y, v_c_Vert, v_c_Horz]] := hO₁.call hW₁ rfl
  refine WO_v (a_mv (v := v₁) rfl) ?_
  refine WO_end ?_
  refine then_n ?_
  refine W_sq ?_
  refine W_sq ?_
  refine W_rg ?_
  refine WO_v (a_mv (v := v₁) rfl) ?_
  refine WO_v (a_len (hO₂.rd0 hb₁ : Sl eInt k₂ v₁ x) rfl) ?_
  refine WO_v (a_eqI (a := (x.length : Int)) (b := 0) rfl rfl) ?_
  refine WO_end ?_
  refine then_n ?_
  rcases if_some hp with ⟨b₁, hp⟩ | ⟨b₁, hp⟩
  · refine W_cT (t := (decide ((x.length : Int) = 0))) rfl b₁ ?_
    refine W_sq ?_
    refine W_rg ?_
    refine WO_v (a_mv (v := .i .i64 0) rfl) ?_
    refine WO_v (a_mv (v := .i .i64 0) rfl) ?_
    refine WO_end ?_
    refine then_n ?_
    refine W_rt ?_
    refine then_r ?_
    refine Ret_r (rs_t (n := 6) (v := .i .i64 0) rfl (rs_t (n := 7) (v := .i .i64 0) rfl rs_nil)) ?_
    have hp := Option.some.inj hp; subst hp
    exact (And.intro rfl (hO₂.pick [] rfl (by decide)))
  · refine W_cF (t := (decide ((x.length : Int) = 0))) rfl b₁ ?_
    refine W_sk ?_
    refine then_n ?_
    refine W_sq ?_
    refine W_rg ?_
    refine WO_v (a_fa (r := r₁) (o := 0) (o' := 0) rfl rfl) ?_
    refine WO_v (a_ldb (cs := [v_c_X, v_c_Y, v_c_Vert, v_c_Horz]) (v := v_c_X) (hO₂.box 0 rfl) rfl rfl) ?_
    refine WO_v (a_mv (v := v_c_X) rfl) ?_
    refine WO_end ?_
    refine then_n ?_
    refine W_sq ?_
    refine W_sq ?_
    refine W_rg ?_
    refine WO_v (a_mv (v := .b vertical) rfl) ?_
    refine WO_end ?_
    refine then_n ?_
    obtain ⟨o₁, ho₁, hp⟩ := bd_some hp
    refine W.mono (Q := fun e fr k => match (generalizing := false) o₁ with
        | of => e = .normal ∧ ∃ (v₂ : V), fr 8 = v₁ ∧ fr 9 = v₂ ∧ Rd B h eInt v₂ of ∧ Own B h k []) ?_ ?_
    · clear hp; have hp := ho₁; clear ho₁
      rcases if_some hp with ⟨b₂, hp⟩ | ⟨b₂, hp⟩
      · refine W_cT (t := vertical) rfl b₂ ?_
        refine W_rg ?_
        refine WO_v (a_fa (r := r₁) (o := 0) (o' := 1) rfl rfl) ?_
        refine WO_v (a_ldb (cs := [v_c_X, v_c_Y, v_c_Vert, v_c_Horz]) (v := v_c_Y) (hO₂.box 0 rfl) rfl rfl) ?_
        refine WO_v (a_mv (v := v_c_Y) rfl) ?_
        refine WO_end ?_
        have hp := Option.some.inj hp; subst hp
        exact (And.intro rfl (Exists.intro v_c_Y (And.intro (rfl) (And.intro (rfl) (And.intro s_c_Y.rd (hO₂.pick [] rfl (by decide)))))))
      · refine W_cF (t := vertical) rfl b₂ ?_
        refine W_sk ?_
        have hp := Option.some.inj hp; subst hp
        exact (And.intro rfl (Exists.intro v_c_X (And.intro (rfl) (And.intro (rfl) (And.intro s_c_X.rd (hO₂.pick [] rfl (by decide)))))))
    intro e₁ q₁ k₃ hJ₁
    obtain ⟨of, rfl⟩ : ∃ x, x = o₁ := ⟨_, rfl⟩
    obtain ⟨rfl, v₂, q₁_8, q₁_9, s₁, hO₃⟩ := hJ₁
    refine then_n ?_
    refine W_sq ?_
    refine W_qd ?_
    have hW := hO₃.bump 17
    have hO₄ : Own B h (k₃.bump 17) [] := hW
    refine WQ_v rfl (a_mv (v := v₂) q₁_9) ?_
    refine WQ_v rfl (a_mv (v := v₁) q₁_8) ?_
    obtain ⟨c₁, hp⟩ := ck_some hp
    refine WQ_v rfl (a_ixa (E := eInt) (z := 0) (hO₄.rd0 hb₁ : Sl eInt (k₃.bump 17) v₁ x) rfl rfl c₁) ?_
    refine WQ_v rfl (a_ldE (w := .i .i64 (gi x (0 : Int).toNat)) (hO₄.rd0 hb₁ : Sl eInt (k₃.bump 17) v₁ x) rfl (toNat_lt c₁) rfl) ?_
    obtain ⟨c₂, hp⟩ := ck_some hp
    refine WQ_v rfl (a_ixa (E := eInt) (z := (gi x (0 : Int).toNat)) (hO₄.rd0 s₁ : Sl eInt (k₃.bump 17) v₂ of) rfl rfl c₂) ?_
    refine WQ_v rfl (a_ldE (w := .i .i64 (gi of (gi x (0 : Int).toNat : Int).toNat)) (hO₄.rd0 s₁ : Sl eInt (k₃.bump 17) v₂ of) rfl (toNat_lt c₂) rfl) ?_
    refine WQ_v rfl (a_mv (v := v₂) q₁_9) ?_
    refine WQ_v rfl (a_mv (v := v₁) q₁_8) ?_
    refine WQ_v rfl (a_mv (v := v₁) q₁_8) ?_
    refine WQ_v rfl (a_len (hO₄.rd0 hb₁ : Sl eInt (k₃.bump 17) v₁ x) rfl) ?_
    obtain ⟨c₃, hp⟩ := ck_some hp
    refine WQ_v rfl (a_sub (a := (x.length : Int)) (b := 1) rfl rfl c₃) ?_
    obtain ⟨c₄, hp⟩ := ck_some hp
    refine WQ_v rfl (a_ixa (E := eInt) (z := ((x.length : Int) - 1)) (hO₄.rd0 hb₁ : Sl eInt (k₃.bump 17) v₁ x) rfl rfl c₄) ?_
    refine WQ_v rfl (a_ldE (w := .i .i64 (gi x ((x.length : Int) - 1 : Int).toNat)) (hO₄.rd0 hb₁ : Sl eInt (k₃.bump 17) v₁ x) rfl (toNat_lt c₄) rfl) ?_
    obtain ⟨c₅, hp⟩ := ck_some hp
    refine WQ_v rfl (a_ixa (E := eInt) (z := (gi x ((x.length : Int) - 1 : Int).toNat)) (hO₄.rd0 s₁ : Sl eInt (k₃.bump 17) v₂ of) rfl rfl c₅) ?_
    refine WQ_v rfl (a_ldE (w := .i .i64 (gi of (gi x ((x.length : Int) - 1 : Int).toNat : Int).toNat)) (hO₄.rd0 s₁ : Sl eInt (k₃.bump 17) v₂ of) rfl (toNat_lt c₅) rfl) ?_
    refine WQ_v rfl (a_mv (v := .i .i64 (gi of (gi x (0 : Int).toNat : Int).toNat)) rfl) ?_
    refine WQ_v rfl (a_mv (v := .i .i64 (gi of (gi x ((x.length : Int) - 1 : Int).toNat : Int).toNat)) rfl) ?_
    refine WQ_end ?_
    refine then_n ?_
    refine W_rt ?_
    refine Ret_r (rs_t (n := 6) (v := .i .i64 (gi of (gi x (0 : Int).toNat : Int).toNat)) rfl (rs_t (n := 7) (v := .i .i64 (gi of (gi x ((x.length : Int) - 1 : Int).toNat : Int).toNat)) rfl rs_nil)) ?_
    have hp := Option.some.inj hp; subst hp
    exact (And.intro rfl (hO₄.pick [] rfl (by decide)))

theorem p_slices_Equal_int.ok {h : Hp} {s1 : List Int} {s2 : List Int} {v_s1 : V} {v_s2 : V} (s_s1 : Sl eInt h v_s1 s1) (s_s2 : Sl eInt h v_s2 s2) {r : Bool} (hp : p_slices_Equal_int s1 s2 = some r) :
    ∃ u k', Is G 33 [v_s1, v_s2] h u k' ∧ V.b r = u ∧ Own (fun r => r < h.n) h k' [] := by
  refine WC.is (WC_of G_F_slices_Equal_int ?_)
  unfold p_slices_Equal_int at hp
  let B : Nat → Prop := (fun r => r < h.n)
  have hO : Own B h h [] := Own.start0 h
  refine W_sq ?_
  refine W_rg ?_
  refine WO_v (a_mv (v := .b false) rfl) ?_
  refine WO_end ?_
  refine then_n ?_
  refine W_sq ?_
  refine W_sq ?_
  refine W_rg ?_
  refine WO_v (a_mv (v := v_s1) rfl) ?_
  refine WO_v (a_len (hO.rd0 s_s1.rd : Sl eInt h v_s1 s1) rfl) ?_
  refine WO_v (a_mv (v := v_s2) rfl) ?_
  refine WO_v (a_len (hO.rd0 s_s2.rd : Sl eInt h v_s2 s2) rfl) ?_
  refine WO_v (a_neI (a := (s1.length : Int)) (b := (s2.length : Int)) rfl rfl) ?_
  refine WO_end ?_
  refine then_n ?_
  rcases if_some hp with ⟨b₁, hp⟩ | ⟨b₁, hp⟩
  · refine W_cT (t := (!(decide ((s1.length : Int) = (s2.length : Int))))) rfl b₁ ?_
    refine W_sq ?_
    refine W_rg ?_
    refine WO_v (a_mv (v := .b false) rfl) ?_
    refine WO_end ?_
    refine then_n ?_
    refine W_rt ?_
    refine then_r ?_
    refine Ret_r (rs_t (n := 4) (v := .b false) rfl rs_nil) ?_
    have hp := Option.some.inj hp; subst hp
    exact (And.intro rfl (hO.pick [] rfl (by decide)))
  · refine W_cF (t := (!(decide ((s1.length : Int) = (s2.length : Int))))) rfl b₁ ?_
    refine W_sk ?_
    refine then_n ?_
    refine W_sq ?_
    refine W_sq ?_
    refine W_rg ?_
    refine WO_v (a_mv (v := v_s1) rfl) ?_
    refine WO_v (a_len (hO.rd0 s_s1.rd : Sl eInt h v_s1 s1) rfl) ?_
    refine WO_v (a_mv (v := .i .i64 0) rfl) ?_
    refine WO_end ?_
    refine then_n ?_
    refine W_bl ?_
    obtain ⟨o₁, ho₁, hp⟩ := bd_some hp
    refine W.mono (Q := fun e fr k => match (generalizing := false) o₁ with
        | .inl _ => e = (.exit 0) ∧ Own B h k []
        | .inr _ => e = .ret ∧ fr 4 = .b false ∧ Own B h k []) ?_ ?_
    · clear hp
      refine W_loopF (fun st fr k => match st with | x => fr 0 = v_s1 ∧ fr 1 = v_s2 ∧ fr 12 = .i .i64 (s1.length : Int) ∧ fr 13 = .i .i64 x ∧ Own B h k []) ho₁ (s := 0) (And.intro (rfl) (And.intro (rfl) (And.intro (rfl) (And.intro (rfl) (hO.pick [] rfl (by decide)))))) ?_
      rintro x q₂ k₂ ⟨q₂_0, q₂_1, q₂_12, q₂_13, hO₂⟩ o₂ hp
      dsimp only [p_slices_Equal_int.s0] at hp
      refine W_sq ?_
      refine W_rg ?_
      refine WO_v (a_lss (a := x) (b := (s1.length : Int)) q₂_13 q₂_12) ?_
      refine WO_end ?_
      refine then_n ?_
      refine W_sq ?_
      rcases if_some hp with ⟨b₂, hp⟩ | ⟨b₂, hp⟩
      · refine W_cT (t := (decide (x < (s1.length : Int)))) rfl b₂ ?_
        refine W_sk ?_
        refine then_n ?_
        refine W_sq ?_
        refine W_bl ?_
        refine W_sq ?_
        refine W_rg ?_
        refine WO_v (a_mv (v := .i .i64 x) q₂_13) ?_
        refine WO_v (a_mv (v := .i .i64 x) rfl) ?_
        refine WO_end ?_
        refine then_n ?_
        refine W_sq ?_
        refine W_qd ?_
        have hW := hO₂.bump 9
        have hO₃ : Own B h (k₂.bump 9) [] := hW
        refine WQ_v rfl (a_mv (v := v_s1) q₂_0) ?_
        refine WQ_v rfl (a_mv (v := .i .i64 x) rfl) ?_
        obtain ⟨c₁, hp⟩ := ck_some hp
        refine WQ_v rfl (a_ixa (E := eInt) (z := x) (hO₃.rd0 s_s1.rd : Sl eInt (k₂.bump 9) v_s1 s1) rfl rfl c₁) ?_
        refine WQ_v rfl (a_ldE (w := .i .i64 (gi s1 (x : Int).toNat)) (hO₃.rd0 s_s1.rd : Sl eInt (k₂.bump 9) v_s1 s1) rfl (toNat_lt c₁) rfl) ?_
        refine WQ_v rfl (a_mv (v := v_s2) q₂_1) ?_
        refine WQ_v rfl (a_mv (v := .i .i64 x) rfl) ?_
        obtain ⟨c₂, hp⟩ := ck_some hp
        refine WQ_v rfl (a_ixa (E := eInt) (z := x) (hO₃.rd0 s_s2.rd : Sl eInt (k₂.bump 9) v_s2 s2) rfl rfl c₂) ?_
        refine WQ_v rfl (a_ldE (w := .i .i64 (gi s2 (x : Int).toNat)) (hO₃.rd0 s_s2.rd : Sl eInt (k₂.bump 9) v_s2 s2) rfl (toNat_lt c₂) rfl) ?_
        refine WQ_v rfl (a_neI (a := (gi s1 (x : Int).toNat)) (b := (gi s2 (x : Int).toNat)) rfl rfl) ?_
        refine WQ_end ?_
        refine then_n ?_
        rcases if_some hp with ⟨b₃, hp⟩ | ⟨b₃, hp⟩
        · refine W_cT (t := (!(decide (gi s1 (x : Int).toNat = gi s2 (x : Int).toNat)))) rfl b₃ ?_
          refine W_sq ?_
          refine W_rg ?_
          refine WO_v (a_mv (v := .b false) rfl) ?_
          refine WO_end ?_
          refine then_n ?_
          refine W_rt ?_
          refine blk_r ?_
          refine then_r ?_
          have hp := Option.some.inj hp; subst hp
          refine (Or.inr (Exists.intro (.inr ()) (And.intro rfl (And.intro (fun h => nomatch h) (fun he => ?_)))))
          subst he; exact (And.intro rfl (And.intro (rfl) (hO₃.pick [] rfl (by decide))))
        · refine W_cF (t := (!(decide (gi s1 (x : Int).toNat = gi s2 (x : Int).toNat)))) rfl b₃ ?_
          refine W_sk ?_
          refine blk_n ?_
          refine then_n ?_
          refine W_rg ?_
          obtain ⟨c₃, hp⟩ := ck_some hp
          refine WO_v (a_add (a := x) (b := 1) q₂_13 rfl c₃) ?_
          refine WO_v (a_mv (v := .i .i64 (x + 1)) rfl) ?_
          refine WO_end ?_
          have hp := Option.some.inj hp; subst hp
          exact (Or.inl (Exists.intro (x + 1) (And.intro rfl (And.intro rfl (And.intro (q₂_0) (And.intro (q₂_1) (And.intro (q₂_12) (And.intro (rfl) (hO₃.pick [] rfl (by decide))))))))))
      · refine W_cF (t := (decide (x < (s1.length : Int)))) rfl b₂ ?_
        refine W_ex ?_
        refine then_e ?_
        have hp := Option.some.inj hp; subst hp
        refine (Or.inr (Exists.intro (.inl ()) (And.intro rfl (And.intro (fun h => nomatch h) (fun he => ?_)))))
        subst he; exact (And.intro rfl (hO₂.pick [] rfl (by decide)))
    intro e₁ q₁ k₁ hJ₁
    rcases o₁ with _ | _
    · obtain ⟨rfl, hO₁⟩ := hJ₁
      refine blk_i ?_
      refine then_n ?_
      refine W_sq ?_
      refine W_rg ?_
      refine WO_v (a_mv (v := .b true) rfl) ?_
      refine WO_end ?_
      refine then_n ?_
      refine W_rt ?_
      refine Ret_r (rs_t (n := 4) (v := .b true) rfl rs_nil) ?_
      have hp := Option.some.inj hp; subst hp
      exact (And.intro rfl (hO₁.pick [] rfl (by decide)))
    · obtain ⟨rfl, q₁_4, hO₁⟩ := hJ₁
      refine blk_r ?_
      refine then_r ?_
      refine Ret_r (rs_t (n := 4) (v := .b false) q₁_4 rs_nil) ?_
      have hp := Option.some.inj hp; subst hp
      exact (And.intro rfl (hO₁.pick [] rfl (by decide)))

theorem p_slices_IndexFunc_int.ok {h : Hp} {s : List Int} {f : Int → Option Bool} {v_s : V} {id_f : Nat} {cap_f : List V} (s_s : Sl eInt h v_s s) (f_f : ∀ (k : Hp) (x0 : Int) (y : Bool), Ex' (fun r => r < h.n) h k → f x0 = some y → ∃ u k', Is G id_f (.i .i64 x0 :: cap_f) k u k' ∧ V.b y = u ∧ Own (fun r => r < k.n) k k' []) {r : Int} (hp : p_slices_IndexFunc_int s f = some r) :
    ∃ u k', Is G 91 [v_s, .f id_f cap_f] h u k' ∧ V.i .i64 r = u ∧ Own (fun r => r < h.n) h k' [] := by
  refine WC.is (WC_of G_F_slices_IndexFunc_int ?_)
  unfold p_slices_IndexFunc_int at hp
  let B : Nat → Prop := (fun r => r < h.n)
  have hO : Own B h h [] := Own.start0 h
  refine W_sq ?_
  refine W_rg ?_
  refine WO_v (a_mv (v := .i .i64 0) rfl) ?_
  refine WO_end ?_
  refine then_n ?_
  refine W_sq ?_
  refine W_sq ?_
  refine W_rg ?_
  refine WO_v (a_mv (v := v_s) rfl) ?_
  refine WO_v (a_len (hO.rd0 s_s.rd : Sl eInt h v_s s) rfl) ?_
  refine WO_v (a_mv (v := .i .i64 0) rfl) ?_
  refine WO_end ?_
  refine then_n ?_
  refine W_bl ?_
  obtain ⟨o₁, ho₁, hp⟩ := bd_some hp
  refine W.mono (Q := fun e fr k => match (generalizing := false) o₁ with
      | .inl _ => e = (.exit 0) ∧ Own B h k []
      | .inr x1 => e = .ret ∧ fr 4 = .i .i64 x1 ∧ Own B h k []) ?_ ?_
  · clear hp
    refine W_loopF (fun st fr k => match st with | x => fr 0 = v_s ∧ fr 1 = .f id_f cap_f ∧ fr 7 = .i .i64 (s.length : Int) ∧ fr 8 = .i .i64 x ∧ Own B h k []) ho₁ (s := 0) (And.intro (rfl) (And.intro (rfl) (And.intro (rfl) (And.intro (rfl) (hO.pick [] rfl (by decide)))))) ?_
    rintro x q₂ k₂ ⟨q₂_0, q₂_1, q₂_7, q₂_8, hO₂⟩ o₂ hp
    dsimp only [p_slices_IndexFunc_int.s0] at hp
    refine W_sq ?_
    refine W_rg ?_
    refine WO_v (a_lss (a := x) (b := (s.length : Int)) q₂_8 q₂_7) ?_
    refine WO_end ?_
    refine then_n ?_
    refine W_sq ?_
    rcases if_some hp with ⟨b₁, hp⟩ | ⟨b₁, hp⟩
    · refine W_cT (t := (decide (x < (s.length : Int)))) rfl b₁ ?_
      refine W_sk ?_
      refine then_n ?_
      refine W_sq ?_
      refine W_bl ?_
      refine W_sq ?_
      refine W_rg ?_
      refine WO_v (a_mv (v := .i .i64 x) q₂_8) ?_
      refine WO_v (a_mv (v := .i .i64 x) rfl) ?_
      refine WO_end ?_
      refine then_n ?_
      refine W_sq ?_
      refine W_rg ?_
      refine WO_v (a_mv (v := .f id_f cap_f) q₂_1) ?_
      refine WO_v (a_mv (v := v_s) q₂_0) ?_
      refine WO_v (a_mv (v := .i .i64 x) rfl) ?_
      obtain ⟨c₁, hp⟩ := ck_some hp
      refine WO_v (a_ixa (E := eInt) (z := x) (hO₂.rd0 s_s.rd : Sl eInt k₂ v_s s) rfl rfl c₁) ?_
      refine WO_v (a_ldE (w := .i .i64 (gi s (x : Int).toNat)) (hO₂.rd0 s_s.rd : Sl eInt k₂ v_s s) rfl (toNat_lt c₁) rfl) ?_
      obtain ⟨x2, hx₁, hp⟩ := bd_some hp
      obtain ⟨u₁, k₃, ca₁, rfl, hW₁⟩ := f_f _ _ _ hO₂.ext hx₁
      refine WO_c (id := id_f) (caps := cap_f) rfl (mp_cons (v := .i .i64 (gi s (x : Int).toNat)) rfl mp_nil) ca₁ ?_
      have hO₃ : Own B h k₃ [] := hO₂.call hW₁ rfl
      refine WO_end ?_
      refine then_n ?_
      rcases if_some hp with ⟨b₂, hp⟩ | ⟨b₂, hp⟩
      · refine W_cT (t := x2) rfl b₂ ?_
        refine W_sq ?_
        refine W_rg ?_
        refine WO_v (a_mv (v := .i .i64 x) rfl) ?_
        refine WO_v (a_mv (v := .i .i64 x) rfl) ?_
        refine WO_end ?_
        refine then_n ?_
        refine W_rt ?_
        refine blk_r ?_
        refine then_r ?_
        have hp := Option.some.inj hp; subst hp
        refine (Or.inr (Exists.intro (.inr x) (And.intro rfl (And.intro (fun h => nomatch h) (fun he => ?_)))))
        subst he; exact (And.intro rfl (And.intro (rfl) (hO₃.pick [] rfl (by decide))))
      · refine W_cF (t := x2) rfl b₂ ?_
        refine W_sk ?_
        refine blk_n ?_
        refine then_n ?_
        refine W_rg ?_
        obtain ⟨c₂, hp⟩ := ck_some hp
        refine WO_v (a_add (a := x) (b := 1) q₂_8 rfl c₂) ?_
        refine WO_v (a_mv (v := .i .i64 (x + 1)) rfl) ?_
        refine WO_end ?_
        have hp := Option.some.inj hp; subst hp
        exact (Or.inl (Exists.intro (x + 1) (And.intro rfl (And.intro rfl (And.intro (q₂_0) (And.intro (q₂_1) (And.intro (q₂_7) (And.intro (rfl) (hO₃.pick [] rfl (by decide))))))))))
    · refine W_cF (t := (decide (x < (s.length : Int)))) rfl b₁ ?_
      refine W_ex ?_
      refine then_e ?_
      have hp := Option.some.inj hp; subst hp
      refine (Or.inr (Exists.intro (.inl ()) (And.intro rfl (And.intro (fun h => nomatch h) (fun he => ?_)))))
      subst he; exact (And.intro rfl (hO₂.pick [] rfl (by decide)))
  intro e₁ q₁ k₁ hJ₁
  rcases o₁ with _ | x1
  · obtain ⟨rfl, hO₁⟩ := hJ₁
    refine blk_i ?_
    refine then_n ?_
    refine W_sq ?_
    refine W_rg ?_
    refine WO_v (a_mv (v := .i .i64 (-1)) rfl) ?_
    refine WO_end ?_
    refine then_n ?_
    refine W_rt ?_
    refine Ret_r (rs_t (n := 4) (v := .i .i64 (-1)) rfl rs_nil) ?_
    have hp := Option.some.inj hp; subst hp
    exact (And.intro rfl (hO₁.pick [] rfl (by decide)))
  · obtain ⟨rfl, q₁_4, hO₁⟩ := hJ₁
    refine blk_r ?_
    refine then_r ?_
    refine Ret_r (rs_t (n := 4) (v := .i .i64 x1) q₁_4 rs_nil) ?_
    have hp := Option.some.inj hp; subst hp
    exact (And.intro rfl (hO₁.pick [] rfl (by decide)))

theorem p_slices_ContainsFunc_int.ok {h : Hp} {s : List Int} {f : Int → Option Bool} {v_s : V} {id_f : Nat} {cap_f : List V} (s_s : Sl eInt h v_s s) (f_f : ∀ (k : Hp) (x0 : Int) (y : Bool), Ex' (fun r => r < h.n) h k → f x0 = some y → ∃ u k', Is G id_f (.i .i64 x0 :: cap_f) k u k' ∧ V.b y = u ∧ Own (fun r => r < k.n) k k' []) {r : Bool} (hp : p_slices_ContainsFunc_int s f = some r) :
    ∃ u k', Is G 78 [v_s, .f id_f cap_f] h u k' ∧ V.b r = u ∧ Own (fun r => r < h.n) h k' [] := by
  refine WC.is (WC_of G_F_slices_ContainsFunc_int ?_)
  unfold p_slices_ContainsFunc_int at hp
  let B : Nat → Prop := (fun r => r < h.n)
  have hO : Own B h h [] := Own.start0 h
  refine W_sq ?_
  refine W_rg ?_
  refine WO_v (a_mv (v := .b false) rfl) ?_
  refine WO_end ?_
  refine then_n ?_
  refine W_sq ?_
  refine W_rg ?_
  refine WO_v (a_mv (v := v_s) rfl) ?_
  refine WO_v (a_mv (v := .f id_f cap_f) rfl) ?_
  obtain ⟨x, hx₁, hp⟩ := bd_some hp
  obtain ⟨u₁, k₁, ca₁, rfl, hW₁⟩ := p_slices_IndexFunc_int.ok (h := h)  (hO.rd0 s_s.rd : Sl eInt h v_s s) (fun k z0 y hk hx => f_f k z0 y (exTo hO hk) hx) hx₁
  refine WO_c (id := 91) (caps := []) rfl (mp_cons (v := v_s) rfl (mp_cons (v := .f id_f cap_f) rfl mp_nil)) ca₁ ?_
  have hO₁ : Own B h k₁ [] := hO.call hW₁ rfl
  refine WO_v (a_geq (a := x) (b := 0) rfl rfl) ?_
  refine WO_v (a_mv (v := .b (decide (0 ≤ x))) rfl) ?_
  refine WO_end ?_
  refine then_n ?_
  refine W_rt ?_
  refine Ret_r (rs_t (n := 4) (v := .b (decide (0 ≤ x))) rfl rs_nil) ?_
  have hp := Option.some.inj hp; subst hp
  exact (And.intro rfl (hO₁.pick [] rfl (by decide)))

theorem p_slices_Index_int.ok {h : Hp} {s : List Int} {v : Int} {v_s : V} (s_s : Sl eInt h v_s s) {r : Int} (hp : p_slices_Index_int s v = some r) :
    ∃ u k', Is G 136 [v_s, .i .i64 v] h u k' ∧ V.i .i64 r = u ∧ Own (fun r => r < h.n) h k' [] := by
  refine WC.is (WC_of G_F_slices_Index_int ?_)
  unfold p_slices_Index_int at hp
  let B : Nat → Prop := (fun r => r < h.n)
  have hO : Own B h h [] := Own.start0 h
  refine W_sq ?_
  refine W_rg ?_
  refine WO_v (a_mv (v := .i .i64 0) rfl) ?_
  refine WO_end ?_
  refine then_n ?_
  refine W_sq ?_
  refine W_sq ?_
  refine W_rg ?_
  refine WO_v (a_mv (v := v_s) rfl) ?_
  refine WO_v (a_len (hO.rd0 s_s.rd : Sl eInt h v_s s) rfl) ?_
  refine WO_v (a_mv (v := .i .i64 0) rfl) ?_
  refine WO_end ?_
  refine then_n ?_
  refine W_bl ?_
  obtain ⟨o₁, ho₁, hp⟩ := bd_some hp
  refine W.mono (Q := fun e fr k => match (generalizing := false) o₁ with
      | .inl _ => e = (.exit 0) ∧ Own B h k []
      | .inr x1 => e = .ret ∧ fr 4 = .i .i64 x1 ∧ Own B h k []) ?_ ?_
  · clear hp
    refine W_loopF (fun st fr k => match st with | x => fr 0 = v_s ∧ fr 1 = .i .i64 v ∧ fr 7 = .i .i64 (s.length : Int) ∧ fr 8 = .i .i64 x ∧ Own B h k []) ho₁ (s := 0) (And.intro (rfl) (And.intro (rfl) (And.intro (rfl) (And.intro (rfl) (hO.pick [] rfl (by decide)))))) ?_
    rintro x q₂ k₂ ⟨q₂_0, q₂_1, q₂_7, q₂_8, hO₂⟩ o₂ hp
    dsimp only [p_slices_Index_int.s0] at hp
    refine W_sq ?_
    refine W_rg ?_
    refine WO_v (a_lss (a := x) (b := (s.length : Int)) q₂_8 q₂_7) ?_
    refine WO_end ?_
    refine then_n ?_
    refine W_sq ?_
    rcases if_some hp with ⟨b₁, hp⟩ | ⟨b₁, hp⟩
    · refine W_cT (t := (decide (x < (s.length : Int)))) rfl b₁ ?_
      refine W_sk ?_
      refine then_n ?_
      refine W_sq ?_
      refine W_bl ?_
      refine W_sq ?_
      refine W_rg ?_
      refine WO_v (a_mv (v := .i .i64 x) q₂_8) ?_
      refine WO_v (a_mv (v := .i .i64 x) rfl) ?_
      refine WO_end ?_
      refine then_n ?_
      refine W_sq ?_
      refine W_rg ?_
      refine WO_v (a_mv (v := .i .i64 v) q₂_1) ?_
      refine WO_v (a_mv (v := v_s) q₂_0) ?_
      refine WO_v (a_mv (v := .i .i64 x) rfl) ?_
      obtain ⟨c₁, hp⟩ := ck_some hp
      refine WO_v (a_ixa (E := eInt) (z := x) (hO₂.rd0 s_s.rd : Sl eInt k₂ v_s s) rfl rfl c₁) ?_
      refine WO_v (a_ldE (w := .i .i64 (gi s (x : Int).toNat)) (hO₂.rd0 s_s.rd : Sl eInt k₂ v_s s) rfl (toNat_lt c₁) rfl) ?_
      refine WO_v (a_eqI (a := v) (b := (gi s (x : Int).toNat)) rfl rfl) ?_
      refine WO_end ?_
      refine then_n ?_
      rcases if_some hp with ⟨b₂, hp⟩ | ⟨b₂, hp⟩
      · refine W_cT (t := (decide (v = gi s (x : Int).toNat))) rfl b₂ ?_
        refine W_sq ?_
        refine W_rg ?_
        refine WO_v (a_mv (v := .i .i64 x) rfl) ?_
        refine WO_v (a_mv (v := .i .i64 x) rfl) ?_
        refine WO_end ?_
        refine then_n ?_
        refine W_rt ?_
        refine blk_r ?_
        refine then_r ?_
        have hp := Option.some.inj hp; subst hp
        refine (Or.inr (Exists.intro (.inr x) (And.intro rfl (And.intro (fun h => nomatch h) (fun he => ?_)))))
        subst he; exact (And.intro rfl (And.intro (rfl) (hO₂.pick [] rfl (by decide))))
      · refine W_cF (t := (decide (v = gi s (x : Int).toNat))) rfl b₂ ?_
        refine W_sk ?_
        refine blk_n ?_
        refine then_n ?_
        refine W_rg ?_
        obtain ⟨c₂, hp⟩ := ck_some hp
        refine WO_v (a_add (a := x) (b := 1) q₂_8 rfl c₂) ?_
        refine WO_v (a_mv (v := .i .i64 (x + 1)) rfl) ?_
        refine WO_end ?_
        have hp := Option.some.inj hp; subst hp
        exact (Or.inl (Exists.intro (x + 1) (And.intro rfl (And.intro rfl (And.intro (q₂_0) (And.intro (q₂_1) (And.intro (q₂_7) (And.intro (rfl) (hO₂.pick [] rfl (by decide))))))))))
    · refine W_cF (t := (decide (x < (s.length : Int)))) rfl b₁ ?_
      refine W_ex ?_
      refine then_e ?_
      have hp := Option.some.inj hp; subst hp
      refine (Or.inr (Exists.intro (.inl ()) (And.intro rfl (And.intro (fun h => nomatch h) (fun he => ?_)))))
      subst he; exact (And.intro rfl (hO₂.pick [] rfl (by decide)))
  intro e₁ q₁ k₁ hJ₁
  rcases o₁ with _ | x1
  · obtain ⟨rfl, hO₁⟩ := hJ₁
    refine blk_i ?_
    refine then_n ?_
    refine W_sq ?_
    refine W_rg ?_
    refine WO_v (a_mv (v := .i .i64 (-1)) rfl) ?_
    refine WO_end ?_
    refine then_n ?_
    refine W_rt ?_
    refine Ret_r (rs_t (n := 4) (v := .i .i64 (-1)) rfl rs_nil) ?_
    have hp := Option.some.inj hp; subst hp
    exact (And.intro rfl (hO₁.pick [] rfl (by decide)))
  · obtain ⟨rfl, q₁_4, hO₁⟩ := hJ₁
    refine blk_r ?_
    refine then_r ?_
    refine Ret_r (rs_t (n := 4) (v := .i .i64 x1) q₁_4 rs_nil) ?_
    have hp := Option.some.inj hp; subst hp
    exact (And.intro rfl (hO₁.pick [] rfl (by decide)))

theorem p_slices_Contains_int.ok {h : Hp} {s : List Int} {v : Int} {v_s : V} (s_s : Sl eInt h v_s s) {r : Bool} (hp : p_slices_Contains_int s v = some r) :
    ∃ u k', Is G 118 [v_s, .i .i64 v] h u k' ∧ V.b r = u ∧ Own (fun r => r < h.n) h k' [] := by
  refine WC.is (WC_of G_F_slices_Contains_int ?_)
  unfold p_slices_Contains_int at hp
  let B : Nat → Prop := (fun r => r < h.n)
  have hO : Own B h h [] := Own.start0 h
  refine W_sq ?_
  refine W_rg ?_
  refine WO_v (a_mv (v := .b false) rfl) ?_
  refine WO_end ?_
  refine then_n ?_
  refine W_sq ?_
  refine W_rg ?_
  refine WO_v (a_mv (v := v_s) rfl) ?_
  refine WO_v (a_mv (v := .i .i64 v) rfl) ?_
  obtain ⟨x, hx₁, hp⟩ := bd_some hp
  obtain ⟨u₁, k₁, ca₁, rfl, hW₁⟩ := p_slices_Index_int.ok (h := h)  (hO.rd0 s_s.rd : Sl eInt h v_s s) hx₁
  refine WO_c (id := 136) (caps := []) rfl (mp_cons (v := v_s) rfl (mp_cons (v := .i .i64 v) rfl mp_nil)) ca₁ ?_
  have hO₁ : Own B h k₁ [] := hO.call hW₁ rfl
  refine WO_v (a_geq (a := x) (b := 0) rfl rfl) ?_
  refine WO_v (a_mv (v := .b (decide (0 ≤ x))) rfl) ?_
  refine WO_end ?_
  refine then_n ?_
  refine W_rt ?_
  refine Ret_r (rs_t (n := 4) (v := .b (decide (0 ≤ x))) rfl rs_nil) ?_
  have hp := Option.some.inj hp; subst hp
  exact (And.intro rfl (hO₁.pick [] rfl (by decide)))

theorem p_seg_Chains_Meet_1.ok {h : Hp} {v : Int} {c0 : List Int} {r_c0 : Nat} {v_c0 : V} {w_c0 : Bool} (b_c0 : h.m r_c0 = some (.cells w_c0 [v_c0])) (s_c0 : Sl eInt h v_c0 c0) {r : Bool} (hp : p_seg_Chains_Meet_1 v c0 = some r) :
    ∃ u k', Is G 141 [.i .i64 v, .p r_c0 0] h u k' ∧ V.b r = u ∧ Own (fun r => r < h.n) h k' [] := by
  refine WC.is (WC_of G_F_seg_Chains_Meet_1 ?_)
  unfold p_seg_Chains_Meet_1 at hp
  let B : Nat → Prop := (fun r => r < h.n)
  have hO : Own B h h [] := Own.start0 h
  refine W_sq ?_
  refine W_rg ?_
  refine WO_v (a_mv (v := .b false) rfl) ?_
  refine WO_end ?_
  refine then_n ?_
  refine W_sq ?_
  refine W_rg ?_
  refine WO_v (a_ldb (cs := [v_c0]) (v := v_c0) (hO.rdB0 (RdB.of b_c0)).choose_spec rfl rfl) ?_
  refine WO_v (a_mv (v := .i .i64 v) rfl) ?_
  obtain ⟨x, hx₁, hp⟩ := bd_some hp
  obtain ⟨u₁, k₁, ca₁, rfl, hW₁⟩ := p_slices_Contains_int.ok (h := h)  (hO.rd0 s_c0.rd : Sl eInt h v_c0 c0) hx₁
  refine WO_c (id := 118) (caps := []) rfl (mp_cons (v := v_c0) rfl (mp_cons (v := .i .i64 v) rfl mp_nil)) ca₁ ?_
  have hO₁ : Own B h k₁ [] := hO.call hW₁ rfl
  refine WO_v (a_mv (v := .b x) rfl) ?_
  refine WO_end ?_
  refine then_n ?_
  refine W_rt ?_
  refine Ret_r (rs_t (n := 3) (v := .b x) rfl rs_nil) ?_
  have hp := Option.some.inj hp; subst hp
  exact (And.intro rfl (hO₁.pick [] rfl (by decide)))

theorem p_seg_Chains_Meet.ok {h : Hp} {c : T_seg_Chains} {vertical : Bool} {i : Int} {other : Bool} {k_ : Int} {v_c_X : V} {v_c_Y : V} {v_c_Vert : V} {vs_c_Vert : List V} {v_c_Horz : V} {vs_c_Horz : List V} (s_c_X : Sl eInt h v_c_X c.X) (s_c_Y : Sl eInt h v_c_Y c.Y) (sN_c_Vert : Sl eV h v_c_Vert vs_c_Vert) (lN_c_Vert : vs_c_Vert.length = c.Vert.length) (iN_c_Vert : ∀ j, j < c.Vert.length → Sl eInt h (gi vs_c_Vert j) (gi c.Vert j)) (sN_c_Horz : Sl eV h v_c_Horz vs_c_Horz) (lN_c_Horz : vs_c_Horz.length = c.Horz.length) (iN_c_Horz : ∀ j, j < c.Horz.length → Sl eInt h (gi vs_c_Horz j) (gi c.Horz j)) {r : Bool} (hp : p_seg_Chains_Meet c vertical i other k_ = some r) :
    ∃ u k', Is G 123 [.ag [v_c_X, v_c_Y, v_c_Vert, v_c_Horz], .b vertical, .i .i64 i, .b other, .i .i64 k_] h u k' ∧ V.b r = u ∧ Own (fun r => r < h.n) h k' [] := by
  refine WC.is (WC_of G_F_seg_Chains_Meet ?_)
  unfold p_seg_Chains_Meet at hp
  let B : Nat → Prop := (fun r => r < h.n)
  have hO : Own B h h [] := Own.start0 h
  refine W_sq ?_
  refine W_rg ?_
  refine WO_x (hO.boxd (v := .ag [v_c_X, v_c_Y, v_c_Vert, v_c_Horz]) (cs := [v_c_X, v_c_Y, v_c_Vert, v_c_Horz]) hO.fr rfl rfl) ?_
  rintro _ k₁ ⟨r₁, rfl, n₁, f₁, hW⟩
  have hO₁ : Own B h k₁ [eBox r₁ [v_c_X, v_c_Y, v_c_Vert, v_c_Horz]] := hW
  refine WO_v (a_mv (v := .b false) rfl) ?_
  refine WO_end ?_
  refine then_n ?_
  refine W_sq ?_
  refine W_rg ?_
  refine WO_v (a_ldbA (cs := [v_c_X, v_c_Y, v_c_Vert, v_c_Horz]) (ws := [v_c_X, v_c_Y, v_c_Vert, v_c_Horz]) (hO₁.box 0 rfl) rfl rfl) ?_
  refine WO_v (a_mv (v := .b other) rfl) ?_
  refine WO_v (a_mv (v := .i .i64 k_) rfl) ?_
  obtain ⟨x, hx₁, hp⟩ := bd_some hp
  obtain ⟨u₁, k₂, ca₁, v₁, rfl, hb₁, hW₁⟩ := p_seg_Chains_chain.ok (h := k₁)  (hO₁.pick [] rfl (by decide)) s_c_X.rd s_c_Y.rd sN_c_Vert.rd lN_c_Vert (fun j hj => (iN_c_Vert j hj).rd) sN_c_Horz.rd lN_c_Horz (fun j hj => (iN_c_Horz j hj).rd) hx₁
  refine WO_c (id := 140) (caps := []) rfl (mp_cons (v := .ag [v_c_X, v_c_Y, v_c_Vert, v_c_Horz]) rfl (mp_cons (v := .b other) rfl (mp_cons (v := .i .i64 k_) rfl mp_nil))) ca₁ ?_
  have hO₂ : Own B h k₂ [eBox r₁ [v_c_X, v_c_Y, v_c_Vert, v_c_Horz]] := hO₁.call hW₁ rfl
  refine WO_x (hO₂.alloc (cs := [.sn]) hO₂.fr) ?_
  rintro _ k₃ ⟨r₂, rfl, n₂, f₂, hW⟩
  have hO₃ : Own B h k₃ [eBox r₁ [v_c_X, v_c_Y, v_c_Vert, v_c_Horz], eBox r₂ [.sn]] := hW
  refine WO_x (hO₃.stb (ws := [v₁]) (cs' := [v₁]) (v := v₁) 1 rfl rfl rfl (hO₃.rd0 hb₁ : Sl eInt k₃ v₁ x).cells ⟨rfl, Nat.le_of_ble_eq_true rfl, (all_cons (hO₃.rd0 hb₁ : Sl eInt k₃ v₁ x).oneV rfl)⟩ rfl) ?_
  rintro _ k₄ ⟨rfl, f₃, m₁, hW⟩
  have hO₄ : Own B h k₄ [eBox r₁ [v_c_X, v_c_Y, v_c_Vert, v_c_Horz], eBox r₂ [v₁]] := hW
  refine WO_end ?_
  refine then_n ?_
  refine W_sq ?_
  refine W_rg ?_
  refine WO_v (a_ldbA (cs := [v_c_X, v_c_Y, v_c_Vert, v_c_Horz]) (ws := [v_c_X, v_c_Y, v_c_Vert, v_c_Horz]) (hO₄.box 0 rfl) rfl rfl) ?_
  refine WO_v (a_mv (v := .b vertical) rfl) ?_
  refine WO_v (a_mv (v := .i .i64 i) rfl) ?_
  obtain ⟨x1, hx₂, hp⟩ := bd_some hp
  obtain ⟨u₂, k₅, ca₂, v₂, rfl, hb₂, hW₂⟩ := p_seg_Chains_chain.ok (h := k₄)  (hO₄.pick [] rfl (by decide)) s_c_X.rd s_c_Y.rd sN_c_Vert.rd lN_c_Vert (fun j hj => (iN_c_Vert j hj).rd) sN_c_Horz.rd lN_c_Horz (fun j hj => (iN_c_Horz j hj).rd) hx₂
  refine WO_c (id := 140) (caps := []) rfl (mp_cons (v := .ag [v_c_X, v_c_Y, v_c_Vert, v_c_Horz]) rfl (mp_cons (v := .b vertical) rfl (mp_cons (v := .i .i64 i) rfl mp_nil))) ca₂ ?_
  have hO₅ : Own B h k₅ [eBox r₁ [v_c_X, v_c_Y, v_c_Vert, v_c_Horz], eBox r₂ [v₁]] := hO₄.call hW₂ rfl
  refine WO_v (a_clo (vs := [.p r₂ 0]) (mq_cons (v := .p r₂ 0) rfl mq_nil)) ?_
  obtain ⟨x2, hx₃, hp⟩ := bd_some hp
  obtain ⟨u₃, k₆, ca₃, rfl, hW₃⟩ := p_slices_ContainsFunc_int.ok (h := k₅)  (hO₅.rd0 hb₂ : Sl eInt k₅ v₂ x1) (fun k z0 y hk hx => p_seg_Chains_Meet_1.ok (h := k) ((hk.2 _ (Hp.lt (hO₅.box 1 rfl))).trans (hO₅.box 1 rfl)) (((hO₅.rd0 hb₁ : Sl eInt k₅ v₁ x)).ext ⟨hk.1, hk.2⟩) hx) hx₃
  refine WO_c (id := 78) (caps := []) rfl (mp_cons (v := v₂) rfl (mp_cons (v := .f 141 [.p r₂ 0]) rfl mp_nil)) ca₃ ?_
  have hO₆ : Own B h k₆ [eBox r₁ [v_c_X, v_c_Y, v_c_Vert, v_c_Horz], eBox r₂ [v₁]] := hO₅.call hW₃ rfl
  refine WO_v (a_mv (v := .b x2) rfl) ?_
  refine WO_end ?_
  refine then_n ?_
  refine W_rt ?_
  refine Ret_r (rs_t (n := 10) (v := .b x2) rfl rs_nil) ?_
  have hp := Option.some.inj hp; subst hp
  exact (And.intro rfl (hO₆.pick [] rfl (by decide)))

theorem p_muntinlaw16_wakes.ok {h : Hp}    {r : Bool} (hp : p_muntinlaw16_wakes  = some r) :
    ∃ u k', Is G 122 [] h u k' ∧ V.b r = u ∧ Own (fun r => r < h.n) h k' [] := by
  refine WC.is (WC_of G_F_muntinlaw16_wakes ?_)
  unfold p_muntinlaw16_wakes at hp
  let B : Nat → Prop := (fun r => r < h.n)
  have hO : Own B h h [] := Own.start0 h
  refine W_sq ?_
  refine W_rg ?_
  refine WO_v (a_mv (v := .b false) rfl) ?_
  refine WO_end ?_
  refine then_n ?_
  refine W_sq ?_
  refine W_rg ?_
  obtain ⟨x, hx₁, hp⟩ := bd_some hp
  obtain ⟨u₁, k₁, ca₁, v₁, rfl, hW₁⟩ := p_muntinlaw16_square.ok (h := h)   hx₁
  refine WO_c (id := 139) (caps := []) rfl mp_nil ca₁ ?_
  have hO₁ : Own B h k₁ [eSl e_T_api_Cell v₁ x] := hO.call hW₁ rfl
  obtain ⟨⟨x1, x2⟩, hx₂, hp⟩ := bd_some hp
  obtain ⟨u₂, k₂, ca₂, v₂, v₃, v₄, vs₁, v₅, vs₂, rfl, hW₂⟩ := p_seg_Of.ok (h := k₁)  (hO₁.sl 0 rfl : Sl e_T_api_Cell k₁ v₁ x) hx₂
  refine WO_c (id := 120) (caps := []) rfl (mp_cons (v := v₁) rfl mp_nil) ca₂ ?_
  have hO₂ : Own B h k₂ [eSl e_T_api_Cell v₁ x, eSl eInt v₂ x1.X, eSl eInt v₃ x1.Y, eSl eV v₄ vs₁, eAll eInt vs₁ x1.Vert, eSl eV v₅ vs₂, eAll eInt vs₂ x1.Horz] := hO₁.call hW₂ rfl
  refine WO_v (a_mv (v := .tu [.ag [v₂, v₃, v₄, v₅], .i .i64 x2]) rfl) ?_
  refine WO_v (a_ext (vs := [.ag [v₂, v₃, v₄, v₅], .i .i64 x2]) (v := .ag [v₂, v₃, v₄, v₅]) rfl rfl) ?_
  refine WO_v (a_ext (vs := [.ag [v₂, v₃, v₄, v₅], .i .i64 x2]) (v := .i .i64 x2) rfl rfl) ?_
  refine WO_x (hO₂.alloc (cs := [.sn, .sn, .sn, .sn]) hO₂.fr) ?_
  rintro _ k₃ ⟨r₁, rfl, n₁, f₁, hW⟩
  have hO₃ : Own B h k₃ [eSl e_T_api_Cell v₁ x, eSl eInt v₂ x1.X, eSl eInt v₃ x1.Y, eSl eV v₄ vs₁, eAll eInt vs₁ x1.Vert, eSl eV v₅ vs₂, eAll eInt vs₂ x1.Horz, eBox r₁ [.sn, .sn, .sn, .sn]] := hW
  refine WO_x (hO₃.stb (ws := [v₂, v₃, v₄, v₅]) (cs' := [v₂, v₃, v₄, v₅]) (v := .ag [v₂, v₃, v₄, v₅]) 7 rfl rfl rfl rfl ⟨rfl, Nat.le_of_ble_eq_true rfl, (all_cons (hO₃.sl 1 rfl : Sl eInt k₃ v₂ x1.X).oneV (all_cons (hO₃.sl 2 rfl : Sl eInt k₃ v₃ x1.Y).oneV (all_cons (hO₃.sl 3 rfl : Sl eV k₃ v₄ vs₁).oneV (all_cons (hO₃.sl 5 rfl : Sl eV k₃ v₅ vs₂).oneV all_nil))))⟩ rfl) ?_
  rintro _ k₄ ⟨rfl, f₂, m₁, hW⟩
  have hO₄ : Own B h k₄ [eSl e_T_api_Cell v₁ x, eSl eInt v₂ x1.X, eSl eInt v₃ x1.Y, eSl eV v₄ vs₁, eAll eInt vs₁ x1.Vert, eSl eV v₅ vs₂, eAll eInt vs₂ x1.Horz, eBox r₁ [v₂, v₃, v₄, v₅]] := hW
  refine WO_v (a_mv (v := .i .i64 x2) rfl) ?_
  refine WO_end ?_
  refine then_n ?_
  refine W_sq ?_
  refine W_sq ?_
  refine W_rg ?_
  refine WO_v (a_mv (v := .i .i64 x2) rfl) ?_
  refine WO_v (a_neI (a := x2) (b := 0) rfl rfl) ?_
  refine WO_v (a_mv (v := .b (!(decide (x2 = 0)))) rfl) ?_
  refine WO_cut 5 (fun fr' k' => k₄ = k' ∧ fr' 17 = .b ((!(decide (x2 = 0))) || (!(decide ((x1.Vert.length : Int) = 2)))) ∧ fr' 1 = .p r₁ 0) ?_ ?_
  · rcases bc (!(decide (x2 = 0))) with b₁ | b₁
    · skip
      refine WO_off rfl b₁ ?_
      refine WO_off rfl b₁ ?_
      refine WO_off rfl b₁ ?_
      refine WO_off rfl b₁ ?_
      refine WO_v (a_pickT (t := (!(decide (x2 = 0)))) (v := .b ((!(decide (x2 = 0))) || (!(decide ((x1.Vert.length : Int) = 2))))) rfl b₁ (Eq.trans (b := V.b true) rfl (or_off b₁))) ?_
      refine WO_end ?_
      exact ⟨rfl, rfl, rfl⟩
    · skip
      refine WO_on rfl b₁ ?_
      refine WO_v (a_fa (r := r₁) (o := 0) (o' := 2) rfl rfl) ?_
      refine WO_on rfl b₁ ?_
      refine WO_v (a_ldb (cs := [v₂, v₃, v₄, v₅]) (v := v₄) (hO₄.box 7 rfl) rfl rfl) ?_
      refine WO_on rfl b₁ ?_
      refine WO_v (a_lenN (n := (x1.Vert).length) (hO₄.sl 3 rfl : Sl eV k₄ v₄ vs₁) (hO₄.allLen 4 rfl : (vs₁).length = (x1.Vert).length) rfl) ?_
      refine WO_on rfl b₁ ?_
      refine WO_v (a_neI (a := (x1.Vert.length : Int)) (b := 2) rfl rfl) ?_
      refine WO_v (a_pickF (t := (!(decide (x2 = 0)))) (v := .b ((!(decide (x2 = 0))) || (!(decide ((x1.Vert.length : Int) = 2))))) rfl b₁ (Eq.trans (b := V.b (!(decide ((x1.Vert.length : Int) = 2)))) rfl (or_on b₁))) ?_
      refine WO_end ?_
      exact ⟨rfl, rfl, rfl⟩
  rintro frg₁ _ ⟨rfl, g₁_17, g₁_1⟩
  refine WO_v (a_mv (v := .b ((!(decide (x2 = 0))) || (!(decide ((x1.Vert.length : Int) = 2))))) g₁_17) ?_
  refine WO_cut 5 (fun fr' k' => k₄ = k' ∧ fr' 23 = .b (((!(decide (x2 = 0))) || (!(decide ((x1.Vert.length : Int) = 2)))) || (!(decide ((x1.Horz.length : Int) = 2)))) ∧ fr' 1 = .p r₁ 0) ?_ ?_
  · rcases bc ((!(decide (x2 = 0))) || (!(decide ((x1.Vert.length : Int) = 2)))) with b₂ | b₂
    · skip
      refine WO_off rfl b₂ ?_
      refine WO_off rfl b₂ ?_
      refine WO_off rfl b₂ ?_
      refine WO_off rfl b₂ ?_
      refine WO_v (a_pickT (t := ((!(decide (x2 = 0))) || (!(decide ((x1.Vert.length : Int) = 2))))) (v := .b (((!(decide (x2 = 0))) || (!(decide ((x1.Vert.length : Int) = 2)))) || (!(decide ((x1.Horz.length : Int) = 2))))) rfl b₂ (Eq.trans (b := V.b true) rfl (or_off b₂))) ?_
      refine WO_end ?_
      exact ⟨rfl, rfl, g₁_1⟩
    · skip
      refine WO_on rfl b₂ ?_
      refine WO_v (a_fa (r := r₁) (o := 0) (o' := 3) g₁_1 rfl) ?_
      refine WO_on rfl b₂ ?_
      refine WO_v (a_ldb (cs := [v₂, v₃, v₄, v₅]) (v := v₅) (hO₄.box 7 rfl) rfl rfl) ?_
      refine WO_on rfl b₂ ?_
      refine WO_v (a_lenN (n := (x1.Horz).length) (hO₄.sl 5 rfl : Sl eV k₄ v₅ vs₂) (hO₄.allLen 6 rfl : (vs₂).length = (x1.Horz).length) rfl) ?_
      refine WO_on rfl b₂ ?_
      refine WO_v (a_neI (a := (x1.Horz.length : Int)) (b := 2) rfl rfl) ?_
      refine WO_v (a_pickF (t := ((!(decide (x2 = 0))) || (!(decide ((x1.Vert.length : Int) = 2))))) (v := .b (((!(decide (x2 = 0))) || (!(decide ((x1.Vert.length : Int) = 2)))) || (!(decide ((x1.Horz.length : Int) = 2))))) rfl b₂ (Eq.trans (b := V.b (!(decide ((x1.Horz.length : Int) = 2)))) rfl (or_on b₂))) ?_
      refine WO_end ?_
      exact ⟨rfl, rfl, g₁_1⟩
  rintro frg₂ _ ⟨rfl, g₂_23, g₂_1⟩
  refine WO_end ?_
  refine then_n ?_
  rcases if_some hp with ⟨b₃, hp⟩ | ⟨b₃, hp⟩
  · refine W_cT (t := (((!(decide (x2 = 0))) || (!(decide ((x1.Vert.length : Int) = 2)))) || (!(decide ((x1.Horz.length : Int) = 2))))) g₂_23 b₃ ?_
    refine W_sq ?_
    refine W_rg ?_
    refine WO_v (a_mv (v := .b false) rfl) ?_
    refine WO_end ?_
    refine then_n ?_
    refine W_rt ?_
    refine then_r ?_
    refine Ret_r (rs_t (n := 0) (v := .b false) rfl rs_nil) ?_
    have hp := Option.some.inj hp; subst hp
    exact (And.intro rfl (hO₄.pick [] rfl (by decide)))
  · refine W_cF (t := (((!(decide (x2 = 0))) || (!(decide ((x1.Vert.length : Int) = 2)))) || (!(decide ((x1.Horz.length : Int) = 2))))) g₂_23 b₃ ?_
    refine W_sk ?_
    refine then_n ?_
    refine W_sq ?_
    refine W_rg ?_
    refine WO_v (a_ldbA (cs := [v₂, v₃, v₄, v₅]) (ws := [v₂, v₃, v₄, v₅]) (hO₄.box 7 rfl) g₂_1 rfl) ?_
    obtain ⟨⟨x3, x4⟩, hx₃, hp⟩ := bd_some hp
    obtain ⟨u₃, k₅, ca₃, rfl, hW₃⟩ := p_seg_Chains_Span.ok (h := k₄)  (hO₄.sl 1 rfl : Sl eInt k₄ v₂ x1.X) (hO₄.sl 2 rfl : Sl eInt k₄ v₃ x1.Y) (hO₄.sl 3 rfl : Sl eV k₄ v₄ vs₁) (hO₄.allLen 4 rfl : (vs₁).length = (x1.Vert).length) (fun j hj => hO₄.inn 4 rfl hj) (hO₄.sl 5 rfl : Sl eV k₄ v₅ vs₂) (hO₄.allLen 6 rfl : (vs₂).length = (x1.Horz).length) (fun j hj => hO₄.inn 6 rfl hj) hx₃
    refine WO_c (id := 126) (caps := []) rfl (mp_cons (v := .ag [v₂, v₃, v₄, v₅]) rfl (mp_cons (v := .b true) rfl (mp_cons (v := .i .i64 1) rfl mp_nil))) ca₃ ?_
    have hO₅ : Own B h k₅ [eSl e_T_api_Cell v₁ x, eSl eInt v₂ x1.X, eSl eInt v₃ x1.Y, eSl eV v₄ vs₁, eAll eInt vs₁ x1.Vert, eSl eV v₅ vs₂, eAll eInt vs₂ x1.Horz, eBox r₁ [v₂, v₃, v₄, v₅]] := hO₄.call hW₃ rfl
    refine WO_v (a_mv (v := .tu [.i .i64 x3, .i .i64 x4]) rfl) ?_
    refine WO_v (a_ext (vs := [.i .i64 x3, .i .i64 x4]) (v := .i .i64 x3) rfl rfl) ?_
    refine WO_v (a_ext (vs := [.i .i64 x3, .i .i64 x4]) (v := .i .i64 x4) rfl rfl) ?_
    refine WO_v (a_mv (v := .i .i64 x3) rfl) ?_
    refine WO_v (a_mv (v := .i .i64 x4) rfl) ?_
    refine WO_end ?_
    refine then_n ?_
    refine W_sq ?_
    refine W_rg ?_
    refine WO_v (a_fa (r := r₁) (o := 0) (o' := 2) g₂_1 rfl) ?_
    refine WO_v (a_ldb (cs := [v₂, v₃, v₄, v₅]) (v := v₄) (hO₅.box 7 rfl) rfl rfl) ?_
    obtain ⟨c₁, hp⟩ := ck_some hp
    refine WO_v (a_ixa (E := eV) (z := 1) (hO₅.sl 3 rfl : Sl eV k₅ v₄ vs₁) rfl rfl (by rw [(hO₅.allLen 4 rfl : (vs₁).length = (x1.Vert).length)]; exact c₁)) ?_
    refine WO_v (a_ldE (w := (gi vs₁ (1 : Int).toNat)) (hO₅.sl 3 rfl : Sl eV k₅ v₄ vs₁) rfl (by rw [(hO₅.allLen 4 rfl : (vs₁).length = (x1.Vert).length)]; exact toNat_lt c₁) rfl) ?_
    refine WO_x (hO₅.bsl (E := eInt) (l := ([1, 2] : List Int)) hO₅.fr (by rw [(ev_cons (v := .i .i64 1) rfl (ev_cons (v := .i .i64 2) rfl ev_nil))]; rfl) rfl) ?_
    rintro v₆ k₆ ⟨r₂, f₃, hW⟩
    have hO₆ : Own B h k₆ [eSl e_T_api_Cell v₁ x, eSl eInt v₂ x1.X, eSl eInt v₃ x1.Y, eSl eV v₄ vs₁, eAll eInt vs₁ x1.Vert, eSl eV v₅ vs₂, eAll eInt vs₂ x1.Horz, eBox r₁ [v₂, v₃, v₄, v₅], eSl eInt v₆ ([1, 2] : List Int)] := hW
    obtain ⟨x5, hx₄, hp⟩ := bd_some hp
    obtain ⟨u₄, k₇, ca₄, rfl, hW₄⟩ := p_slices_Equal_int.ok (h := k₆)  (hO₆.inn 4 rfl (toNat_lt c₁) : Sl eInt k₆ (gi vs₁ (1 : Int).toNat) (gi x1.Vert (1 : Int).toNat)) (hO₆.sl 8 rfl : Sl eInt k₆ v₆ ([1, 2] : List Int)) hx₄
    refine WO_c (id := 33) (caps := []) rfl (mp_cons (v := (gi vs₁ (1 : Int).toNat)) rfl (mp_cons (v := v₆) rfl mp_nil)) ca₄ ?_
    have hO₇ : Own B h k₇ [eSl e_T_api_Cell v₁ x, eSl eInt v₂ x1.X, eSl eInt v₃ x1.Y, eSl eV v₄ vs₁, eAll eInt vs₁ x1.Vert, eSl eV v₅ vs₂, eAll eInt vs₂ x1.Horz, eBox r₁ [v₂, v₃, v₄, v₅], eSl eInt v₆ ([1, 2] : List Int)] := hO₆.call hW₄ rfl
    refine WO_v (a_mv (v := .b x5) rfl) ?_
    obtain ⟨t, hv₁, hp⟩ := bd_some hp
    refine WO_cut 7 (fun fr' k' => Own B h k' [eSl e_T_api_Cell v₁ x, eSl eInt v₂ x1.X, eSl eInt v₃ x1.Y, eSl eV v₄ vs₁, eAll eInt vs₁ x1.Vert, eSl eV v₅ vs₂, eAll eInt vs₂ x1.Horz, eBox r₁ [v₂, v₃, v₄, v₅], eSl eInt v₆ ([1, 2] : List Int)] ∧ fr' 42 = .b t ∧ fr' 1 = .p r₁ 0 ∧ fr' 3 = .i .i64 x3 ∧ fr' 4 = .i .i64 x4) ?_ ?_
    · clear hp; rcases if_some hv₁ with ⟨b₄, hp⟩ | ⟨b₄, hp⟩
      · skip
        refine WO_on rfl b₄ ?_
        refine WO_v (a_fa (r := r₁) (o := 0) (o' := 3) g₂_1 rfl) ?_
        refine WO_on rfl b₄ ?_
        refine WO_v (a_ldb (cs := [v₂, v₃, v₄, v₅]) (v := v₅) (hO₇.box 7 rfl) rfl rfl) ?_
        refine WO_on rfl b₄ ?_
        obtain ⟨c₂, hp⟩ := ck_some hp
        refine WO_v (a_ixa (E := eV) (z := 1) (hO₇.sl 5 rfl : Sl eV k₇ v₅ vs₂) rfl rfl (by rw [(hO₇.allLen 6 rfl : (vs₂).length = (x1.Horz).length)]; exact c₂)) ?_
        refine WO_on rfl b₄ ?_
        refine WO_v (a_ldE (w := (gi vs₂ (1 : Int).toNat)) (hO₇.sl 5 rfl : Sl eV k₇ v₅ vs₂) rfl (by rw [(hO₇.allLen 6 rfl : (vs₂).length = (x1.Horz).length)]; exact toNat_lt c₂) rfl) ?_
        refine WO_on rfl b₄ ?_
        refine WO_x (hO₇.bsl (E := eInt) (l := ([3, 2] : List Int)) hO₇.fr (by rw [(ev_cons (v := .i .i64 3) rfl (ev_cons (v := .i .i64 2) rfl ev_nil))]; rfl) rfl) ?_
        rintro v₇ k₈ ⟨r₃, f₄, hW⟩
        have hO₈ : Own B h k₈ [eSl e_T_api_Cell v₁ x, eSl eInt v₂ x1.X, eSl eInt v₃ x1.Y, eSl eV v₄ vs₁, eAll eInt vs₁ x1.Vert, eSl eV v₅ vs₂, eAll eInt vs₂ x1.Horz, eBox r₁ [v₂, v₃, v₄, v₅], eSl eInt v₆ ([1, 2] : List Int), eSl eInt v₇ ([3, 2] : List Int)] := hW
        refine WO_on rfl b₄ ?_
        obtain ⟨x6, hx₅, hp⟩ := bd_some hp
        obtain ⟨u₅, k₉, ca₅, rfl, hW₅⟩ := p_slices_Equal_int.ok (h := k₈)  (hO₈.inn 6 rfl (toNat_lt c₂) : Sl eInt k₈ (gi vs₂ (1 : Int).toNat) (gi x1.Horz (1 : Int).toNat)) (hO₈.sl 9 rfl : Sl eInt k₈ v₇ ([3, 2] : List Int)) hx₅
        refine WO_c (id := 33) (caps := []) rfl (mp_cons (v := (gi vs₂ (1 : Int).toNat)) rfl (mp_cons (v := v₇) rfl mp_nil)) ca₅ ?_
        have hO₉ : Own B h k₉ [eSl e_T_api_Cell v₁ x, eSl eInt v₂ x1.X, eSl eInt v₃ x1.Y, eSl eV v₄ vs₁, eAll eInt vs₁ x1.Vert, eSl eV v₅ vs₂, eAll eInt vs₂ x1.Horz, eBox r₁ [v₂, v₃, v₄, v₅], eSl eInt v₆ ([1, 2] : List Int), eSl eInt v₇ ([3, 2] : List Int)] := hO₈.call hW₅ rfl
        refine WO_v (a_pickT (t := x5) (v := .b t) rfl b₄ (Eq.trans (b := V.b x6) rfl (congrArg V.b (Option.some.inj hp)))) ?_
        refine WO_end ?_
        exact ⟨hO₉.pick [0, 1, 2, 3, 4, 5, 6, 7, 8] rfl (by decide), rfl, g₂_1, rfl, rfl⟩
      · skip
        refine WO_off rfl b₄ ?_
        refine WO_off rfl b₄ ?_
        refine WO_off rfl b₄ ?_
        refine WO_off rfl b₄ ?_
        refine WO_off rfl b₄ ?_
        refine WO_off rfl b₄ ?_
        refine WO_v (a_pickF (t := x5) (v := .b t) rfl b₄ (Eq.trans (b := V.b false) rfl (congrArg V.b (Option.some.inj hp)))) ?_
        refine WO_end ?_
        exact ⟨hO₇.pick [0, 1, 2, 3, 4, 5, 6, 7, 8] rfl (by decide), rfl, g₂_1, rfl, rfl⟩
    rintro frg₃ k₁₀ ⟨hO₁₀, g₃_42, g₃_1, g₃_3, g₃_4⟩
    refine WO_v (a_mv (v := .b t) g₃_42) ?_
    refine WO_cut 3 (fun fr' k' => k₁₀ = k' ∧ fr' 46 = .b (t && (decide (x3 = 0))) ∧ fr' 1 = .p r₁ 0 ∧ fr' 4 = .i .i64 x4) ?_ ?_
    · rcases bc t with b₅ | b₅
      · skip
        refine WO_on rfl b₅ ?_
        refine WO_v (a_mv (v := .i .i64 x3) g₃_3) ?_
        refine WO_on rfl b₅ ?_
        refine WO_v (a_eqI (a := x3) (b := 0) rfl rfl) ?_
        refine WO_v (a_pickT (t := t) (v := .b (t && (decide (x3 = 0)))) rfl b₅ (Eq.trans (b := V.b (decide (x3 = 0))) rfl (and_on b₅))) ?_
        refine WO_end ?_
        exact ⟨rfl, rfl, g₃_1, g₃_4⟩
      · skip
        refine WO_off rfl b₅ ?_
        refine WO_off rfl b₅ ?_
        refine WO_v (a_pickF (t := t) (v := .b (t && (decide (x3 = 0)))) rfl b₅ (Eq.trans (b := V.b false) rfl (and_off b₅))) ?_
        refine WO_end ?_
        exact ⟨rfl, rfl, g₃_1, g₃_4⟩
    rintro frg₄ _ ⟨rfl, g₄_46, g₄_1, g₄_4⟩
    refine WO_v (a_mv (v := .b (t && (decide (x3 = 0)))) g₄_46) ?_
    refine WO_cut 3 (fun fr' k' => k₁₀ = k' ∧ fr' 50 = .b ((t && (decide (x3 = 0))) && (decide (x4 = 1))) ∧ fr' 1 = .p r₁ 0) ?_ ?_
    · rcases bc (t && (decide (x3 = 0))) with b₆ | b₆
      · skip
        refine WO_on rfl b₆ ?_
        refine WO_v (a_mv (v := .i .i64 x4) g₄_4) ?_
        refine WO_on rfl b₆ ?_
        refine WO_v (a_eqI (a := x4) (b := 1) rfl rfl) ?_
        refine WO_v (a_pickT (t := (t && (decide (x3 = 0)))) (v := .b ((t && (decide (x3 = 0))) && (decide (x4 = 1)))) rfl b₆ (Eq.trans (b := V.b (decide (x4 = 1))) rfl (and_on b₆))) ?_
        refine WO_end ?_
        exact ⟨rfl, rfl, g₄_1⟩
      · skip
        refine WO_off rfl b₆ ?_
        refine WO_off rfl b₆ ?_
        refine WO_v (a_pickF (t := (t && (decide (x3 = 0)))) (v := .b ((t && (decide (x3 = 0))) && (decide (x4 = 1)))) rfl b₆ (Eq.trans (b := V.b false) rfl (and_off b₆))) ?_
        refine WO_end ?_
        exact ⟨rfl, rfl, g₄_1⟩
    rintro frg₅ _ ⟨rfl, g₅_50, g₅_1⟩
    refine WO_v (a_mv (v := .b ((t && (decide (x3 = 0))) && (decide (x4 = 1)))) g₅_50) ?_
    obtain ⟨t1, hv₂, hp⟩ := bd_some hp
    refine WO_cut 3 (fun fr' k' => Own B h k' [eSl e_T_api_Cell v₁ x, eSl eInt v₂ x1.X, eSl eInt v₃ x1.Y, eSl eV v₄ vs₁, eAll eInt vs₁ x1.Vert, eSl eV v₅ vs₂, eAll eInt vs₂ x1.Horz, eBox r₁ [v₂, v₃, v₄, v₅], eSl eInt v₆ ([1, 2] : List Int)] ∧ fr' 54 = .b t1 ∧ fr' 1 = .p r₁ 0) ?_ ?_
    · clear hp; rcases if_some hv₂ with ⟨b₇, hp⟩ | ⟨b₇, hp⟩
      · skip
        refine WO_on rfl b₇ ?_
        refine WO_v (a_ldbA (cs := [v₂, v₃, v₄, v₅]) (ws := [v₂, v₃, v₄, v₅]) (hO₁₀.box 7 rfl) g₅_1 rfl) ?_
        refine WO_on rfl b₇ ?_
        obtain ⟨x7, hx₆, hp⟩ := bd_some hp
        obtain ⟨u₆, k₁₁, ca₆, rfl, hW₆⟩ := p_seg_Chains_Meet.ok (h := k₁₀)  (hO₁₀.sl 1 rfl : Sl eInt k₁₀ v₂ x1.X) (hO₁₀.sl 2 rfl : Sl eInt k₁₀ v₃ x1.Y) (hO₁₀.sl 3 rfl : Sl eV k₁₀ v₄ vs₁) (hO₁₀.allLen 4 rfl : (vs₁).length = (x1.Vert).length) (fun j hj => hO₁₀.inn 4 rfl hj) (hO₁₀.sl 5 rfl : Sl eV k₁₀ v₅ vs₂) (hO₁₀.allLen 6 rfl : (vs₂).length = (x1.Horz).length) (fun j hj => hO₁₀.inn 6 rfl hj) hx₆
        refine WO_c (id := 123) (caps := []) rfl (mp_cons (v := .ag [v₂, v₃, v₄, v₅]) rfl (mp_cons (v := .b true) rfl (mp_cons (v := .i .i64 0) rfl (mp_cons (v := .b false) rfl (mp_cons (v := .i .i64 1) rfl mp_nil))))) ca₆ ?_
        have hO₁₁ : Own B h k₁₁ [eSl e_T_api_Cell v₁ x, eSl eInt v₂ x1.X, eSl eInt v₃ x1.Y, eSl eV v₄ vs₁, eAll eInt vs₁ x1.Vert, eSl eV v₅ vs₂, eAll eInt vs₂ x1.Horz, eBox r₁ [v₂, v₃, v₄, v₅], eSl eInt v₆ ([1, 2] : List Int)] := hO₁₀.call hW₆ rfl
        refine WO_v (a_pickT (t := ((t && (decide (x3 = 0))) && (decide (x4 = 1)))) (v := .b t1) rfl b₇ (Eq.trans (b := V.b x7) rfl (congrArg V.b (Option.some.inj hp)))) ?_
        refine WO_end ?_
        exact ⟨hO₁₁.pick [0, 1, 2, 3, 4, 5, 6, 7, 8] rfl (by decide), rfl, g₅_1⟩
      · skip
        refine WO_off rfl b₇ ?_
        refine WO_off rfl b₇ ?_
        refine WO_v (a_pickF (t := ((t && (decide (x3 = 0))) && (decide (x4 = 1)))) (v := .b t1) rfl b₇ (Eq.trans (b := V.b false) rfl (congrArg V.b (Option.some.inj hp)))) ?_
        refine WO_end ?_
        exact ⟨hO₁₀.pick [0, 1, 2, 3, 4, 5, 6, 7, 8] rfl (by decide), rfl, g₅_1⟩
    rintro frg₆ k₁₂ ⟨hO₁₂, g₆_54, g₆_1⟩
    refine WO_v (a_mv (v := .b t1) g₆_54) ?_
    obtain ⟨t2, hv₃, hp⟩ := bd_some hp
    refine WO_cut 4 (fun fr' k' => Own B h k' [eSl e_T_api_Cell v₁ x, eSl eInt v₂ x1.X, eSl eInt v₃ x1.Y, eSl eV v₄ vs₁, eAll eInt vs₁ x1.Vert, eSl eV v₅ vs₂, eAll eInt vs₂ x1.Horz, eBox r₁ [v₂, v₃, v₄, v₅], eSl eInt v₆ ([1, 2] : List Int)] ∧ fr' 59 = .b t2) ?_ ?_
    · clear hp; rcases if_some hv₃ with ⟨b₈, hp⟩ | ⟨b₈, hp⟩
      · skip
        refine WO_on rfl b₈ ?_
        refine WO_v (a_ldbA (cs := [v₂, v₃, v₄, v₅]) (ws := [v₂, v₃, v₄, v₅]) (hO₁₂.box 7 rfl) g₆_1 rfl) ?_
        refine WO_on rfl b₈ ?_
        obtain ⟨x8, hx₇, hp⟩ := bd_some hp
        obtain ⟨u₇, k₁₃, ca₇, rfl, hW₇⟩ := p_seg_Chains_Meet.ok (h := k₁₂)  (hO₁₂.sl 1 rfl : Sl eInt k₁₂ v₂ x1.X) (hO₁₂.sl 2 rfl : Sl eInt k₁₂ v₃ x1.Y) (hO₁₂.sl 3 rfl : Sl eV k₁₂ v₄ vs₁) (hO₁₂.allLen 4 rfl : (vs₁).length = (x1.Vert).length) (fun j hj => hO₁₂.inn 4 rfl hj) (hO₁₂.sl 5 rfl : Sl eV k₁₂ v₅ vs₂) (hO₁₂.allLen 6 rfl : (vs₂).length = (x1.Horz).length) (fun j hj => hO₁₂.inn 6 rfl hj) hx₇
        refine WO_c (id := 123) (caps := []) rfl (mp_cons (v := .ag [v₂, v₃, v₄, v₅]) rfl (mp_cons (v := .b true) rfl (mp_cons (v := .i .i64 0) rfl (mp_cons (v := .b true) rfl (mp_cons (v := .i .i64 1) rfl mp_nil))))) ca₇ ?_
        have hO₁₃ : Own B h k₁₃ [eSl e_T_api_Cell v₁ x, eSl eInt v₂ x1.X, eSl eInt v₃ x1.Y, eSl eV v₄ vs₁, eAll eInt vs₁ x1.Vert, eSl eV v₅ vs₂, eAll eInt vs₂ x1.Horz, eBox r₁ [v₂, v₃, v₄, v₅], eSl eInt v₆ ([1, 2] : List Int)] := hO₁₂.call hW₇ rfl
        refine WO_on rfl b₈ ?_
        refine WO_v (a_not (t := x8) rfl) ?_
        refine WO_v (a_pickT (t := t1) (v := .b t2) rfl b₈ (Eq.trans (b := V.b (!x8)) rfl (congrArg V.b (Option.some.inj hp)))) ?_
        refine WO_end ?_
        exact ⟨hO₁₃.pick [0, 1, 2, 3, 4, 5, 6, 7, 8] rfl (by decide), rfl⟩
      · skip
        refine WO_off rfl b₈ ?_
        refine WO_off rfl b₈ ?_
        refine WO_off rfl b₈ ?_
        refine WO_v (a_pickF (t := t1) (v := .b t2) rfl b₈ (Eq.trans (b := V.b false) rfl (congrArg V.b (Option.some.inj hp)))) ?_
        refine WO_end ?_
        exact ⟨hO₁₂.pick [0, 1, 2, 3, 4, 5, 6, 7, 8] rfl (by decide), rfl⟩
    rintro frg₇ k₁₄ ⟨hO₁₄, g₇_59⟩
    refine WO_v (a_mv (v := .b t2) g₇_59) ?_
    refine WO_end ?_
    refine then_n ?_
    refine W_rt ?_
    refine Ret_r (rs_t (n := 0) (v := .b t2) rfl rs_nil) ?_
    have hp := Option.some.inj hp; subst hp
    exact (And.intro rfl (hO₁₄.pick [] rfl (by decide)))

end Mu
