/- The code comes to what was worked out. -/
import Derived.Test.YtdefkboekpjiiaaMuDf
import Derived.Test.YtdefkboekpjiiaaMuPa
import Derived.Test.YtdefkboekpjiiaaMuC0
set_option linter.unusedVariables false
set_option linter.unnecessarySimpa false
set_option linter.unusedSimpArgs false
set_option maxHeartbeats 2000000
set_option maxRecDepth 10000
namespace Mu
open Go (IntKind BinOp UnOp)
theorem p_slices_Repeat_int.ok {h : Hp} {x : List Int} {count : Int} {v_x : V} (s_x : Sl eInt h v_x x) {r : (List Int)} (hp : p_slices_Repeat_int x count = some r) :
    ∃ u k', Is G 83 [v_x, .i .i64 count] h u k' ∧ ∃ (v₁ : V), v₁ = u ∧ Own (fun r => r < h.n) h k' [eSl eInt v₁ r] := by
  refine WC.is (WC_of G_F_slices_Repeat_int ?_)
  unfold p_slices_Repeat_int at hp
  let B : Nat → Prop := (fun r => r < h.n)
  have hO : Own B h h [] := Own.start0 h
  refine W_sq ?_
  refine W_rg ?_
  refine WO_v (a_mv (v := .sn) rfl) ?_
  refine WO_end ?_
  refine then_n ?_
  refine W_sq ?_
  refine W_sq ?_
  refine W_rg ?_
  refine WO_v (a_mv (v := .i .i64 count) rfl) ?_
  refine WO_v (a_lss (a := count) (b := 0) rfl rfl) ?_
  refine WO_end ?_
  refine then_n ?_
  obtain ⟨o₁, ho₁, hp⟩ := bd_some hp
  refine W.mono (Q := fun e fr k => match (generalizing := false) o₁ with
      | _ => e = .normal ∧ fr 0 = v_x ∧ fr 1 = .i .i64 count ∧ Own B h k []) ?_ ?_
  · clear hp; have hp := ho₁; clear ho₁
    rcases if_some hp with ⟨b₁, hp⟩ | ⟨b₁, hp⟩
    · refine W_cT (t := (decide (count < 0))) rfl b₁ ?_
      exact nomatch hp
    · refine W_cF (t := (decide (count < 0))) rfl b₁ ?_
      refine W_sk ?_
      have hp := Option.some.inj hp; subst hp
      exact (And.intro rfl (And.intro (rfl) (And.intro (rfl) (hO.pick [] rfl (by decide)))))
  intro e₁ q₁ k₁ hJ₁
  obtain ⟨rfl, q₁_0, q₁_1, hO₁⟩ := hJ₁
  refine then_n ?_
  refine W_sq ?_
  refine W_rg ?_
  refine WO_v (a_mv (v := v_x) q₁_0) ?_
  refine WO_v (a_len (hO₁.rd0 s_x.rd : Sl eInt k₁ v_x x) rfl) ?_
  obtain ⟨c₁, hp⟩ := ck_some hp
  refine WO_v (a_conv (a := (x.length : Int)) rfl c₁) ?_
  refine WO_v (a_mv (v := .i .i64 count) q₁_1) ?_
  obtain ⟨c₂, hp⟩ := ck_some hp
  refine WO_v (a_conv (a := count) rfl c₂) ?_
  obtain ⟨⟨x1, x2⟩, hx₁, hp⟩ := bd_some hp
  obtain ⟨u₁, k₂, ca₁, rfl, hW₁⟩ := p_bits_Mul.ok (h := k₁)   hx₁
  refine WO_c (id := 89) (caps := []) rfl (mp_cons (v := .i .u64 (x.length : Int)) rfl (mp_cons (v := .i .u64 count) rfl mp_nil)) ca₁ ?_
  have hO₂ : Own B h k₂ [] := hO₁.call hW₁ rfl
  refine WO_v (a_mv (v := .tu [.i .u64 x1, .i .u64 x2]) rfl) ?_
  refine WO_v (a_ext (vs := [.i .u64 x1, .i .u64 x2]) (v := .i .u64 x1) rfl rfl) ?_
  refine WO_v (a_ext (vs := [.i .u64 x1, .i .u64 x2]) (v := .i .u64 x2) rfl rfl) ?_
  refine WO_v (a_mv (v := .i .u64 x1) rfl) ?_
  refine WO_v (a_mv (v := .i .u64 x2) rfl) ?_
  refine WO_end ?_
  refine then_n ?_
  refine W_sq ?_
  refine W_sq ?_
  refine W_rg ?_
  refine WO_v (a_mv (v := .i .u64 x1) rfl) ?_
  refine WO_v (a_gtr (a := x1) (b := 0) rfl rfl) ?_
  refine WO_v (a_mv (v := .b (decide (0 < x1))) rfl) ?_
  refine WO_cut 3 (fun fr' k' => k₂ = k' ∧ fr' 26 = .b ((decide (0 < x1)) || (decide (9223372036854775807 < x2))) ∧ fr' 0 = v_x ∧ fr' 6 = .i .u64 x2) ?_ ?_
  · rcases bc (decide (0 < x1)) with b₂ | b₂
    · skip
      refine WO_off rfl b₂ ?_
      refine WO_off rfl b₂ ?_
      refine WO_v (a_pickT (t := (decide (0 < x1))) (v := .b ((decide (0 < x1)) || (decide (9223372036854775807 < x2)))) rfl b₂ (Eq.trans (b := V.b true) rfl (or_off b₂))) ?_
      refine WO_end ?_
      exact ⟨rfl, rfl, q₁_0, rfl⟩
    · skip
      refine WO_on rfl b₂ ?_
      refine WO_v (a_mv (v := .i .u64 x2) rfl) ?_
      refine WO_on rfl b₂ ?_
      refine WO_v (a_gtr (a := x2) (b := 9223372036854775807) rfl rfl) ?_
      refine WO_v (a_pickF (t := (decide (0 < x1))) (v := .b ((decide (0 < x1)) || (decide (9223372036854775807 < x2)))) rfl b₂ (Eq.trans (b := V.b (decide (9223372036854775807 < x2))) rfl (or_on b₂))) ?_
      refine WO_end ?_
      exact ⟨rfl, rfl, q₁_0, rfl⟩
  rintro frg₁ _ ⟨rfl, g₁_26, g₁_0, g₁_6⟩
  refine WO_end ?_
  refine then_n ?_
  obtain ⟨o₂, ho₂, hp⟩ := bd_some hp
  refine W.mono (Q := fun e fr k => match (generalizing := false) o₂ with
      | _ => e = .normal ∧ fr 0 = v_x ∧ fr 6 = .i .u64 x2 ∧ Own B h k []) ?_ ?_
  · clear hp; have hp := ho₂; clear ho₂
    rcases if_some hp with ⟨b₃, hp⟩ | ⟨b₃, hp⟩
    · refine W_cT (t := ((decide (0 < x1)) || (decide (9223372036854775807 < x2)))) g₁_26 b₃ ?_
      exact nomatch hp
    · refine W_cF (t := ((decide (0 < x1)) || (decide (9223372036854775807 < x2)))) g₁_26 b₃ ?_
      refine W_sk ?_
      have hp := Option.some.inj hp; subst hp
      exact (And.intro rfl (And.intro (g₁_0) (And.intro (g₁_6) (hO₂.pick [] rfl (by decide)))))
  intro e₂ q₂ k₃ hJ₂
  obtain ⟨rfl, q₂_0, q₂_6, hO₃⟩ := hJ₂
  refine then_n ?_
  refine W_sq ?_
  refine W_rg ?_
  refine WO_v (a_mv (v := .i .u64 x2) q₂_6) ?_
  obtain ⟨c₃, hp⟩ := ck_some hp
  refine WO_v (a_conv (a := x2) rfl c₃) ?_
  obtain ⟨c₄, hp⟩ := ck_some hp
  refine WO_x (hO₃.mks (E := eInt) (y := (0 : Int)) (bytes := 8) (z := x2) hO₃.fr rfl rfl rfl c₄ (by decide)) ?_
  rintro v₂ k₄ ⟨r₁, f₁, hW⟩
  have hO₄ : Own B h k₄ [eSl eInt v₂ (List.replicate (x2 : Int).toNat (0 : Int))] := hW
  refine WO_v (a_mv (v := v₂) rfl) ?_
  refine WO_end ?_
  refine then_n ?_
  refine W_sq ?_
  refine W_rg ?_
  refine WO_v (a_mv (v := v₂) rfl) ?_
  refine WO_v (a_mv (v := v_x) q₂_0) ?_
  refine WO_x (hO₄.cpy (E := eInt) 0 rfl (hO₄.rd0 s_x.rd : Sl eInt k₄ v_x x) rfl rfl (fun _ => rfl)) ?_
  rintro _ k₅ ⟨rfl, f₂, hW⟩
  have hO₅ : Own B h k₅ [eSl eInt v₂ (x.take (List.replicate (x2 : Int).toNat (0 : Int)).length ++ (List.replicate (x2 : Int).toNat (0 : Int)).drop x.length)] := hW
  refine WO_v (a_mv (v := .i .i64 ((min x.length (List.replicate (x2 : Int).toNat (0 : Int)).length : Nat) : Int)) rfl) ?_
  refine WO_end ?_
  refine then_n ?_
  refine W_sq ?_
  refine W_bl ?_
  obtain ⟨o₃, ho₃, hp⟩ := bd_some hp
  refine W.mono (Q := fun e fr k => match (generalizing := false) o₃ with
      | newslice1 => e = (.exit 0) ∧ fr 7 = v₂ ∧ Own B h k [eSl eInt v₂ newslice1]) ?_ ?_
  · clear hp
    refine W_loopF (fun st fr k => match st with | (newslice, n) => fr 7 = v₂ ∧ fr 8 = .i .i64 n ∧ Own B h k [eSl eInt v₂ newslice]) ho₃ (s := (x.take (List.replicate (x2 : Int).toNat (0 : Int)).length ++ (List.replicate (x2 : Int).toNat (0 : Int)).drop x.length, ((min x.length (List.replicate (x2 : Int).toNat (0 : Int)).length : Nat) : Int))) (And.intro (rfl) (And.intro (rfl) (hO₅.pick [0] rfl (by decide)))) ?_
    rintro ⟨newslice, n⟩ q₄ k₇ ⟨q₄_7, q₄_8, hO₇⟩ o₄ hp
    dsimp only [p_slices_Repeat_int.s0] at hp
    refine W_sq ?_
    refine W_sq ?_
    refine W_rg ?_
    refine WO_v (a_mv (v := .i .i64 n) q₄_8) ?_
    refine WO_v (a_mv (v := v₂) q₄_7) ?_
    refine WO_v (a_len (hO₇.sl 0 rfl : Sl eInt k₇ v₂ newslice) rfl) ?_
    refine WO_v (a_lss (a := n) (b := (newslice.length : Int)) rfl rfl) ?_
    refine WO_end ?_
    refine then_n ?_
    rcases if_some hp with ⟨b₄, hp⟩ | ⟨b₄, hp⟩
    · refine W_cT (t := (decide (n < (newslice.length : Int)))) rfl b₄ ?_
      refine W_sk ?_
      refine then_n ?_
      refine W_bl ?_
      refine W_dr ?_
      have hW := hO₇.bump 10
      have fr₁ := Fresh.start k₇ 10
      have nb₁ : ∀ {i : Nat}, h.n ≤ k₇.n + i := Nat.le_trans hO₇.n (Nat.le_add_right _ _)
      have hO₈ : Own B h (k₇.bump 10) [eSl eInt v₂ newslice] := hW
      refine WD_v (a_mv (v := .i .i64 n) q₄_8) ?_
      refine WD_v (a_mv (v := v₂) q₄_7) ?_
      refine WD_v (a_mv (v := .i .i64 n) q₄_8) ?_
      obtain ⟨c₅, hp⟩ := ck_some hp
      refine WD_v (a_slcF (E := eInt) (z := n) (hO₈.sl 0 rfl : Sl eInt (k₇.bump 10) v₂ newslice) rfl rfl c₅) ?_
      refine WD_v (a_mv (v := v₂) q₄_7) ?_
      refine WD_v (a_mv (v := .i .i64 n) q₄_8) ?_
      refine WD_v (a_slcU (E := eInt) (z := n) (hO₈.sl 0 rfl : Sl eInt (k₇.bump 10) v₂ newslice) rfl rfl c₅) ?_
      refine WD_x (hO₈.cpyF (E := eInt) (z := n) 0 rfl c₅ (Sl.cutU (hO₈.sl 0 rfl : Sl eInt (k₇.bump 10) v₂ newslice) c₅ : Sl eInt (k₇.bump 10) (V.cut v₂ 0 (n : Int).toNat) (newslice.take (n : Int).toNat)) rfl rfl (fun _ => rfl)) ?_
      rintro _ k₉ z₁ ⟨rfl, f₃, hW⟩
      have fr₂ := fr₁.kept f₃ (by decide)
      have hO₉ : Own B h k₉ [eSl eInt v₂ (newslice.take (n : Int).toNat ++ ((newslice.take (n : Int).toNat).take (newslice.drop (n : Int).toNat).length ++ (newslice.drop (n : Int).toNat).drop (newslice.take (n : Int).toNat).length))] := hW
      obtain ⟨c₆, hp⟩ := ck_some hp
      refine WD_v (a_add (a := n) (b := ((min (newslice.take (n : Int).toNat).length (newslice.drop (n : Int).toNat).length : Nat) : Int)) rfl rfl c₆) ?_
      refine WD_v (a_mv (v := .i .i64 (n + ((min (newslice.take (n : Int).toNat).length (newslice.drop (n : Int).toNat).length : Nat) : Int))) rfl) ?_
      refine WD_end ?_
      refine And.intro ?_ ?_
      · intro q hq
        cases hq
      refine blk_n ?_
      have hp := Option.some.inj hp; subst hp
      exact (Or.inl (Exists.intro (newslice.take (n : Int).toNat ++ ((newslice.take (n : Int).toNat).take (newslice.drop (n : Int).toNat).length ++ (newslice.drop (n : Int).toNat).drop (newslice.take (n : Int).toNat).length), n + ((min (newslice.take (n : Int).toNat).length (newslice.drop (n : Int).toNat).length : Nat) : Int)) (And.intro rfl (And.intro rfl (And.intro (q₄_7) (And.intro (rfl) (hO₉.pick [0] rfl (by decide))))))))
    · refine W_cF (t := (decide (n < (newslice.length : Int)))) rfl b₄ ?_
      refine W_ex ?_
      refine then_e ?_
      have hp := Option.some.inj hp; subst hp
      refine (Or.inr (Exists.intro newslice (And.intro rfl (And.intro (fun h => nomatch h) (fun he => ?_)))))
      subst he; exact (And.intro rfl (And.intro (q₄_7) (hO₇.pick [0] rfl (by decide))))
  intro e₃ q₃ k₆ hJ₃
  obtain ⟨newslice1, rfl⟩ : ∃ x, x = o₃ := ⟨_, rfl⟩
  obtain ⟨rfl, q₃_7, hO₆⟩ := hJ₃
  refine blk_i ?_
  refine then_n ?_
  refine W_sq ?_
  refine W_rg ?_
  refine WO_v (a_mv (v := v₂) q₃_7) ?_
  refine WO_v (a_mv (v := v₂) rfl) ?_
  refine WO_end ?_
  refine then_n ?_
  refine W_rt ?_
  refine Ret_r (rs_t (n := 4) (v := v₂) rfl rs_nil) ?_
  have hp := Option.some.inj hp; subst hp
  exact (Exists.intro v₂ (And.intro rfl (hO₆.pick [0] rfl (by decide))))

theorem p_seg_chains.ok {h : Hp} {cells : List T_api_Cell} {d : Int} {v_cells : V} (s_cells : Sl e_T_api_Cell h v_cells cells) {r : (List Int) × (List (List Int)) × Bool} (hp : p_seg_chains cells d = some r) :
    ∃ u k', Is G 137 [v_cells, .i .i64 d] h u k' ∧ ∃ (v₁ : V), ∃ (v₂ : V), ∃ (vs₁ : List V), V.tu [v₁, v₂, .b r.2.2] = u ∧ Own (fun r => r < h.n) h k' [eSl eInt v₁ r.1, eSl eV v₂ vs₁, eAll eInt vs₁ r.2.1] := by
  refine WC.is (WC_of G_F_seg_chains ?_)
  unfold p_seg_chains at hp
  let B : Nat → Prop := (fun r => r < h.n)
  have hO : Own B h h [] := Own.start0 h
  refine W_sq ?_
  refine W_rg ?_
  refine WO_v (a_mv (v := .sn) rfl) ?_
  refine WO_v (a_mv (v := .sn) rfl) ?_
  refine WO_v (a_mv (v := .b false) rfl) ?_
  refine WO_end ?_
  refine then_n ?_
  refine W_sq ?_
  refine W_rg ?_
  refine WO_x (hO.bsl (E := eInt) (l := ([(-1)] : List Int)) hO.fr (by rw [(ev_cons (v := .i .i64 (-1)) rfl ev_nil)]; rfl) rfl) ?_
  rintro v₃ k₁ ⟨r₁, f₁, hW⟩
  have hO₁ : Own B h k₁ [eSl eInt v₃ ([(-1)] : List Int)] := hW
  refine WO_v (a_mv (v := v_cells) rfl) ?_
  refine WO_v (a_len (hO₁.rd0 s_cells.rd : Sl e_T_api_Cell k₁ v_cells cells) rfl) ?_
  obtain ⟨x, hx₁, hp⟩ := bd_some hp
  obtain ⟨u₁, k₂, ca₁, v₄, rfl, hW₁⟩ := p_slices_Repeat_int.ok (h := k₁)  (hO₁.sl 0 rfl : Sl eInt k₁ v₃ ([(-1)] : List Int)) hx₁
  refine WO_c (id := 83) (caps := []) rfl (mp_cons (v := v₃) rfl (mp_cons (v := .i .i64 (cells.length : Int)) rfl mp_nil)) ca₁ ?_
  have hO₂ : Own B h k₂ [eSl eInt v₃ ([(-1)] : List Int), eSl eInt v₄ x] := hO₁.call hW₁ rfl
  refine WO_v (a_mv (v := v₄) rfl) ?_
  refine WO_end ?_
  refine then_n ?_
  refine W_sq ?_
  refine W_rg ?_
  refine WO_v (a_mv (v := .i .i64 d) rfl) ?_
  obtain ⟨x1, hx₂, hp⟩ := bd_some hp
  obtain ⟨u₂, k₃, ca₂, rfl, hW₂⟩ := p_compass_Left.ok (h := k₂)   hx₂
  refine WO_c (id := 77) (caps := []) rfl (mp_cons (v := .i .i64 d) rfl (mp_cons (v := .i .i64 2) rfl mp_nil)) ca₂ ?_
  have hO₃ : Own B h k₃ [eSl eInt v₃ ([(-1)] : List Int), eSl eInt v₄ x] := hO₂.call hW₂ rfl
  refine WO_v (a_mv (v := .i .i64 x1) rfl) ?_
  refine WO_end ?_
  refine then_n ?_
  refine W_sq ?_
  refine W_rg ?_
  refine WO_v (a_mv (v := .sn) rfl) ?_
  refine WO_end ?_
  refine then_n ?_
  refine W_sq ?_
  refine W_sq ?_
  refine W_rg ?_
  refine WO_v (a_mv (v := v_cells) rfl) ?_
  refine WO_v (a_len (hO₃.rd0 s_cells.rd : Sl e_T_api_Cell k₃ v_cells cells) rfl) ?_
  refine WO_v (a_mv (v := .i .i64 0) rfl) ?_
  refine WO_end ?_
  refine then_n ?_
  refine W_bl ?_
  obtain ⟨o₁, ho₁, hp⟩ := bd_some hp
  refine W.mono (Q := fun e fr k => match (generalizing := false) o₁ with
      | .inl (at_1, l1) => e = (.exit 0) ∧ ∃ (v₆ : V), ∃ (vs₃ : List V), fr 7 = v₄ ∧ fr 9 = v₆ ∧ Own B h k [eSl eInt v₄ at_1, eSl eV v₆ vs₃, eAll eInt vs₃ l1]
      | .inr _ => e = .ret ∧ fr 4 = .sn ∧ fr 5 = .sn ∧ fr 6 = .b false ∧ Own B h k []) ?_ ?_
  · clear hp
    have hO₅ : Own B h k₃ [eSl eInt v₃ ([(-1)] : List Int), eSl eInt v₄ x, eSl eV .sn []] := hO₃.nil eV
    have hO₆ : Own B h k₃ [eSl eInt v₃ ([(-1)] : List Int), eSl eInt v₄ x, eSl eV .sn [], eAll eInt [] []] := hO₅.allNil eInt 0
    refine W_loopF (fun st fr k => match st with | (at_, l, x2) => ∃ (v₅ : V), ∃ (vs₂ : List V), fr 0 = v_cells ∧ fr 1 = .i .i64 d ∧ fr 7 = v₄ ∧ fr 8 = .i .i64 x1 ∧ fr 9 = v₅ ∧ fr 22 = .i .i64 (cells.length : Int) ∧ fr 23 = .i .i64 x2 ∧ Own B h k [eSl eInt v₄ at_, eSl eV v₅ vs₂, eAll eInt vs₂ l]) ho₁ (s := (x, ([] : List (List Int)), 0)) (Exists.intro V.sn (Exists.intro [] (And.intro (rfl) (And.intro (rfl) (And.intro (rfl) (And.intro (rfl) (And.intro (rfl) (And.intro (rfl) (And.intro (rfl) (hO₆.pick [1, 2, 3] rfl (by decide))))))))))) ?_
    rintro ⟨at_, l, x2⟩ q₂ k₅ ⟨v₅, vs₂, q₂_0, q₂_1, q₂_7, q₂_8, q₂_9, q₂_22, q₂_23, hO₇⟩ o₂ hp
    dsimp only [p_seg_chains.s0] at hp
    refine W_sq ?_
    refine W_rg ?_
    refine WO_v (a_lss (a := x2) (b := (cells.length : Int)) q₂_23 q₂_22) ?_
    refine WO_end ?_
    refine then_n ?_
    refine W_sq ?_
    rcases if_some hp with ⟨b₁, hp⟩ | ⟨b₁, hp⟩
    · refine W_cT (t := (decide (x2 < (cells.length : Int)))) rfl b₁ ?_
      refine W_sk ?_
      refine then_n ?_
      refine W_sq ?_
      refine W_bl ?_
      refine W_sq ?_
      refine W_rg ?_
      refine WO_v (a_mv (v := .i .i64 x2) q₂_23) ?_
      refine WO_v (a_mv (v := .i .i64 x2) rfl) ?_
      refine WO_end ?_
      refine then_n ?_
      refine W_sq ?_
      refine W_sq ?_
      refine W_rg ?_
      refine WO_v (a_mv (v := v₄) q₂_7) ?_
      refine WO_v (a_mv (v := .i .i64 x2) rfl) ?_
      obtain ⟨c₁, hp⟩ := ck_some hp
      refine WO_v (a_ixa (E := eInt) (z := x2) (hO₇.sl 0 rfl : Sl eInt k₅ v₄ at_) rfl rfl c₁) ?_
      refine WO_v (a_ldE (w := .i .i64 (gi at_ (x2 : Int).toNat)) (hO₇.sl 0 rfl : Sl eInt k₅ v₄ at_) rfl (toNat_lt c₁) rfl) ?_
      refine WO_v (a_geq (a := (gi at_ (x2 : Int).toNat)) (b := 0) rfl rfl) ?_
      refine WO_end ?_
      refine then_n ?_
      rcases if_some hp with ⟨b₂, hp⟩ | ⟨b₂, hp⟩
      · refine W_cT (t := (decide (0 ≤ (gi at_ (x2 : Int).toNat)))) rfl b₂ ?_
        refine W_ex ?_
        refine then_e ?_
        refine blk_i ?_
        refine then_n ?_
        refine W_rg ?_
        obtain ⟨c₂, hp⟩ := ck_some hp
        refine WO_v (a_add (a := x2) (b := 1) q₂_23 rfl c₂) ?_
        refine WO_v (a_mv (v := .i .i64 (x2 + 1)) rfl) ?_
        refine WO_end ?_
        have hp := Option.some.inj hp; subst hp
        exact (Or.inl (Exists.intro (at_, l, x2 + 1) (And.intro rfl (And.intro rfl (Exists.intro v₅ (Exists.intro vs₂ (And.intro (q₂_0) (And.intro (q₂_1) (And.intro (q₂_7) (And.intro (q₂_8) (And.intro (q₂_9) (And.intro (q₂_22) (And.intro (rfl) (hO₇.pick [0, 1, 2] rfl (by decide)))))))))))))))
      · refine W_cF (t := (decide (0 ≤ (gi at_ (x2 : Int).toNat)))) rfl b₂ ?_
        refine W_sk ?_
        refine then_n ?_
        refine W_sq ?_
        refine W_rg ?_
        refine WO_v (a_mv (v := .i .i64 x2) rfl) ?_
        refine WO_v (a_mv (v := .i .i64 x2) rfl) ?_
        refine WO_end ?_
        refine then_n ?_
        refine W_sq ?_
        refine W_sq ?_
        refine W_rg ?_
        refine WO_v (a_mv (v := .i .i64 0) rfl) ?_
        refine WO_end ?_
        refine then_n ?_
        refine W_bl ?_
        obtain ⟨o₃, ho₂, hp⟩ := bd_some hp
        refine W.mono (Q := fun e fr k => match (generalizing := false) o₃ with
            | .inl first1 => e = (.exit 2) ∧ fr 0 = v_cells ∧ fr 1 = .i .i64 d ∧ fr 7 = v₄ ∧ fr 8 = .i .i64 x1 ∧ fr 9 = v₅ ∧ fr 11 = .i .i64 first1 ∧ fr 22 = .i .i64 (cells.length : Int) ∧ fr 23 = .i .i64 x2 ∧ Own B h k [eSl eInt v₄ at_, eSl eV v₅ vs₂, eAll eInt vs₂ l]
            | .inr _ => e = .ret ∧ fr 4 = .sn ∧ fr 5 = .sn ∧ fr 6 = .b false ∧ Own B h k []) ?_ ?_
        · clear hp
          refine W_loopF (fun st fr k => match st with | (first, n) => fr 0 = v_cells ∧ fr 1 = .i .i64 d ∧ fr 7 = v₄ ∧ fr 8 = .i .i64 x1 ∧ fr 9 = v₅ ∧ fr 11 = .i .i64 first ∧ fr 12 = .i .i64 n ∧ fr 22 = .i .i64 (cells.length : Int) ∧ fr 23 = .i .i64 x2 ∧ Own B h k [eSl eInt v₄ at_, eSl eV v₅ vs₂, eAll eInt vs₂ l]) ho₂ (s := (x2, 0)) (And.intro (q₂_0) (And.intro (q₂_1) (And.intro (q₂_7) (And.intro (q₂_8) (And.intro (q₂_9) (And.intro (rfl) (And.intro (rfl) (And.intro (q₂_22) (And.intro (q₂_23) (hO₇.pick [0, 1, 2] rfl (by decide))))))))))) ?_
          rintro ⟨first, n⟩ q₄ k₇ ⟨q₄_0, q₄_1, q₄_7, q₄_8, q₄_9, q₄_11, q₄_12, q₄_22, q₄_23, hO₉⟩ o₄ hp
          dsimp only [p_seg_chains.s1] at hp
          refine W_sq ?_
          refine W_sq ?_
          refine W_rg ?_
          refine WO_v (a_mv (v := v_cells) q₄_0) ?_
          refine WO_v (a_mv (v := .i .i64 first) q₄_11) ?_
          refine WO_v (a_mv (v := .i .i64 x1) q₄_8) ?_
          obtain ⟨c₃, hp⟩ := ck_some hp
          refine WO_v (a_ixa (E := e_T_api_Cell) (z := first) (hO₉.rd0 s_cells.rd : Sl e_T_api_Cell k₇ v_cells cells) rfl rfl c₃) ?_
          refine WO_v (a_faE (off' := 0) (off2 := 0) (hO₉.rd0 s_cells.rd : Sl e_T_api_Cell k₇ v_cells cells) (toNat_lt c₃) rfl rfl) ?_
          obtain ⟨c₄, hp⟩ := ck_some hp
          refine WO_v (a_ixaaE (off := 0) (off2 := (0 + (x1 : Int).toNat * 1)) (z := x1) (hO₉.rd0 s_cells.rd : Sl e_T_api_Cell k₇ v_cells cells) (toNat_lt c₃) rfl rfl c₄ rfl) ?_
          refine WO_v (a_ldE (w := .i .i64 (((gi cells (first : Int).toNat).Next).get x1)) (hO₉.rd0 s_cells.rd : Sl e_T_api_Cell k₇ v_cells cells) rfl (toNat_lt c₃) (ld_T_api_Cell_Next c₄)) ?_
          refine WO_v (a_geq (a := (((gi cells (first : Int).toNat).Next).get x1)) (b := 0) rfl rfl) ?_
          refine WO_end ?_
          refine then_n ?_
          rcases if_some hp with ⟨b₃, hp⟩ | ⟨b₃, hp⟩
          · refine W_cT (t := (decide (0 ≤ (((gi cells (first : Int).toNat).Next).get x1)))) rfl b₃ ?_
            refine W_sk ?_
            refine then_n ?_
            refine W_sq ?_
            refine W_bl ?_
            refine W_sq ?_
            refine W_sq ?_
            refine W_rg ?_
            refine WO_v (a_mv (v := .i .i64 n) q₄_12) ?_
            refine WO_v (a_mv (v := v_cells) q₄_0) ?_
            refine WO_v (a_len (hO₉.rd0 s_cells.rd : Sl e_T_api_Cell k₇ v_cells cells) rfl) ?_
            refine WO_v (a_eqI (a := n) (b := (cells.length : Int)) rfl rfl) ?_
            refine WO_end ?_
            refine then_n ?_
            rcases if_some hp with ⟨b₄, hp⟩ | ⟨b₄, hp⟩
            · refine W_cT (t := (decide (n = (cells.length : Int)))) rfl b₄ ?_
              refine W_sq ?_
              refine W_rg ?_
              refine WO_v (a_mv (v := .sn) rfl) ?_
              refine WO_v (a_mv (v := .sn) rfl) ?_
              refine WO_v (a_mv (v := .b false) rfl) ?_
              refine WO_end ?_
              refine then_n ?_
              refine W_rt ?_
              refine then_r ?_
              refine blk_r ?_
              refine then_r ?_
              have hp := Option.some.inj hp; subst hp
              refine (Or.inr (Exists.intro (.inr ()) (And.intro rfl (And.intro (fun h => nomatch h) (fun he => ?_)))))
              subst he; exact (And.intro rfl (And.intro (rfl) (And.intro (rfl) (And.intro (rfl) (hO₉.pick [] rfl (by decide))))))
            · refine W_cF (t := (decide (n = (cells.length : Int)))) rfl b₄ ?_
              refine W_sk ?_
              refine then_n ?_
              refine W_rg ?_
              refine WO_v (a_mv (v := v_cells) q₄_0) ?_
              refine WO_v (a_mv (v := .i .i64 first) q₄_11) ?_
              refine WO_v (a_mv (v := .i .i64 x1) q₄_8) ?_
              refine WO_v (a_ixa (E := e_T_api_Cell) (z := first) (hO₉.rd0 s_cells.rd : Sl e_T_api_Cell k₇ v_cells cells) rfl rfl c₃) ?_
              refine WO_v (a_faE (off' := 0) (off2 := 0) (hO₉.rd0 s_cells.rd : Sl e_T_api_Cell k₇ v_cells cells) (toNat_lt c₃) rfl rfl) ?_
              refine WO_v (a_ixaaE (off := 0) (off2 := (0 + (x1 : Int).toNat * 1)) (z := x1) (hO₉.rd0 s_cells.rd : Sl e_T_api_Cell k₇ v_cells cells) (toNat_lt c₃) rfl rfl c₄ rfl) ?_
              refine WO_v (a_ldE (w := .i .i64 (((gi cells (first : Int).toNat).Next).get x1)) (hO₉.rd0 s_cells.rd : Sl e_T_api_Cell k₇ v_cells cells) rfl (toNat_lt c₃) (ld_T_api_Cell_Next c₄)) ?_
              refine WO_v (a_mv (v := .i .i64 (((gi cells (first : Int).toNat).Next).get x1)) rfl) ?_
              refine WO_end ?_
              refine blk_n ?_
              refine then_n ?_
              refine W_rg ?_
              refine WO_v (a_mv (v := .i .i64 n) q₄_12) ?_
              obtain ⟨c₅, hp⟩ := ck_some hp
              refine WO_v (a_add (a := n) (b := 1) rfl rfl c₅) ?_
              refine WO_v (a_mv (v := .i .i64 (n + 1)) rfl) ?_
              refine WO_end ?_
              have hp := Option.some.inj hp; subst hp
              exact (Or.inl (Exists.intro (((gi cells (first : Int).toNat).Next).get x1, n + 1) (And.intro rfl (And.intro rfl (And.intro (q₄_0) (And.intro (q₄_1) (And.intro (q₄_7) (And.intro (q₄_8) (And.intro (q₄_9) (And.intro (rfl) (And.intro (rfl) (And.intro (q₄_22) (And.intro (q₄_23) (hO₉.pick [0, 1, 2] rfl (by decide)))))))))))))))
          · refine W_cF (t := (decide (0 ≤ (((gi cells (first : Int).toNat).Next).get x1)))) rfl b₃ ?_
            refine W_ex ?_
            refine then_e ?_
            have hp := Option.some.inj hp; subst hp
            refine (Or.inr (Exists.intro (.inl first) (And.intro rfl (And.intro (fun h => nomatch h) (fun he => ?_)))))
            subst he; exact (And.intro rfl (And.intro (q₄_0) (And.intro (q₄_1) (And.intro (q₄_7) (And.intro (q₄_8) (And.intro (q₄_9) (And.intro (q₄_11) (And.intro (q₄_22) (And.intro (q₄_23) (hO₉.pick [0, 1, 2] rfl (by decide)))))))))))
        intro e₂ q₃ k₆ hJ₂
        rcases o₃ with first1 | _
        · obtain ⟨rfl, q₃_0, q₃_1, q₃_7, q₃_8, q₃_9, q₃_11, q₃_22, q₃_23, hO₈⟩ := hJ₂
          refine blk_i ?_
          refine then_n ?_
          refine W_sq ?_
          refine W_rg ?_
          refine WO_v (a_mv (v := .sn) rfl) ?_
          refine WO_end ?_
          refine then_n ?_
          refine W_sq ?_
          refine W_sq ?_
          refine W_rg ?_
          refine WO_v (a_mv (v := .i .i64 first1) q₃_11) ?_
          refine WO_v (a_mv (v := .i .i64 first1) rfl) ?_
          refine WO_end ?_
          refine then_n ?_
          refine W_bl ?_
          obtain ⟨o₅, ho₃, hp⟩ := bd_some hp
          refine W.mono (Q := fun e fr k => match (generalizing := false) o₅ with
              | (at_3, chain1) => e = (.exit 4) ∧ ∃ (v₈ : V), fr 0 = v_cells ∧ fr 1 = .i .i64 d ∧ fr 7 = v₄ ∧ fr 8 = .i .i64 x1 ∧ fr 9 = v₅ ∧ fr 13 = v₈ ∧ fr 22 = .i .i64 (cells.length : Int) ∧ fr 23 = .i .i64 x2 ∧ Own B h k [eSl eInt v₄ at_3, eSl eV v₅ vs₂, eAll eInt vs₂ l, eSl eInt v₈ chain1]) ?_ ?_
          · clear hp
            have hO₁₁ : Own B h k₆ [eSl eInt v₄ at_, eSl eV v₅ vs₂, eAll eInt vs₂ l, eSl eInt .sn ([] : List Int)] := hO₈.nil eInt
            refine W_loopF (fun st fr k => match st with | (at_2, chain, w) => ∃ (v₇ : V), fr 0 = v_cells ∧ fr 1 = .i .i64 d ∧ fr 7 = v₄ ∧ fr 8 = .i .i64 x1 ∧ fr 9 = v₅ ∧ fr 13 = v₇ ∧ fr 14 = .i .i64 w ∧ fr 22 = .i .i64 (cells.length : Int) ∧ fr 23 = .i .i64 x2 ∧ Own B h k [eSl eInt v₄ at_2, eSl eV v₅ vs₂, eAll eInt vs₂ l, eSl eInt v₇ chain]) ho₃ (s := (at_, ([] : List Int), first1)) (Exists.intro V.sn (And.intro (q₃_0) (And.intro (q₃_1) (And.intro (q₃_7) (And.intro (q₃_8) (And.intro (q₃_9) (And.intro (rfl) (And.intro (rfl) (And.intro (q₃_22) (And.intro (q₃_23) (hO₁₁.pick [0, 1, 2, 3] rfl (by decide)))))))))))) ?_
            rintro ⟨at_2, chain, w⟩ q₆ k₉ ⟨v₇, q₆_0, q₆_1, q₆_7, q₆_8, q₆_9, q₆_13, q₆_14, q₆_22, q₆_23, hO₁₂⟩ o₆ hp
            dsimp only [p_seg_chains.s2] at hp
            refine W_sq ?_
            refine W_sq ?_
            refine W_rg ?_
            refine WO_v (a_mv (v := .i .i64 w) q₆_14) ?_
            refine WO_v (a_geq (a := w) (b := 0) rfl rfl) ?_
            refine WO_end ?_
            refine then_n ?_
            rcases if_some hp with ⟨b₅, hp⟩ | ⟨b₅, hp⟩
            · refine W_cT (t := (decide (0 ≤ w))) rfl b₅ ?_
              refine W_sk ?_
              refine then_n ?_
              refine W_sq ?_
              refine W_bl ?_
              refine W_sq ?_
              refine W_rg ?_
              refine WO_v (a_mv (v := v₄) q₆_7) ?_
              refine WO_v (a_mv (v := .i .i64 w) q₆_14) ?_
              refine WO_v (a_mv (v := v₅) q₆_9) ?_
              refine WO_v (a_lenN (n := (l).length) (hO₁₂.sl 1 rfl : Sl eV k₉ v₅ vs₂) (hO₁₂.allLen 2 rfl : (vs₂).length = (l).length) rfl) ?_
              obtain ⟨c₆, hp⟩ := ck_some hp
              refine WO_v (a_ixa (E := eInt) (z := w) (hO₁₂.sl 0 rfl : Sl eInt k₉ v₄ at_2) rfl rfl c₆) ?_
              refine WO_x (hO₁₂.ste (E := eInt) (y := (l.length : Int)) (ws := [.i .i64 (l.length : Int)]) 0 rfl rfl (toNat_lt c₆) rfl rfl ⟨rfl, Nat.le_of_ble_eq_true rfl, rfl⟩ rfl) ?_
              rintro _ k₁₀ ⟨rfl, f₂, m₁, hW⟩
              have hO₁₃ : Own B h k₁₀ [eSl eInt v₄ (at_2.set (w : Int).toNat (l.length : Int)), eSl eV v₅ vs₂, eAll eInt vs₂ l, eSl eInt v₇ chain] := hW
              refine WO_end ?_
              refine then_n ?_
              refine W_rg ?_
              refine WO_v (a_mv (v := v₇) q₆_13) ?_
              refine WO_v (a_mv (v := .i .i64 w) q₆_14) ?_
              refine WO_x (hO₁₃.bsl (E := eInt) (l := [w]) hO₁₃.fr (by rw [(ev_cons (v := .i .i64 w) rfl ev_nil)]; rfl) rfl) ?_
              rintro v₉ k₁₁ ⟨r₂, f₃, hW⟩
              have hO₁₄ : Own B h k₁₁ [eSl eInt v₄ (at_2.set (w : Int).toNat (l.length : Int)), eSl eV v₅ vs₂, eAll eInt vs₂ l, eSl eInt v₇ chain, eSl eInt v₉ [w]] := hW
              obtain ⟨c₇, hp⟩ := ck_some hp
              refine WO_x (hO₁₄.app (E := eInt) (bytes := 8) 3 hO₁₄.fr rfl (hO₁₄.sl 4 rfl : Sl eInt k₁₁ v₉ [w]) rfl rfl (fun _ => rfl) c₇ (by decide)) ?_
              rintro v₁₀ k₁₂ ⟨f₄, hW⟩
              have hO₁₅ : Own B h k₁₂ [eSl eInt v₄ (at_2.set (w : Int).toNat (l.length : Int)), eSl eV v₅ vs₂, eAll eInt vs₂ l, eSl eInt v₁₀ (chain ++ [w]), eSl eInt v₉ [w]] := hW
              refine WO_v (a_mv (v := v₁₀) rfl) ?_
              refine WO_end ?_
              refine blk_n ?_
              refine then_n ?_
              refine W_rg ?_
              refine WO_v (a_mv (v := v_cells) q₆_0) ?_
              refine WO_v (a_mv (v := .i .i64 w) q₆_14) ?_
              refine WO_v (a_mv (v := .i .i64 d) q₆_1) ?_
              obtain ⟨c₈, hp⟩ := ck_some hp
              refine WO_v (a_ixa (E := e_T_api_Cell) (z := w) (hO₁₅.rd0 s_cells.rd : Sl e_T_api_Cell k₁₂ v_cells cells) rfl rfl c₈) ?_
              refine WO_v (a_faE (off' := 0) (off2 := 0) (hO₁₅.rd0 s_cells.rd : Sl e_T_api_Cell k₁₂ v_cells cells) (toNat_lt c₈) rfl rfl) ?_
              obtain ⟨c₉, hp⟩ := ck_some hp
              refine WO_v (a_ixaaE (off := 0) (off2 := (0 + (d : Int).toNat * 1)) (z := d) (hO₁₅.rd0 s_cells.rd : Sl e_T_api_Cell k₁₂ v_cells cells) (toNat_lt c₈) rfl rfl c₉ rfl) ?_
              refine WO_v (a_ldE (w := .i .i64 (((gi cells (w : Int).toNat).Next).get d)) (hO₁₅.rd0 s_cells.rd : Sl e_T_api_Cell k₁₂ v_cells cells) rfl (toNat_lt c₈) (ld_T_api_Cell_Next c₉)) ?_
              refine WO_v (a_mv (v := .i .i64 (((gi cells (w : Int).toNat).Next).get d)) rfl) ?_
              refine WO_end ?_
              have hp := Option.some.inj hp; subst hp
              exact (Or.inl (Exists.intro (at_2.set (w : Int).toNat (l.length : Int), chain ++ [w], ((gi cells (w : Int).toNat).Next).get d) (And.intro rfl (And.intro rfl (Exists.intro v₁₀ (And.intro (q₆_0) (And.intro (q₆_1) (And.intro (q₆_7) (And.intro (q₆_8) (And.intro (q₆_9) (And.intro (rfl) (And.intro (rfl) (And.intro (q₆_22) (And.intro (q₆_23) (hO₁₅.pick [0, 1, 2, 3] rfl (by decide))))))))))))))))
            · refine W_cF (t := (decide (0 ≤ w))) rfl b₅ ?_
              refine W_ex ?_
              refine then_e ?_
              have hp := Option.some.inj hp; subst hp
              refine (Or.inr (Exists.intro (at_2, chain) (And.intro rfl (And.intro (fun h => nomatch h) (fun he => ?_)))))
              subst he; exact (And.intro rfl (Exists.intro v₇ (And.intro (q₆_0) (And.intro (q₆_1) (And.intro (q₆_7) (And.intro (q₆_8) (And.intro (q₆_9) (And.intro (q₆_13) (And.intro (q₆_22) (And.intro (q₆_23) (hO₁₂.pick [0, 1, 2, 3] rfl (by decide))))))))))))
          intro e₃ q₅ k₈ hJ₃
          obtain ⟨at_3, chain1⟩ := o₅
          obtain ⟨rfl, v₈, q₅_0, q₅_1, q₅_7, q₅_8, q₅_9, q₅_13, q₅_22, q₅_23, hO₁₀⟩ := hJ₃
          refine blk_i ?_
          refine then_n ?_
          refine W_rg ?_
          refine WO_v (a_mv (v := v₅) q₅_9) ?_
          refine WO_v (a_mv (v := v₈) q₅_13) ?_
          refine WO_x (hO₁₀.bsl (E := eV) (l := [v₈]) hO₁₀.fr (by rw [(ev_cons (v := v₈) rfl ev_nil)]; simp [fill, over, (hO₁₀.sl 3 rfl : Sl eInt k₈ v₈ chain1).cells]) rfl) ?_
          rintro v₁₁ k₁₃ ⟨r₃, f₅, hW⟩
          have hO₁₆ : Own B h k₁₃ [eSl eInt v₄ at_3, eSl eV v₅ vs₂, eAll eInt vs₂ l, eSl eInt v₈ chain1, eSl eV v₁₁ [v₈]] := hW
          obtain ⟨c₁₀, hp⟩ := ck_some hp
          refine WO_x (hO₁₆.appV (bytes := 24) 1 hO₁₆.fr rfl (hO₁₆.sl 4 rfl : Sl eV k₁₃ v₁₁ [v₈]) rfl rfl (by simp only [List.all_cons, List.all_nil, Bool.and_true]; exact (hO₁₆.sl 3 rfl : Sl eInt k₁₃ v₈ chain1).oneV) (by rw [(hO₁₆.allLen 2 rfl : (vs₂).length = (l).length)]; exact c₁₀) (by decide)) ?_
          rintro v₁₂ k₁₄ ⟨f₆, hW⟩
          have hO₁₇ : Own B h k₁₄ [eSl eInt v₄ at_3, eSl eV v₁₂ (vs₂ ++ [v₈]), eAll eInt vs₂ l, eSl eInt v₈ chain1, eSl eV v₁₁ [v₈]] := hW
          have hO₁₈ : Own B h k₁₄ [eSl eInt v₄ at_3, eSl eV v₁₂ (vs₂ ++ [v₈]), eAll eInt (vs₂ ++ [v₈]) (l ++ [chain1]), eNone, eSl eV v₁₁ [v₈]] := hO₁₇.absorb 2 3 rfl rfl (by decide)
          refine WO_v (a_mv (v := v₁₂) rfl) ?_
          refine WO_end ?_
          refine blk_n ?_
          refine then_n ?_
          refine W_rg ?_
          obtain ⟨c₁₁, hp⟩ := ck_some hp
          refine WO_v (a_add (a := x2) (b := 1) q₅_23 rfl c₁₁) ?_
          refine WO_v (a_mv (v := .i .i64 (x2 + 1)) rfl) ?_
          refine WO_end ?_
          have hp := Option.some.inj hp; subst hp
          exact (Or.inl (Exists.intro (at_3, l ++ [chain1], x2 + 1) (And.intro rfl (And.intro rfl (Exists.intro v₁₂ (Exists.intro (vs₂ ++ [v₈]) (And.intro (q₅_0) (And.intro (q₅_1) (And.intro (q₅_7) (And.intro (q₅_8) (And.intro (rfl) (And.intro (q₅_22) (And.intro (rfl) (hO₁₈.pick [0, 1, 2] rfl (by decide)))))))))))))))
        · obtain ⟨rfl, q₃_4, q₃_5, q₃_6, hO₈⟩ := hJ₂
          refine blk_r ?_
          refine then_r ?_
          refine blk_r ?_
          refine then_r ?_
          have hp := Option.some.inj hp; subst hp
          refine (Or.inr (Exists.intro (.inr ()) (And.intro rfl (And.intro (fun h => nomatch h) (fun he => ?_)))))
          subst he; exact (And.intro rfl (And.intro (q₃_4) (And.intro (q₃_5) (And.intro (q₃_6) (hO₈.pick [] rfl (by decide))))))
    · refine W_cF (t := (decide (x2 < (cells.length : Int)))) rfl b₁ ?_
      refine W_ex ?_
      refine then_e ?_
      have hp := Option.some.inj hp; subst hp
      refine (Or.inr (Exists.intro (.inl (at_, l)) (And.intro rfl (And.intro (fun h => nomatch h) (fun he => ?_)))))
      subst he; exact (And.intro rfl (Exists.intro v₅ (Exists.intro vs₂ (And.intro (q₂_7) (And.intro (q₂_9) (hO₇.pick [0, 1, 2] rfl (by decide)))))))
  intro e₁ q₁ k₄ hJ₁
  rcases o₁ with ⟨at_1, l1⟩ | _
  · obtain ⟨rfl, v₆, vs₃, q₁_7, q₁_9, hO₄⟩ := hJ₁
    refine blk_i ?_
    refine then_n ?_
    refine W_sq ?_
    refine W_rg ?_
    refine WO_v (a_mv (v := v₄) q₁_7) ?_
    refine WO_v (a_mv (v := v₆) q₁_9) ?_
    refine WO_v (a_mv (v := v₄) rfl) ?_
    refine WO_v (a_mv (v := v₆) rfl) ?_
    refine WO_v (a_mv (v := .b true) rfl) ?_
    refine WO_end ?_
    refine then_n ?_
    refine W_rt ?_
    refine Ret_r (rs_t (n := 4) (v := v₄) rfl (rs_t (n := 5) (v := v₆) rfl (rs_t (n := 6) (v := .b true) rfl rs_nil))) ?_
    have hp := Option.some.inj hp; subst hp
    exact (Exists.intro v₄ (Exists.intro v₆ (Exists.intro vs₃ (And.intro rfl (hO₄.pick [0, 1, 2] rfl (by decide))))))
  · obtain ⟨rfl, q₁_4, q₁_5, q₁_6, hO₄⟩ := hJ₁
    refine blk_r ?_
    refine then_r ?_
    have hO₁₉ : Own B h k₄ [eSl eInt .sn ([] : List Int)] := hO₄.nil eInt
    have hO₂₀ : Own B h k₄ [eSl eInt .sn ([] : List Int), eSl eV .sn []] := hO₁₉.nil eV
    have hO₂₁ : Own B h k₄ [eSl eInt .sn ([] : List Int), eSl eV .sn [], eAll eInt [] []] := hO₂₀.allNil eInt 0
    refine Ret_r (rs_t (n := 4) (v := .sn) q₁_4 (rs_t (n := 5) (v := .sn) q₁_5 (rs_t (n := 6) (v := .b false) q₁_6 rs_nil))) ?_
    have hp := Option.some.inj hp; subst hp
    exact (Exists.intro V.sn (Exists.intro V.sn (Exists.intro [] (And.intro rfl (hO₂₁.pick [0, 1, 2] rfl (by decide))))))

theorem p_seg_Of.ok {h : Hp} {cells : List T_api_Cell} {v_cells : V} (s_cells : Sl e_T_api_Cell h v_cells cells) {r : T_seg_Chains × Int} (hp : p_seg_Of cells = some r) :
    ∃ u k', Is G 120 [v_cells] h u k' ∧ ∃ (v₁ : V), ∃ (v₂ : V), ∃ (v₃ : V), ∃ (vs₁ : List V), ∃ (v₄ : V), ∃ (vs₂ : List V), V.tu [.ag [v₁, v₂, v₃, v₄], .i .i64 r.2] = u ∧ Own (fun r => r < h.n) h k' [eSl eInt v₁ r.1.X, eSl eInt v₂ r.1.Y, eSl eV v₃ vs₁, eAll eInt vs₁ r.1.Vert, eSl eV v₄ vs₂, eAll eInt vs₂ r.1.Horz] := by
  refine WC.is (WC_of G_F_seg_Of ?_)
  unfold p_seg_Of at hp
  let B : Nat → Prop := (fun r => r < h.n)
  have hO : Own B h h [] := Own.start0 h
  refine W_sq ?_
  refine W_rg ?_
  refine WO_x (hO.alloc (cs := [.sn, .sn, .sn, .sn]) hO.fr) ?_
  rintro _ k₁ ⟨r₁, rfl, n₁, f₁, hW⟩
  have hO₁ : Own B h k₁ [eBox r₁ [.sn, .sn, .sn, .sn]] := hW
  refine WO_v (a_mv (v := .i .i64 0) rfl) ?_
  refine WO_end ?_
  refine then_n ?_
  refine W_sq ?_
  refine W_sq ?_
  refine W_rg ?_
  refine WO_v (a_mv (v := v_cells) rfl) ?_
  obtain ⟨x, hx₁, hp⟩ := bd_some hp
  obtain ⟨u₁, k₂, ca₁, rfl, hW₁⟩ := p_grid_Check.ok (h := k₁)  (hO₁.rd0 s_cells.rd : Sl e_T_api_Cell k₁ v_cells cells) hx₁
  refine WO_c (id := 66) (caps := []) rfl (mp_cons (v := v_cells) rfl mp_nil) ca₁ ?_
  have hO₂ : Own B h k₂ [eBox r₁ [.sn, .sn, .sn, .sn]] := hO₁.call hW₁ rfl
  refine WO_v (a_mv (v := .i .i64 x) rfl) ?_
  refine WO_end ?_
  refine then_n ?_
  refine W_sq ?_
  refine W_rg ?_
  refine WO_v (a_mv (v := .i .i64 x) rfl) ?_
  refine WO_v (a_neI (a := x) (b := 0) rfl rfl) ?_
  refine WO_end ?_
  refine then_n ?_
  rcases if_some hp with ⟨b₁, hp⟩ | ⟨b₁, hp⟩
  · refine W_cT (t := (!(decide (x = 0)))) rfl b₁ ?_
    refine W_sq ?_
    refine W_rg ?_
    refine WO_v (a_build (cs := [.sn, .sn, .sn, .sn]) (by rw [ev_nil]; simp [fill, over, cells_i, cells_b, cells_f, cells_p, cells_a, cells_n, (Sl.nil : Sl eInt k₂ .sn ([] : List Int)).cells, (Sl.nil : Sl eInt k₂ .sn ([] : List Int)).cells, (Sl.nil : Sl eV k₂ .sn []).cells, (Sl.nil : Sl eV k₂ .sn []).cells])) ?_
    refine WO_v (a_mv (v := .i .i64 x) rfl) ?_
    refine WO_x (hO₂.stb (ws := [.sn, .sn, .sn, .sn]) (cs' := [.sn, .sn, .sn, .sn]) (v := .ag [.sn, .sn, .sn, .sn]) 0 rfl rfl rfl rfl ⟨rfl, Nat.le_of_ble_eq_true rfl, (all_cons (Sl.nil : Sl eInt k₂ .sn ([] : List Int)).oneV (all_cons (Sl.nil : Sl eInt k₂ .sn ([] : List Int)).oneV (all_cons (Sl.nil : Sl eV k₂ .sn []).oneV (all_cons (Sl.nil : Sl eV k₂ .sn []).oneV all_nil))))⟩ rfl) ?_
    rintro _ k₃ ⟨rfl, f₂, m₁, hW⟩
    have hO₃ : Own B h k₃ [eBox r₁ [.sn, .sn, .sn, .sn]] := hW
    refine WO_v (a_mv (v := .i .i64 x) rfl) ?_
    refine WO_end ?_
    refine then_n ?_
    refine W_rt ?_
    refine then_r ?_
    have hO₄ : Own B h k₃ [eBox r₁ [.sn, .sn, .sn, .sn], eSl eInt .sn ([] : List Int)] := hO₃.nil eInt
    have hO₅ : Own B h k₃ [eBox r₁ [.sn, .sn, .sn, .sn], eSl eInt .sn ([] : List Int), eSl eInt .sn ([] : List Int)] := hO₄.nil eInt
    have hO₆ : Own B h k₃ [eBox r₁ [.sn, .sn, .sn, .sn], eSl eInt .sn ([] : List Int), eSl eInt .sn ([] : List Int), eSl eV .sn []] := hO₅.nil eV
    have hO₇ : Own B h k₃ [eBox r₁ [.sn, .sn, .sn, .sn], eSl eInt .sn ([] : List Int), eSl eInt .sn ([] : List Int), eSl eV .sn [], eAll eInt [] []] := hO₆.allNil eInt 0
    have hO₈ : Own B h k₃ [eBox r₁ [.sn, .sn, .sn, .sn], eSl eInt .sn ([] : List Int), eSl eInt .sn ([] : List Int), eSl eV .sn [], eAll eInt [] [], eSl eV .sn []] := hO₇.nil eV
    have hO₉ : Own B h k₃ [eBox r₁ [.sn, .sn, .sn, .sn], eSl eInt .sn ([] : List Int), eSl eInt .sn ([] : List Int), eSl eV .sn [], eAll eInt [] [], eSl eV .sn [], eAll eInt [] []] := hO₈.allNil eInt 0
    refine Ret_r (rs_c (n := 2) (v := .ag [.sn, .sn, .sn, .sn]) (r := r₁) rfl (hO₉.box 0 rfl) rfl (rs_t (n := 3) (v := .i .i64 x) rfl rs_nil)) ?_
    have hp := Option.some.inj hp; subst hp
    exact (Exists.intro V.sn (Exists.intro V.sn (Exists.intro V.sn (Exists.intro [] (Exists.intro V.sn (Exists.intro [] (And.intro rfl (hO₉.pick [1, 2, 3, 4, 5, 6] rfl (by decide)))))))))
  · refine W_cF (t := (!(decide (x = 0)))) rfl b₁ ?_
    refine W_sk ?_
    refine then_n ?_
    refine W_sq ?_
    refine W_rg ?_
    refine WO_v (a_mv (v := v_cells) rfl) ?_
    obtain ⟨⟨x1, x2, x3⟩, hx₂, hp⟩ := bd_some hp
    obtain ⟨u₂, k₄, ca₂, v₅, v₆, vs₃, rfl, hW₂⟩ := p_seg_chains.ok (h := k₂)  (hO₂.rd0 s_cells.rd : Sl e_T_api_Cell k₂ v_cells cells) hx₂
    refine WO_c (id := 137) (caps := []) rfl (mp_cons (v := v_cells) rfl (mp_cons (v := .i .i64 1) rfl mp_nil)) ca₂ ?_
    have hO₁₀ : Own B h k₄ [eBox r₁ [.sn, .sn, .sn, .sn], eSl eInt v₅ x1, eSl eV v₆ vs₃, eAll eInt vs₃ x2] := hO₂.call hW₂ rfl
    refine WO_v (a_mv (v := .tu [v₅, v₆, .b x3]) rfl) ?_
    refine WO_v (a_ext (vs := [v₅, v₆, .b x3]) (v := v₅) rfl rfl) ?_
    refine WO_v (a_ext (vs := [v₅, v₆, .b x3]) (v := v₆) rfl rfl) ?_
    refine WO_v (a_ext (vs := [v₅, v₆, .b x3]) (v := .b x3) rfl rfl) ?_
    refine WO_v (a_mv (v := v₅) rfl) ?_
    refine WO_v (a_mv (v := v₆) rfl) ?_
    refine WO_v (a_mv (v := .b x3) rfl) ?_
    refine WO_end ?_
    refine then_n ?_
    refine W_sq ?_
    refine W_rg ?_
    refine WO_v (a_mv (v := v_cells) rfl) ?_
    obtain ⟨⟨x4, x5, x6⟩, hx₃, hp⟩ := bd_some hp
    obtain ⟨u₃, k₅, ca₃, v₇, v₈, vs₄, rfl, hW₃⟩ := p_seg_chains.ok (h := k₄)  (hO₁₀.rd0 s_cells.rd : Sl e_T_api_Cell k₄ v_cells cells) hx₃
    refine WO_c (id := 137) (caps := []) rfl (mp_cons (v := v_cells) rfl (mp_cons (v := .i .i64 0) rfl mp_nil)) ca₃ ?_
    have hO₁₁ : Own B h k₅ [eBox r₁ [.sn, .sn, .sn, .sn], eSl eInt v₅ x1, eSl eV v₆ vs₃, eAll eInt vs₃ x2, eSl eInt v₇ x4, eSl eV v₈ vs₄, eAll eInt vs₄ x5] := hO₁₀.call hW₃ rfl
    refine WO_v (a_mv (v := .tu [v₇, v₈, .b x6]) rfl) ?_
    refine WO_v (a_ext (vs := [v₇, v₈, .b x6]) (v := v₇) rfl rfl) ?_
    refine WO_v (a_ext (vs := [v₇, v₈, .b x6]) (v := v₈) rfl rfl) ?_
    refine WO_v (a_ext (vs := [v₇, v₈, .b x6]) (v := .b x6) rfl rfl) ?_
    refine WO_v (a_mv (v := v₇) rfl) ?_
    refine WO_v (a_mv (v := v₈) rfl) ?_
    refine WO_v (a_mv (v := .b x6) rfl) ?_
    refine WO_end ?_
    refine then_n ?_
    refine W_sq ?_
    refine W_sq ?_
    refine W_rg ?_
    refine WO_v (a_mv (v := .b x3) rfl) ?_
    refine WO_v (a_not (t := x3) rfl) ?_
    refine WO_v (a_mv (v := .b (!x3)) rfl) ?_
    refine WO_cut 3 (fun fr' k' => k₅ = k' ∧ fr' 34 = .b ((!x3) || (!x6)) ∧ fr' 2 = .p r₁ 0 ∧ fr' 5 = v₅ ∧ fr' 6 = v₆ ∧ fr' 8 = v₇ ∧ fr' 9 = v₈) ?_ ?_
    · rcases bc (!x3) with b₂ | b₂
      · skip
        refine WO_off rfl b₂ ?_
        refine WO_off rfl b₂ ?_
        refine WO_v (a_pickT (t := (!x3)) (v := .b ((!x3) || (!x6))) rfl b₂ (Eq.trans (b := V.b true) rfl (or_off b₂))) ?_
        refine WO_end ?_
        exact ⟨rfl, rfl, rfl, rfl, rfl, rfl, rfl⟩
      · skip
        refine WO_on rfl b₂ ?_
        refine WO_v (a_mv (v := .b x6) rfl) ?_
        refine WO_on rfl b₂ ?_
        refine WO_v (a_not (t := x6) rfl) ?_
        refine WO_v (a_pickF (t := (!x3)) (v := .b ((!x3) || (!x6))) rfl b₂ (Eq.trans (b := V.b (!x6)) rfl (or_on b₂))) ?_
        refine WO_end ?_
        exact ⟨rfl, rfl, rfl, rfl, rfl, rfl, rfl⟩
    rintro frg₁ _ ⟨rfl, g₁_34, g₁_2, g₁_5, g₁_6, g₁_8, g₁_9⟩
    refine WO_end ?_
    refine then_n ?_
    rcases if_some hp with ⟨b₃, hp⟩ | ⟨b₃, hp⟩
    · refine W_cT (t := ((!x3) || (!x6))) g₁_34 b₃ ?_
      refine W_sq ?_
      refine W_rg ?_
      refine WO_v (a_build (cs := [.sn, .sn, .sn, .sn]) (by rw [ev_nil]; simp [fill, over, cells_i, cells_b, cells_f, cells_p, cells_a, cells_n, (Sl.nil : Sl eInt k₅ .sn ([] : List Int)).cells, (Sl.nil : Sl eInt k₅ .sn ([] : List Int)).cells, (Sl.nil : Sl eV k₅ .sn []).cells, (Sl.nil : Sl eV k₅ .sn []).cells])) ?_
      refine WO_x (hO₁₁.stb (ws := [.sn, .sn, .sn, .sn]) (cs' := [.sn, .sn, .sn, .sn]) (v := .ag [.sn, .sn, .sn, .sn]) 0 rfl g₁_2 rfl rfl ⟨rfl, Nat.le_of_ble_eq_true rfl, (all_cons (Sl.nil : Sl eInt k₅ .sn ([] : List Int)).oneV (all_cons (Sl.nil : Sl eInt k₅ .sn ([] : List Int)).oneV (all_cons (Sl.nil : Sl eV k₅ .sn []).oneV (all_cons (Sl.nil : Sl eV k₅ .sn []).oneV all_nil))))⟩ rfl) ?_
      rintro _ k₆ ⟨rfl, f₃, m₂, hW⟩
      have hO₁₂ : Own B h k₆ [eBox r₁ [.sn, .sn, .sn, .sn], eSl eInt v₅ x1, eSl eV v₆ vs₃, eAll eInt vs₃ x2, eSl eInt v₇ x4, eSl eV v₈ vs₄, eAll eInt vs₄ x5] := hW
      refine WO_v (a_mv (v := .i .i64 10) rfl) ?_
      refine WO_end ?_
      refine then_n ?_
      refine W_rt ?_
      refine then_r ?_
      have hO₁₃ : Own B h k₆ [eBox r₁ [.sn, .sn, .sn, .sn], eSl eInt v₅ x1, eSl eV v₆ vs₃, eAll eInt vs₃ x2, eSl eInt v₇ x4, eSl eV v₈ vs₄, eAll eInt vs₄ x5, eSl eInt .sn ([] : List Int)] := hO₁₂.nil eInt
      have hO₁₄ : Own B h k₆ [eBox r₁ [.sn, .sn, .sn, .sn], eSl eInt v₅ x1, eSl eV v₆ vs₃, eAll eInt vs₃ x2, eSl eInt v₇ x4, eSl eV v₈ vs₄, eAll eInt vs₄ x5, eSl eInt .sn ([] : List Int), eSl eInt .sn ([] : List Int)] := hO₁₃.nil eInt
      have hO₁₅ : Own B h k₆ [eBox r₁ [.sn, .sn, .sn, .sn], eSl eInt v₅ x1, eSl eV v₆ vs₃, eAll eInt vs₃ x2, eSl eInt v₇ x4, eSl eV v₈ vs₄, eAll eInt vs₄ x5, eSl eInt .sn ([] : List Int), eSl eInt .sn ([] : List Int), eSl eV .sn []] := hO₁₄.nil eV
      have hO₁₆ : Own B h k₆ [eBox r₁ [.sn, .sn, .sn, .sn], eSl eInt v₅ x1, eSl eV v₆ vs₃, eAll eInt vs₃ x2, eSl eInt v₇ x4, eSl eV v₈ vs₄, eAll eInt vs₄ x5, eSl eInt .sn ([] : List Int), eSl eInt .sn ([] : List Int), eSl eV .sn [], eAll eInt [] []] := hO₁₅.allNil eInt 0
      have hO₁₇ : Own B h k₆ [eBox r₁ [.sn, .sn, .sn, .sn], eSl eInt v₅ x1, eSl eV v₆ vs₃, eAll eInt vs₃ x2, eSl eInt v₇ x4, eSl eV v₈ vs₄, eAll eInt vs₄ x5, eSl eInt .sn ([] : List Int), eSl eInt .sn ([] : List Int), eSl eV .sn [], eAll eInt [] [], eSl eV .sn []] := hO₁₆.nil eV
      have hO₁₈ : Own B h k₆ [eBox r₁ [.sn, .sn, .sn, .sn], eSl eInt v₅ x1, eSl eV v₆ vs₃, eAll eInt vs₃ x2, eSl eInt v₇ x4, eSl eV v₈ vs₄, eAll eInt vs₄ x5, eSl eInt .sn ([] : List Int), eSl eInt .sn ([] : List Int), eSl eV .sn [], eAll eInt [] [], eSl eV .sn [], eAll eInt [] []] := hO₁₇.allNil eInt 0
      refine Ret_r (rs_c (n := 2) (v := .ag [.sn, .sn, .sn, .sn]) (r := r₁) g₁_2 (hO₁₈.box 0 rfl) rfl (rs_t (n := 3) (v := .i .i64 10) rfl rs_nil)) ?_
      have hp := Option.some.inj hp; subst hp
      exact (Exists.intro V.sn (Exists.intro V.sn (Exists.intro V.sn (Exists.intro [] (Exists.intro V.sn (Exists.intro [] (And.intro rfl (hO₁₈.pick [7, 8, 9, 10, 11, 12] rfl (by decide)))))))))
    · refine W_cF (t := ((!x3) || (!x6))) g₁_34 b₃ ?_
      refine W_sk ?_
      refine then_n ?_
      refine W_sq ?_
      refine W_rg ?_
      refine WO_v (a_mv (v := v₅) g₁_5) ?_
      refine WO_v (a_mv (v := v₇) g₁_8) ?_
      refine WO_v (a_mv (v := v₆) g₁_6) ?_
      refine WO_v (a_mv (v := v₈) g₁_9) ?_
      refine WO_v (a_build (cs := [v₅, v₇, v₆, v₈]) (by rw [(ev_cons (v := v₅) rfl (ev_cons (v := v₇) rfl (ev_cons (v := v₆) rfl (ev_cons (v := v₈) rfl ev_nil))))]; simp [fill, over, cells_i, cells_b, cells_f, cells_p, cells_a, cells_n, (hO₁₁.sl 1 rfl : Sl eInt k₅ v₅ x1).cells, (hO₁₁.sl 4 rfl : Sl eInt k₅ v₇ x4).cells, (hO₁₁.sl 2 rfl : Sl eV k₅ v₆ vs₃).cells, (hO₁₁.sl 5 rfl : Sl eV k₅ v₈ vs₄).cells])) ?_
      refine WO_x (hO₁₁.stb (ws := [v₅, v₇, v₆, v₈]) (cs' := [v₅, v₇, v₆, v₈]) (v := .ag [v₅, v₇, v₆, v₈]) 0 rfl g₁_2 rfl rfl ⟨rfl, Nat.le_of_ble_eq_true rfl, (all_cons (hO₁₁.sl 1 rfl : Sl eInt k₅ v₅ x1).oneV (all_cons (hO₁₁.sl 4 rfl : Sl eInt k₅ v₇ x4).oneV (all_cons (hO₁₁.sl 2 rfl : Sl eV k₅ v₆ vs₃).oneV (all_cons (hO₁₁.sl 5 rfl : Sl eV k₅ v₈ vs₄).oneV all_nil))))⟩ rfl) ?_
      rintro _ k₇ ⟨rfl, f₄, m₃, hW⟩
      have hO₁₉ : Own B h k₇ [eBox r₁ [v₅, v₇, v₆, v₈], eSl eInt v₅ x1, eSl eV v₆ vs₃, eAll eInt vs₃ x2, eSl eInt v₇ x4, eSl eV v₈ vs₄, eAll eInt vs₄ x5] := hW
      refine WO_v (a_mv (v := .i .i64 0) rfl) ?_
      refine WO_end ?_
      refine then_n ?_
      refine W_rt ?_
      refine Ret_r (rs_c (n := 2) (v := .ag [v₅, v₇, v₆, v₈]) (r := r₁) g₁_2 (hO₁₉.box 0 rfl) rfl (rs_t (n := 3) (v := .i .i64 0) rfl rs_nil)) ?_
      have hp := Option.some.inj hp; subst hp
      exact (Exists.intro v₅ (Exists.intro v₇ (Exists.intro v₆ (Exists.intro vs₃ (Exists.intro v₈ (Exists.intro vs₄ (And.intro rfl (hO₁₉.pick [1, 4, 2, 3, 5, 6] rfl (by decide)))))))))

theorem p_arcs_weight.ok {h : Hp} {owner : Int}   {r : Int} (hp : p_arcs_weight owner = some r) :
    ∃ u k', Is G 149 [.i .i64 owner] h u k' ∧ V.i .i64 r = u ∧ Own (fun r => r < h.n) h k' [] := by
  refine WC.is (WC_of G_F_arcs_weight ?_)
  unfold p_arcs_weight at hp
  let B : Nat → Prop := (fun r => r < h.n)
  have hO : Own B h h [] := Own.start0 h
  refine W_sq ?_
  refine W_rg ?_
  refine WO_v (a_mv (v := .i .i64 0) rfl) ?_
  refine WO_end ?_
  refine then_n ?_
  refine W_sq ?_
  refine W_sq ?_
  refine W_rg ?_
  refine WO_v (a_mv (v := .i .i64 owner) rfl) ?_
  refine WO_v (a_geq (a := owner) (b := 0) rfl rfl) ?_
  refine WO_end ?_
  refine then_n ?_
  rcases if_some hp with ⟨b₁, hp⟩ | ⟨b₁, hp⟩
  · refine W_cT (t := (decide (0 ≤ owner))) rfl b₁ ?_
    refine W_sq ?_
    refine W_rg ?_
    refine WO_v (a_mv (v := .i .i64 1) rfl) ?_
    refine WO_end ?_
    refine then_n ?_
    refine W_rt ?_
    refine then_r ?_
    refine Ret_r (rs_t (n := 2) (v := .i .i64 1) rfl rs_nil) ?_
    have hp := Option.some.inj hp; subst hp
    exact (And.intro rfl (hO.pick [] rfl (by decide)))
  · refine W_cF (t := (decide (0 ≤ owner))) rfl b₁ ?_
    refine W_sk ?_
    refine then_n ?_
    refine W_sq ?_
    refine W_rg ?_
    refine WO_v (a_mv (v := .i .i64 0) rfl) ?_
    refine WO_end ?_
    refine then_n ?_
    refine W_rt ?_
    refine Ret_r (rs_t (n := 2) (v := .i .i64 0) rfl rs_nil) ?_
    have hp := Option.some.inj hp; subst hp
    exact (And.intro rfl (hO.pick [] rfl (by decide)))

theorem p_arcs_graph.ok {h : Hp} {cells : List T_api_Cell} {d : Int} {of : List Int} {v_cells : V} {v_of : V} (s_cells : Sl e_T_api_Cell h v_cells cells) (s_of : Sl eInt h v_of of) {r : (List T_api_Arc)} (hp : p_arcs_graph cells d of = some r) :
    ∃ u k', Is G 144 [v_cells, .i .i64 d, v_of] h u k' ∧ ∃ (v₁ : V), v₁ = u ∧ Own (fun r => r < h.n) h k' [eSl e_T_api_Arc v₁ r] := by
  refine WC.is (WC_of G_F_arcs_graph ?_)
  unfold p_arcs_graph at hp
  let B : Nat → Prop := (fun r => r < h.n)
  have hO : Own B h h [] := Own.start0 h
  refine W_sq ?_
  refine W_rg ?_
  refine WO_v (a_mv (v := .sn) rfl) ?_
  refine WO_end ?_
  refine then_n ?_
  refine W_sq ?_
  refine W_rg ?_
  refine WO_v (a_mv (v := .sn) rfl) ?_
  refine WO_end ?_
  refine then_n ?_
  refine W_sq ?_
  refine W_sq ?_
  refine W_rg ?_
  refine WO_v (a_mv (v := v_cells) rfl) ?_
  refine WO_v (a_len (hO.rd0 s_cells.rd : Sl e_T_api_Cell h v_cells cells) rfl) ?_
  refine WO_v (a_mv (v := .i .i64 0) rfl) ?_
  refine WO_end ?_
  refine then_n ?_
  refine W_bl ?_
  obtain ⟨o₁, ho₁, hp⟩ := bd_some hp
  refine W.mono (Q := fun e fr k => match (generalizing := false) o₁ with
      | l1 => e = (.exit 0) ∧ ∃ (v₃ : V), fr 7 = v₃ ∧ Own B h k [eSl e_T_api_Arc v₃ l1]) ?_ ?_
  · clear hp
    have hO₂ : Own B h h [eSl e_T_api_Arc .sn ([] : List T_api_Arc)] := hO.nil e_T_api_Arc
    refine W_loopF (fun st fr k => match st with | (l, x) => ∃ (v₂ : V), fr 1 = .i .i64 d ∧ fr 2 = v_of ∧ fr 7 = v₂ ∧ fr 11 = v_cells ∧ fr 12 = .i .i64 (cells.length : Int) ∧ fr 13 = .i .i64 x ∧ Own B h k [eSl e_T_api_Arc v₂ l]) ho₁ (s := (([] : List T_api_Arc), 0)) (Exists.intro V.sn (And.intro (rfl) (And.intro (rfl) (And.intro (rfl) (And.intro (rfl) (And.intro (rfl) (And.intro (rfl) (hO₂.pick [0] rfl (by decide))))))))) ?_
    rintro ⟨l, x⟩ q₂ k₂ ⟨v₂, q₂_1, q₂_2, q₂_7, q₂_11, q₂_12, q₂_13, hO₃⟩ o₂ hp
    dsimp only [p_arcs_graph.s0] at hp
    refine W_sq ?_
    refine W_rg ?_
    refine WO_v (a_lss (a := x) (b := (cells.length : Int)) q₂_13 q₂_12) ?_
    refine WO_end ?_
    refine then_n ?_
    refine W_sq ?_
    rcases if_some hp with ⟨b₁, hp⟩ | ⟨b₁, hp⟩
    · refine W_cT (t := (decide (x < (cells.length : Int)))) rfl b₁ ?_
      refine W_sk ?_
      refine then_n ?_
      refine W_sq ?_
      refine W_bl ?_
      refine W_sq ?_
      refine W_rg ?_
      refine WO_v (a_mv (v := .i .i64 x) q₂_13) ?_
      obtain ⟨c₁, hp⟩ := ck_some hp
      refine WO_v (a_ixa (E := e_T_api_Cell) (z := x) (hO₃.rd0 s_cells.rd : Sl e_T_api_Cell k₂ v_cells cells) q₂_11 q₂_13 c₁) ?_
      refine WO_v (a_ldA (E := e_T_api_Cell) (hO₃.rd0 s_cells.rd : Sl e_T_api_Cell k₂ v_cells cells) rfl (toNat_lt c₁)) ?_
      refine WO_x (hO₃.alloc (cs := e_T_api_Cell.c (⟨⟨0, 0, 0, 0⟩, ⟨0, 0, 0, 0⟩⟩ : T_api_Cell)) hO₃.fr) ?_
      rintro _ k₃ ⟨r₁, rfl, n₁, f₁, hW⟩
      have hO₄ : Own B h k₃ [eSl e_T_api_Arc v₂ l, eBox r₁ (e_T_api_Cell.c (⟨⟨0, 0, 0, 0⟩, ⟨0, 0, 0, 0⟩⟩ : T_api_Cell))] := hW
      refine WO_v (a_mv (v := .i .i64 x) rfl) ?_
      refine WO_x (hO₄.stb (ws := e_T_api_Cell.c (gi cells (x : Int).toNat)) (cs' := e_T_api_Cell.c (gi cells (x : Int).toNat)) (v := .ag (e_T_api_Cell.c (gi cells (x : Int).toNat))) 1 rfl rfl rfl rfl ⟨rfl, Nat.le_of_ble_eq_true rfl, rfl⟩ rfl) ?_
      rintro _ k₄ ⟨rfl, f₂, m₁, hW⟩
      have hO₅ : Own B h k₄ [eSl e_T_api_Arc v₂ l, eBox r₁ (e_T_api_Cell.c (gi cells (x : Int).toNat))] := hW
      refine WO_end ?_
      refine then_n ?_
      refine W_sq ?_
      refine W_rg ?_
      refine WO_v (a_mv (v := .i .i64 d) q₂_1) ?_
      refine WO_v (a_fa (r := r₁) (o := 0) (o' := 0) rfl rfl) ?_
      obtain ⟨c₂, hp⟩ := ck_some hp
      refine WO_v (a_ixaa (o := 0) (o' := (0 + (d : Int).toNat * 1)) (z := d) rfl rfl c₂ rfl) ?_
      refine WO_v (a_ldb (cs := (e_T_api_Cell.c (gi cells (x : Int).toNat))) (v := .i .i64 (((gi cells (x : Int).toNat).Next).get d)) (hO₅.box 1 rfl) rfl (ld_T_api_Cell_Next c₂)) ?_
      refine WO_v (a_mv (v := .i .i64 (((gi cells (x : Int).toNat).Next).get d)) rfl) ?_
      refine WO_end ?_
      refine then_n ?_
      refine W_sq ?_
      refine W_rg ?_
      refine WO_v (a_mv (v := .i .i64 (((gi cells (x : Int).toNat).Next).get d)) rfl) ?_
      refine WO_v (a_geq (a := (((gi cells (x : Int).toNat).Next).get d)) (b := 0) rfl rfl) ?_
      refine WO_end ?_
      refine then_n ?_
      rcases if_some hp with ⟨b₂, hp⟩ | ⟨b₂, hp⟩
      · refine W_cT (t := (decide (0 ≤ (((gi cells (x : Int).toNat).Next).get d)))) rfl b₂ ?_
        refine W_dr ?_
        have hW := hO₅.bump 18
        have fr₁ := Fresh.start k₄ 18
        have nb₁ : ∀ {i : Nat}, h.n ≤ k₄.n + i := Nat.le_trans hO₅.n (Nat.le_add_right _ _)
        have hO₆ : Own B h (k₄.bump 18) [eSl e_T_api_Arc v₂ l, eBox r₁ (e_T_api_Cell.c (gi cells (x : Int).toNat))] := hW
        refine WD_v (a_mv (v := v₂) q₂_7) ?_
        refine WD_v (a_mv (v := v_of) q₂_2) ?_
        refine WD_v (a_mv (v := .i .i64 x) rfl) ?_
        obtain ⟨c₃, hp⟩ := ck_some hp
        refine WD_v (a_ixa (E := eInt) (z := x) (hO₆.rd0 s_of.rd : Sl eInt (k₄.bump 18) v_of of) rfl rfl c₃) ?_
        refine WD_v (a_ldE (w := .i .i64 (gi of (x : Int).toNat)) (hO₆.rd0 s_of.rd : Sl eInt (k₄.bump 18) v_of of) rfl (toNat_lt c₃) rfl) ?_
        refine WD_v (a_mv (v := v_of) q₂_2) ?_
        refine WD_v (a_mv (v := .i .i64 (((gi cells (x : Int).toNat).Next).get d)) rfl) ?_
        obtain ⟨c₄, hp⟩ := ck_some hp
        refine WD_v (a_ixa (E := eInt) (z := (((gi cells (x : Int).toNat).Next).get d)) (hO₆.rd0 s_of.rd : Sl eInt (k₄.bump 18) v_of of) rfl rfl c₄) ?_
        refine WD_v (a_ldE (w := .i .i64 (gi of (((gi cells (x : Int).toNat).Next).get d : Int).toNat)) (hO₆.rd0 s_of.rd : Sl eInt (k₄.bump 18) v_of of) rfl (toNat_lt c₄) rfl) ?_
        refine WD_v (a_mv (v := .i .i64 d) q₂_1) ?_
        refine WD_v (a_fa (r := r₁) (o := 0) (o' := 4) rfl rfl) ?_
        refine WD_v (a_ixaa (o := 4) (o' := (4 + (d : Int).toNat * 1)) (z := d) rfl rfl c₂ rfl) ?_
        refine WD_v (a_ldb (cs := (e_T_api_Cell.c (gi cells (x : Int).toNat))) (v := .i .i64 (((gi cells (x : Int).toNat).Owner).get d)) (hO₆.box 1 rfl) rfl (ld_T_api_Cell_Owner c₂)) ?_
        obtain ⟨x1, hx₁, hp⟩ := bd_some hp
        obtain ⟨u₁, k₆, ca₁, rfl, hW₁⟩ := p_arcs_weight.ok (h := (k₄.bump 18))   hx₁
        refine WD_c (id := 149) (caps := []) rfl (mp_cons (v := .i .i64 (((gi cells (x : Int).toNat).Owner).get d)) rfl mp_nil) ca₁ ?_
        have fr₂ := fr₁.call hW₁
        have hO₇ : Own B h k₆ [eSl e_T_api_Arc v₂ l, eBox r₁ (e_T_api_Cell.c (gi cells (x : Int).toNat))] := hO₆.call hW₁ rfl
        refine WD_v (a_build (cs := e_T_api_Arc.c (⟨gi of (x : Int).toNat, gi of (((gi cells (x : Int).toNat).Next).get d : Int).toNat, x1⟩ : T_api_Arc)) (by rw [(ev_cons (v := .i .i64 (gi of (x : Int).toNat)) rfl (ev_cons (v := .i .i64 (gi of (((gi cells (x : Int).toNat).Next).get d : Int).toNat)) rfl (ev_cons (v := .i .i64 x1) rfl ev_nil)))]; rfl)) ?_
        refine WD_x (hO₇.bsl (E := e_T_api_Arc) (l := [(⟨gi of (x : Int).toNat, gi of (((gi cells (x : Int).toNat).Next).get d : Int).toNat, x1⟩ : T_api_Arc)]) ⟨fr₂.m 15 (by decide) (by decide), nb₁⟩ (by rw [(ev_cons (v := .ag (e_T_api_Arc.c (⟨gi of (x : Int).toNat, gi of (((gi cells (x : Int).toNat).Next).get d : Int).toNat, x1⟩ : T_api_Arc))) rfl ev_nil)]; rfl) rfl) ?_
        rintro v₄ k₇ z₁ ⟨r₂, f₃, hW⟩
        have fr₃ := fr₂.kept f₃ (by decide)
        have hO₈ : Own B h k₇ [eSl e_T_api_Arc v₂ l, eBox r₁ (e_T_api_Cell.c (gi cells (x : Int).toNat)), eSl e_T_api_Arc v₄ [(⟨gi of (x : Int).toNat, gi of (((gi cells (x : Int).toNat).Next).get d : Int).toNat, x1⟩ : T_api_Arc)]] := hW
        obtain ⟨c₅, hp⟩ := ck_some hp
        refine WD_x (hO₈.app (E := e_T_api_Arc) (bytes := 24) 0 ⟨fr₃.m 16 (by decide) (by decide), nb₁⟩ rfl (hO₈.sl 2 rfl : Sl e_T_api_Arc k₇ v₄ [(⟨gi of (x : Int).toNat, gi of (((gi cells (x : Int).toNat).Next).get d : Int).toNat, x1⟩ : T_api_Arc)]) rfl rfl (fun _ => rfl) c₅ (by decide)) ?_
        rintro v₅ k₈ z₂ ⟨f₄, hW⟩
        have fr₄ := fr₃.kept f₄ (by decide)
        have hO₉ : Own B h k₈ [eSl e_T_api_Arc v₅ (l ++ [(⟨gi of (x : Int).toNat, gi of (((gi cells (x : Int).toNat).Next).get d : Int).toNat, x1⟩ : T_api_Arc)]), eBox r₁ (e_T_api_Cell.c (gi cells (x : Int).toNat)), eSl e_T_api_Arc v₄ [(⟨gi of (x : Int).toNat, gi of (((gi cells (x : Int).toNat).Next).get d : Int).toNat, x1⟩ : T_api_Arc)]] := hW
        refine WD_v (a_mv (v := v₅) rfl) ?_
        refine WD_end ?_
        refine And.intro ?_ ?_
        · intro q hq
          simp only [List.mem_cons, List.not_mem_nil, or_false] at hq
          rcases hq with rfl | rfl | rfl | rfl | rfl
          · refine ap_ll ?_ ?_
            · exact (fun h => nomatch h)
            · exact (fun h => nomatch h)
          · refine ap_ll ?_ ?_
            · exact (fun h => nomatch h)
            · exact (fun h => nomatch h)
          · refine ap_ll ?_ ?_
            · exact (fun h => nomatch h)
            · exact (fun h => nomatch h)
          · refine ap_ol rfl rfl ?_
            · exact (fun r hm hc => hc (hW₁.base r (Nat.lt_of_lt_of_le (Nat.lt_of_lt_of_le (hO₅.lo _ (Rd.B s_of.rd hO₅.lo (toNat_lt c₃) _ (refs_elt (tch (v := V.elt v_of (x : Int).toNat 0) (ld_el hm) rfl)))) hO₅.n) (Nat.le_trans (Nat.le_add_right _ _) fr₁.n))))
          · refine ap_ol rfl rfl ?_
            · exact (fun r hm hc => hc (hW₁.base r (Nat.lt_of_lt_of_le (Nat.lt_of_lt_of_le (hO₅.lo _ (Rd.B s_of.rd hO₅.lo (toNat_lt c₄) _ (refs_elt (tch (v := V.elt v_of (((gi cells (x : Int).toNat).Next).get d : Int).toNat 0) (ld_el hm) rfl)))) hO₅.n) (Nat.le_trans (Nat.le_add_right _ _) fr₁.n))))
        refine blk_n ?_
        refine then_n ?_
        refine W_rg ?_
        obtain ⟨c₆, hp⟩ := ck_some hp
        refine WO_v (a_add (a := x) (b := 1) q₂_13 rfl c₆) ?_
        refine WO_v (a_mv (v := .i .i64 (x + 1)) rfl) ?_
        refine WO_end ?_
        have hp := Option.some.inj hp; subst hp
        exact (Or.inl (Exists.intro (l ++ [(⟨gi of (x : Int).toNat, gi of (((gi cells (x : Int).toNat).Next).get d : Int).toNat, x1⟩ : T_api_Arc)], x + 1) (And.intro rfl (And.intro rfl (Exists.intro v₅ (And.intro (q₂_1) (And.intro (q₂_2) (And.intro (rfl) (And.intro (q₂_11) (And.intro (q₂_12) (And.intro (rfl) (hO₉.pick [0] rfl (by decide)))))))))))))
      · refine W_cF (t := (decide (0 ≤ (((gi cells (x : Int).toNat).Next).get d)))) rfl b₂ ?_
        refine W_sk ?_
        refine blk_n ?_
        refine then_n ?_
        refine W_rg ?_
        obtain ⟨c₇, hp⟩ := ck_some hp
        refine WO_v (a_add (a := x) (b := 1) q₂_13 rfl c₇) ?_
        refine WO_v (a_mv (v := .i .i64 (x + 1)) rfl) ?_
        refine WO_end ?_
        have hp := Option.some.inj hp; subst hp
        exact (Or.inl (Exists.intro (l, x + 1) (And.intro rfl (And.intro rfl (Exists.intro v₂ (And.intro (q₂_1) (And.intro (q₂_2) (And.intro (q₂_7) (And.intro (q₂_11) (And.intro (q₂_12) (And.intro (rfl) (hO₅.pick [0] rfl (by decide)))))))))))))
    · refine W_cF (t := (decide (x < (cells.length : Int)))) rfl b₁ ?_
      refine W_ex ?_
      refine then_e ?_
      have hp := Option.some.inj hp; subst hp
      refine (Or.inr (Exists.intro l (And.intro rfl (And.intro (fun h => nomatch h) (fun he => ?_)))))
      subst he; exact (And.intro rfl (Exists.intro v₂ (And.intro (q₂_7) (hO₃.pick [0] rfl (by decide)))))
  intro e₁ q₁ k₁ hJ₁
  obtain ⟨l1, rfl⟩ : ∃ x, x = o₁ := ⟨_, rfl⟩
  obtain ⟨rfl, v₃, q₁_7, hO₁⟩ := hJ₁
  refine blk_i ?_
  refine then_n ?_
  refine W_sq ?_
  refine W_rg ?_
  refine WO_v (a_mv (v := v₃) q₁_7) ?_
  refine WO_v (a_mv (v := v₃) rfl) ?_
  refine WO_end ?_
  refine then_n ?_
  refine W_rt ?_
  refine Ret_r (rs_t (n := 6) (v := v₃) rfl rs_nil) ?_
  have hp := Option.some.inj hp; subst hp
  exact (Exists.intro v₃ (And.intro rfl (hO₁.pick [0] rfl (by decide))))

theorem p_arcs_Of.ok {h : Hp} {cells : List T_api_Cell} {v_cells : V} (s_cells : Sl e_T_api_Cell h v_cells cells) {r : T_arcs_Graphs × Int} (hp : p_arcs_Of cells = some r) :
    ∃ u k', Is G 129 [v_cells] h u k' ∧ ∃ (v₁ : V), ∃ (v₂ : V), ∃ (v₃ : V), ∃ (vs₁ : List V), ∃ (v₄ : V), ∃ (vs₂ : List V), ∃ (v₅ : V), ∃ (v₆ : V), V.tu [.ag [v₁, v₂, v₃, v₄, v₅, v₆], .i .i64 r.2] = u ∧ Own (fun r => r < h.n) h k' [eSl eInt v₁ r.1.Chains.X, eSl eInt v₂ r.1.Chains.Y, eSl eV v₃ vs₁, eAll eInt vs₁ r.1.Chains.Vert, eSl eV v₄ vs₂, eAll eInt vs₂ r.1.Chains.Horz, eSl e_T_api_Arc v₅ r.1.H, eSl e_T_api_Arc v₆ r.1.V] := by
  refine WC.is (WC_of G_F_arcs_Of ?_)
  unfold p_arcs_Of at hp
  let B : Nat → Prop := (fun r => r < h.n)
  have hO : Own B h h [] := Own.start0 h
  refine W_sq ?_
  refine W_rg ?_
  refine WO_x (hO.alloc (cs := [.sn, .sn, .sn, .sn, .sn, .sn]) hO.fr) ?_
  rintro _ k₁ ⟨r₁, rfl, n₁, f₁, hW⟩
  have hO₁ : Own B h k₁ [eBox r₁ [.sn, .sn, .sn, .sn, .sn, .sn]] := hW
  refine WO_v (a_mv (v := .i .i64 0) rfl) ?_
  refine WO_end ?_
  refine then_n ?_
  refine W_sq ?_
  refine W_rg ?_
  refine WO_v (a_mv (v := v_cells) rfl) ?_
  obtain ⟨⟨x, x1⟩, hx₁, hp⟩ := bd_some hp
  obtain ⟨u₁, k₂, ca₁, v₇, v₈, v₉, vs₃, v₁₀, vs₄, rfl, hW₁⟩ := p_seg_Of.ok (h := k₁)  (hO₁.rd0 s_cells.rd : Sl e_T_api_Cell k₁ v_cells cells) hx₁
  refine WO_c (id := 120) (caps := []) rfl (mp_cons (v := v_cells) rfl mp_nil) ca₁ ?_
  have hO₂ : Own B h k₂ [eBox r₁ [.sn, .sn, .sn, .sn, .sn, .sn], eSl eInt v₇ x.X, eSl eInt v₈ x.Y, eSl eV v₉ vs₃, eAll eInt vs₃ x.Vert, eSl eV v₁₀ vs₄, eAll eInt vs₄ x.Horz] := hO₁.call hW₁ rfl
  refine WO_v (a_mv (v := .tu [.ag [v₇, v₈, v₉, v₁₀], .i .i64 x1]) rfl) ?_
  refine WO_v (a_ext (vs := [.ag [v₇, v₈, v₉, v₁₀], .i .i64 x1]) (v := .ag [v₇, v₈, v₉, v₁₀]) rfl rfl) ?_
  refine WO_v (a_ext (vs := [.ag [v₇, v₈, v₉, v₁₀], .i .i64 x1]) (v := .i .i64 x1) rfl rfl) ?_
  refine WO_x (hO₂.alloc (cs := [.sn, .sn, .sn, .sn]) hO₂.fr) ?_
  rintro _ k₃ ⟨r₂, rfl, n₂, f₂, hW⟩
  have hO₃ : Own B h k₃ [eBox r₁ [.sn, .sn, .sn, .sn, .sn, .sn], eSl eInt v₇ x.X, eSl eInt v₈ x.Y, eSl eV v₉ vs₃, eAll eInt vs₃ x.Vert, eSl eV v₁₀ vs₄, eAll eInt vs₄ x.Horz, eBox r₂ [.sn, .sn, .sn, .sn]] := hW
  refine WO_x (hO₃.stb (ws := [v₇, v₈, v₉, v₁₀]) (cs' := [v₇, v₈, v₉, v₁₀]) (v := .ag [v₇, v₈, v₉, v₁₀]) 7 rfl rfl rfl rfl ⟨rfl, Nat.le_of_ble_eq_true rfl, (all_cons (hO₃.sl 1 rfl : Sl eInt k₃ v₇ x.X).oneV (all_cons (hO₃.sl 2 rfl : Sl eInt k₃ v₈ x.Y).oneV (all_cons (hO₃.sl 3 rfl : Sl eV k₃ v₉ vs₃).oneV (all_cons (hO₃.sl 5 rfl : Sl eV k₃ v₁₀ vs₄).oneV all_nil))))⟩ rfl) ?_
  rintro _ k₄ ⟨rfl, f₃, m₁, hW⟩
  have hO₄ : Own B h k₄ [eBox r₁ [.sn, .sn, .sn, .sn, .sn, .sn], eSl eInt v₇ x.X, eSl eInt v₈ x.Y, eSl eV v₉ vs₃, eAll eInt vs₃ x.Vert, eSl eV v₁₀ vs₄, eAll eInt vs₄ x.Horz, eBox r₂ [v₇, v₈, v₉, v₁₀]] := hW
  refine WO_v (a_mv (v := .i .i64 x1) rfl) ?_
  refine WO_end ?_
  refine then_n ?_
  refine W_sq ?_
  refine W_sq ?_
  refine W_rg ?_
  refine WO_v (a_mv (v := .i .i64 x1) rfl) ?_
  refine WO_v (a_neI (a := x1) (b := 0) rfl rfl) ?_
  refine WO_end ?_
  refine then_n ?_
  rcases if_some hp with ⟨b₁, hp⟩ | ⟨b₁, hp⟩
  · refine W_cT (t := (!(decide (x1 = 0)))) rfl b₁ ?_
    refine W_sq ?_
    refine W_rg ?_
    refine WO_v (a_build (cs := [.sn, .sn, .sn, .sn, .sn, .sn]) (by rw [ev_nil]; simp [fill, over, cells_i, cells_b, cells_f, cells_p, cells_a, cells_n, (Sl.nil : Sl e_T_api_Arc k₄ .sn ([] : List T_api_Arc)).cells, (Sl.nil : Sl e_T_api_Arc k₄ .sn ([] : List T_api_Arc)).cells])) ?_
    refine WO_v (a_mv (v := .i .i64 x1) rfl) ?_
    refine WO_x (hO₄.stb (ws := [.sn, .sn, .sn, .sn, .sn, .sn]) (cs' := [.sn, .sn, .sn, .sn, .sn, .sn]) (v := .ag [.sn, .sn, .sn, .sn, .sn, .sn]) 0 rfl rfl rfl rfl ⟨rfl, Nat.le_of_ble_eq_true rfl, (all_cons (Sl.nil : Sl eInt k₄ .sn ([] : List Int)).oneV (all_cons (Sl.nil : Sl eInt k₄ .sn ([] : List Int)).oneV (all_cons (Sl.nil : Sl eV k₄ .sn []).oneV (all_cons (Sl.nil : Sl eV k₄ .sn []).oneV (all_cons (Sl.nil : Sl e_T_api_Arc k₄ .sn ([] : List T_api_Arc)).oneV (all_cons (Sl.nil : Sl e_T_api_Arc k₄ .sn ([] : List T_api_Arc)).oneV all_nil))))))⟩ rfl) ?_
    rintro _ k₅ ⟨rfl, f₄, m₂, hW⟩
    have hO₅ : Own B h k₅ [eBox r₁ [.sn, .sn, .sn, .sn, .sn, .sn], eSl eInt v₇ x.X, eSl eInt v₈ x.Y, eSl eV v₉ vs₃, eAll eInt vs₃ x.Vert, eSl eV v₁₀ vs₄, eAll eInt vs₄ x.Horz, eBox r₂ [v₇, v₈, v₉, v₁₀]] := hW
    refine WO_v (a_mv (v := .i .i64 x1) rfl) ?_
    refine WO_end ?_
    refine then_n ?_
    refine W_rt ?_
    refine then_r ?_
    have hO₆ : Own B h k₅ [eBox r₁ [.sn, .sn, .sn, .sn, .sn, .sn], eSl eInt v₇ x.X, eSl eInt v₈ x.Y, eSl eV v₉ vs₃, eAll eInt vs₃ x.Vert, eSl eV v₁₀ vs₄, eAll eInt vs₄ x.Horz, eBox r₂ [v₇, v₈, v₉, v₁₀], eSl eInt .sn ([] : List Int)] := hO₅.nil eInt
    have hO₇ : Own B h k₅ [eBox r₁ [.sn, .sn, .sn, .sn, .sn, .sn], eSl eInt v₇ x.X, eSl eInt v₈ x.Y, eSl eV v₉ vs₃, eAll eInt vs₃ x.Vert, eSl eV v₁₀ vs₄, eAll eInt vs₄ x.Horz, eBox r₂ [v₇, v₈, v₉, v₁₀], eSl eInt .sn ([] : List Int), eSl eInt .sn ([] : List Int)] := hO₆.nil eInt
    have hO₈ : Own B h k₅ [eBox r₁ [.sn, .sn, .sn, .sn, .sn, .sn], eSl eInt v₇ x.X, eSl eInt v₈ x.Y, eSl eV v₉ vs₃, eAll eInt vs₃ x.Vert, eSl eV v₁₀ vs₄, eAll eInt vs₄ x.Horz, eBox r₂ [v₇, v₈, v₉, v₁₀], eSl eInt .sn ([] : List Int), eSl eInt .sn ([] : List Int), eSl eV .sn []] := hO₇.nil eV
    have hO₉ : Own B h k₅ [eBox r₁ [.sn, .sn, .sn, .sn, .sn, .sn], eSl eInt v₇ x.X, eSl eInt v₈ x.Y, eSl eV v₉ vs₃, eAll eInt vs₃ x.Vert, eSl eV v₁₀ vs₄, eAll eInt vs₄ x.Horz, eBox r₂ [v₇, v₈, v₉, v₁₀], eSl eInt .sn ([] : List Int), eSl eInt .sn ([] : List Int), eSl eV .sn [], eAll eInt [] []] := hO₈.allNil eInt 0
    have hO₁₀ : Own B h k₅ [eBox r₁ [.sn, .sn, .sn, .sn, .sn, .sn], eSl eInt v₇ x.X, eSl eInt v₈ x.Y, eSl eV v₉ vs₃, eAll eInt vs₃ x.Vert, eSl eV v₁₀ vs₄, eAll eInt vs₄ x.Horz, eBox r₂ [v₇, v₈, v₉, v₁₀], eSl eInt .sn ([] : List Int), eSl eInt .sn ([] : List Int), eSl eV .sn [], eAll eInt [] [], eSl eV .sn []] := hO₉.nil eV
    have hO₁₁ : Own B h k₅ [eBox r₁ [.sn, .sn, .sn, .sn, .sn, .sn], eSl eInt v₇ x.X, eSl eInt v₈ x.Y, eSl eV v₉ vs₃, eAll eInt vs₃ x.Vert, eSl eV v₁₀ vs₄, eAll eInt vs₄ x.Horz, eBox r₂ [v₇, v₈, v₉, v₁₀], eSl eInt .sn ([] : List Int), eSl eInt .sn ([] : List Int), eSl eV .sn [], eAll eInt [] [], eSl eV .sn [], eAll eInt [] []] := hO₁₀.allNil eInt 0
    have hO₁₂ : Own B h k₅ [eBox r₁ [.sn, .sn, .sn, .sn, .sn, .sn], eSl eInt v₇ x.X, eSl eInt v₈ x.Y, eSl eV v₉ vs₃, eAll eInt vs₃ x.Vert, eSl eV v₁₀ vs₄, eAll eInt vs₄ x.Horz, eBox r₂ [v₇, v₈, v₉, v₁₀], eSl eInt .sn ([] : List Int), eSl eInt .sn ([] : List Int), eSl eV .sn [], eAll eInt [] [], eSl eV .sn [], eAll eInt [] [], eSl e_T_api_Arc .sn ([] : List T_api_Arc)] := hO₁₁.nil e_T_api_Arc
    have hO₁₃ : Own B h k₅ [eBox r₁ [.sn, .sn, .sn, .sn, .sn, .sn], eSl eInt v₇ x.X, eSl eInt v₈ x.Y, eSl eV v₉ vs₃, eAll eInt vs₃ x.Vert, eSl eV v₁₀ vs₄, eAll eInt vs₄ x.Horz, eBox r₂ [v₇, v₈, v₉, v₁₀], eSl eInt .sn ([] : List Int), eSl eInt .sn ([] : List Int), eSl eV .sn [], eAll eInt [] [], eSl eV .sn [], eAll eInt [] [], eSl e_T_api_Arc .sn ([] : List T_api_Arc), eSl e_T_api_Arc .sn ([] : List T_api_Arc)] := hO₁₂.nil e_T_api_Arc
    refine Ret_r (rs_c (n := 2) (v := .ag [.sn, .sn, .sn, .sn, .sn, .sn]) (r := r₁) rfl (hO₁₃.box 0 rfl) rfl (rs_t (n := 3) (v := .i .i64 x1) rfl rs_nil)) ?_
    have hp := Option.some.inj hp; subst hp
    exact (Exists.intro V.sn (Exists.intro V.sn (Exists.intro V.sn (Exists.intro [] (Exists.intro V.sn (Exists.intro [] (Exists.intro V.sn (Exists.intro V.sn (And.intro rfl (hO₁₃.pick [8, 9, 10, 11, 12, 13, 14, 15] rfl (by decide)))))))))))
  · refine W_cF (t := (!(decide (x1 = 0)))) rfl b₁ ?_
    refine W_sk ?_
    refine then_n ?_
    refine W_sq ?_
    refine W_dr ?_
    have hW := hO₄.bump 12
    have fr₁ := Fresh.start k₄ 12
    have nb₁ : ∀ {i : Nat}, h.n ≤ k₄.n + i := Nat.le_trans hO₄.n (Nat.le_add_right _ _)
    have hO₁₄ : Own B h (k₄.bump 12) [eBox r₁ [.sn, .sn, .sn, .sn, .sn, .sn], eSl eInt v₇ x.X, eSl eInt v₈ x.Y, eSl eV v₉ vs₃, eAll eInt vs₃ x.Vert, eSl eV v₁₀ vs₄, eAll eInt vs₄ x.Horz, eBox r₂ [v₇, v₈, v₉, v₁₀]] := hW
    refine WD_v (a_ldbA (cs := [v₇, v₈, v₉, v₁₀]) (ws := [v₇, v₈, v₉, v₁₀]) (hO₁₄.box 7 rfl) rfl rfl) ?_
    refine WD_v (a_mv (v := v_cells) rfl) ?_
    refine WD_v (a_fa (r := r₂) (o := 0) (o' := 0) rfl rfl) ?_
    refine WD_v (a_ldb (cs := [v₇, v₈, v₉, v₁₀]) (v := v₇) (hO₁₄.box 7 rfl) rfl rfl) ?_
    obtain ⟨x2, hx₂, hp⟩ := bd_some hp
    obtain ⟨u₂, k₇, ca₂, v₁₁, rfl, hW₂⟩ := p_arcs_graph.ok (h := (k₄.bump 12))  (hO₁₄.rd0 s_cells.rd : Sl e_T_api_Cell (k₄.bump 12) v_cells cells) (hO₁₄.sl 1 rfl : Sl eInt (k₄.bump 12) v₇ x.X) hx₂
    refine WD_c (id := 144) (caps := []) rfl (mp_cons (v := v_cells) rfl (mp_cons (v := .i .i64 0) rfl (mp_cons (v := v₇) rfl mp_nil))) ca₂ ?_
    have fr₂ := fr₁.call hW₂
    have hO₁₅ : Own B h k₇ [eBox r₁ [.sn, .sn, .sn, .sn, .sn, .sn], eSl eInt v₇ x.X, eSl eInt v₈ x.Y, eSl eV v₉ vs₃, eAll eInt vs₃ x.Vert, eSl eV v₁₀ vs₄, eAll eInt vs₄ x.Horz, eBox r₂ [v₇, v₈, v₉, v₁₀], eSl e_T_api_Arc v₁₁ x2] := hO₁₄.call hW₂ rfl
    refine WD_v (a_mv (v := v_cells) rfl) ?_
    refine WD_v (a_fa (r := r₂) (o := 0) (o' := 1) rfl rfl) ?_
    refine WD_v (a_ldb (cs := [v₇, v₈, v₉, v₁₀]) (v := v₈) (hO₁₅.box 7 rfl) rfl rfl) ?_
    obtain ⟨x3, hx₃, hp⟩ := bd_some hp
    obtain ⟨u₃, k₈, ca₃, v₁₂, rfl, hW₃⟩ := p_arcs_graph.ok (h := k₇)  (hO₁₅.rd0 s_cells.rd : Sl e_T_api_Cell k₇ v_cells cells) (hO₁₅.sl 2 rfl : Sl eInt k₇ v₈ x.Y) hx₃
    refine WD_c (id := 144) (caps := []) rfl (mp_cons (v := v_cells) rfl (mp_cons (v := .i .i64 1) rfl (mp_cons (v := v₈) rfl mp_nil))) ca₃ ?_
    have fr₃ := fr₂.call hW₃
    have hO₁₆ : Own B h k₈ [eBox r₁ [.sn, .sn, .sn, .sn, .sn, .sn], eSl eInt v₇ x.X, eSl eInt v₈ x.Y, eSl eV v₉ vs₃, eAll eInt vs₃ x.Vert, eSl eV v₁₀ vs₄, eAll eInt vs₄ x.Horz, eBox r₂ [v₇, v₈, v₉, v₁₀], eSl e_T_api_Arc v₁₁ x2, eSl e_T_api_Arc v₁₂ x3] := hO₁₅.call hW₃ rfl
    refine WD_v (a_build (cs := [v₇, v₈, v₉, v₁₀, v₁₁, v₁₂]) (by rw [(ev_cons (v := .ag [v₇, v₈, v₉, v₁₀]) rfl (ev_cons (v := v₁₁) rfl (ev_cons (v := v₁₂) rfl ev_nil)))]; simp [fill, over, cells_i, cells_b, cells_f, cells_p, cells_a, cells_n, (hO₁₆.sl 8 rfl : Sl e_T_api_Arc k₈ v₁₁ x2).cells, (hO₁₆.sl 9 rfl : Sl e_T_api_Arc k₈ v₁₂ x3).cells])) ?_
    refine WD_x (hO₁₆.stb (ws := [v₇, v₈, v₉, v₁₀, v₁₁, v₁₂]) (cs' := [v₇, v₈, v₉, v₁₀, v₁₁, v₁₂]) (v := .ag [v₇, v₈, v₉, v₁₀, v₁₁, v₁₂]) 0 rfl rfl rfl rfl ⟨rfl, Nat.le_of_ble_eq_true rfl, (all_cons (hO₁₆.sl 1 rfl : Sl eInt k₈ v₇ x.X).oneV (all_cons (hO₁₆.sl 2 rfl : Sl eInt k₈ v₈ x.Y).oneV (all_cons (hO₁₆.sl 3 rfl : Sl eV k₈ v₉ vs₃).oneV (all_cons (hO₁₆.sl 5 rfl : Sl eV k₈ v₁₀ vs₄).oneV (all_cons (hO₁₆.sl 8 rfl : Sl e_T_api_Arc k₈ v₁₁ x2).oneV (all_cons (hO₁₆.sl 9 rfl : Sl e_T_api_Arc k₈ v₁₂ x3).oneV all_nil))))))⟩ rfl) ?_
    rintro _ k₉ z₁ ⟨rfl, f₅, m₃, hW⟩
    have fr₄ := fr₃.kept f₅ (by decide)
    have hO₁₇ : Own B h k₉ [eBox r₁ [v₇, v₈, v₉, v₁₀, v₁₁, v₁₂], eSl eInt v₇ x.X, eSl eInt v₈ x.Y, eSl eV v₉ vs₃, eAll eInt vs₃ x.Vert, eSl eV v₁₀ vs₄, eAll eInt vs₄ x.Horz, eBox r₂ [v₇, v₈, v₉, v₁₀], eSl e_T_api_Arc v₁₁ x2, eSl e_T_api_Arc v₁₂ x3] := hW
    refine WD_v (a_mv (v := .i .i64 0) rfl) ?_
    refine WD_end ?_
    refine And.intro ?_ ?_
    · intro q hq
      simp only [List.mem_cons, List.not_mem_nil, or_false] at hq
      rcases hq with rfl | rfl | rfl | rfl | rfl | rfl
      · refine ap_ll ?_ ?_
        · exact (fun h => nomatch h)
        · exact (fun h => nomatch h)
      · refine ap_ol rfl rfl ?_
        · exact (fun r hm hc => hc (hW₂.base r (Nat.lt_of_lt_of_le (hO₄.ltAt 7 rfl _ (tch (v := V.p r₂ 0) (ld_el hm) rfl)) (Nat.le_trans (Nat.le_add_right _ _) fr₁.n))))
      · refine ap_ll ?_ ?_
        · exact (fun h => nomatch h)
        · exact (fun h => nomatch h)
      · refine ap_ll ?_ ?_
        · exact (fun h => nomatch h)
        · exact (fun h => nomatch h)
      · refine ap_cl rfl ?_
        · exact (fun r hm hc => hc (hW₂.base r (Nat.lt_of_lt_of_le (hO₄.ltAt 7 rfl _ (tch (v := V.p r₂ 1) (ld_el hm) rfl)) (Nat.le_trans (Nat.le_add_right _ _) fr₁.n))))
      · refine ap_ol rfl rfl ?_
        · exact (fun r hm hc => hc (hW₃.base r (Nat.lt_of_lt_of_le (hO₄.ltAt 7 rfl _ (tch (v := V.p r₂ 0) (ld_el hm) rfl)) (Nat.le_trans (Nat.le_add_right _ _) fr₂.n))))
    refine then_n ?_
    refine W_rt ?_
    refine Ret_r (rs_c (n := 2) (v := .ag [v₇, v₈, v₉, v₁₀, v₁₁, v₁₂]) (r := r₁) rfl (hO₁₇.box 0 rfl) rfl (rs_t (n := 3) (v := .i .i64 0) rfl rs_nil)) ?_
    have hp := Option.some.inj hp; subst hp
    exact (Exists.intro v₇ (Exists.intro v₈ (Exists.intro v₉ (Exists.intro vs₃ (Exists.intro v₁₀ (Exists.intro vs₄ (Exists.intro v₁₁ (Exists.intro v₁₂ (And.intro rfl (hO₁₇.pick [1, 2, 3, 4, 5, 6, 8, 9] rfl (by decide)))))))))))

theorem p_muntinref16_First.ok {h : Hp} {l : List T_api_Cell} {v : Int} {d : Int} {v_l : V} (s_l : Sl e_T_api_Cell h v_l l) {r : Int} (hp : p_muntinref16_First l v d = some r) :
    ∃ u k', Is G 150 [v_l, .i .i64 v, .i .i64 d] h u k' ∧ V.i .i64 r = u ∧ Own (fun r => r < h.n) h k' [] := by
  refine WC.is (WC_of G_F_muntinref16_First ?_)
  unfold p_muntinref16_First at hp
  let B : Nat → Prop := (fun r => r < h.n)
  have hO : Own B h h [] := Own.start0 h
  refine W_sq ?_
  refine W_rg ?_
  refine WO_v (a_mv (v := .i .i64 0) rfl) ?_
  refine WO_end ?_
  refine then_n ?_
  refine W_sq ?_
  refine W_sq ?_
  refine W_rg ?_
  refine WO_v (a_mv (v := .i .i64 0) rfl) ?_
  refine WO_end ?_
  refine then_n ?_
  refine W_bl ?_
  obtain ⟨o₁, ho₁, hp⟩ := bd_some hp
  refine W.mono (Q := fun e fr k => match (generalizing := false) o₁ with
      | .inl _ => e = (.exit 0) ∧ Own B h k []
      | .inr x => e = .ret ∧ fr 6 = .i .i64 x ∧ Own B h k []) ?_ ?_
  · clear hp
    refine W_loopF (fun st fr k => match st with | (v1, n) => fr 0 = v_l ∧ fr 1 = .i .i64 v1 ∧ fr 2 = .i .i64 d ∧ fr 7 = .i .i64 n ∧ Own B h k []) ho₁ (s := (v, 0)) (And.intro (rfl) (And.intro (rfl) (And.intro (rfl) (And.intro (rfl) (hO.pick [] rfl (by decide)))))) ?_
    rintro ⟨v1, n⟩ q₂ k₂ ⟨q₂_0, q₂_1, q₂_2, q₂_7, hO₂⟩ o₂ hp
    dsimp only [p_muntinref16_First.s0] at hp
    refine W_sq ?_
    refine W_sq ?_
    refine W_rg ?_
    refine WO_v (a_mv (v := .i .i64 n) q₂_7) ?_
    refine WO_v (a_mv (v := v_l) q₂_0) ?_
    refine WO_v (a_len (hO₂.rd0 s_l.rd : Sl e_T_api_Cell k₂ v_l l) rfl) ?_
    refine WO_v (a_leq (a := n) (b := (l.length : Int)) rfl rfl) ?_
    refine WO_end ?_
    refine then_n ?_
    rcases if_some hp with ⟨b₁, hp⟩ | ⟨b₁, hp⟩
    · refine W_cT (t := (decide (n ≤ (l.length : Int)))) rfl b₁ ?_
      refine W_sk ?_
      refine then_n ?_
      refine W_sq ?_
      refine W_bl ?_
      refine W_sq ?_
      refine W_rg ?_
      refine WO_v (a_mv (v := v_l) q₂_0) ?_
      refine WO_v (a_mv (v := .i .i64 v1) q₂_1) ?_
      refine WO_v (a_mv (v := .i .i64 d) q₂_2) ?_
      obtain ⟨c₁, hp⟩ := ck_some hp
      refine WO_v (a_add (a := d) (b := 2) rfl rfl c₁) ?_
      refine WO_v (a_rem (a := (d + 2)) (b := 4) rfl rfl (by decide)) ?_
      obtain ⟨c₂, hp⟩ := ck_some hp
      refine WO_v (a_ixa (E := e_T_api_Cell) (z := v1) (hO₂.rd0 s_l.rd : Sl e_T_api_Cell k₂ v_l l) rfl rfl c₂) ?_
      refine WO_v (a_faE (off' := 0) (off2 := 0) (hO₂.rd0 s_l.rd : Sl e_T_api_Cell k₂ v_l l) (toNat_lt c₂) rfl rfl) ?_
      obtain ⟨c₃, hp⟩ := ck_some hp
      refine WO_v (a_ixaaE (off := 0) (off2 := (0 + ((d + 2).tmod 4 : Int).toNat * 1)) (z := ((d + 2).tmod 4)) (hO₂.rd0 s_l.rd : Sl e_T_api_Cell k₂ v_l l) (toNat_lt c₂) rfl rfl c₃ rfl) ?_
      refine WO_v (a_ldE (w := .i .i64 (((gi l (v1 : Int).toNat).Next).get ((d + 2).tmod 4))) (hO₂.rd0 s_l.rd : Sl e_T_api_Cell k₂ v_l l) rfl (toNat_lt c₂) (ld_T_api_Cell_Next c₃)) ?_
      refine WO_v (a_mv (v := .i .i64 (((gi l (v1 : Int).toNat).Next).get ((d + 2).tmod 4))) rfl) ?_
      refine WO_end ?_
      refine then_n ?_
      refine W_sq ?_
      refine W_sq ?_
      refine W_rg ?_
      refine WO_v (a_mv (v := .i .i64 (((gi l (v1 : Int).toNat).Next).get ((d + 2).tmod 4))) rfl) ?_
      refine WO_v (a_lss (a := (((gi l (v1 : Int).toNat).Next).get ((d + 2).tmod 4))) (b := 0) rfl rfl) ?_
      refine WO_end ?_
      refine then_n ?_
      rcases if_some hp with ⟨b₂, hp⟩ | ⟨b₂, hp⟩
      · refine W_cT (t := (decide ((((gi l (v1 : Int).toNat).Next).get ((d + 2).tmod 4)) < 0))) rfl b₂ ?_
        refine W_sq ?_
        refine W_rg ?_
        refine WO_v (a_mv (v := .i .i64 v1) q₂_1) ?_
        refine WO_v (a_mv (v := .i .i64 v1) rfl) ?_
        refine WO_end ?_
        refine then_n ?_
        refine W_rt ?_
        refine then_r ?_
        refine blk_r ?_
        refine then_r ?_
        have hp := Option.some.inj hp; subst hp
        refine (Or.inr (Exists.intro (.inr v1) (And.intro rfl (And.intro (fun h => nomatch h) (fun he => ?_)))))
        subst he; exact (And.intro rfl (And.intro (rfl) (hO₂.pick [] rfl (by decide))))
      · refine W_cF (t := (decide ((((gi l (v1 : Int).toNat).Next).get ((d + 2).tmod 4)) < 0))) rfl b₂ ?_
        refine W_sk ?_
        refine then_n ?_
        refine W_rg ?_
        refine WO_v (a_mv (v := .i .i64 (((gi l (v1 : Int).toNat).Next).get ((d + 2).tmod 4))) rfl) ?_
        refine WO_v (a_mv (v := .i .i64 (((gi l (v1 : Int).toNat).Next).get ((d + 2).tmod 4))) rfl) ?_
        refine WO_end ?_
        refine blk_n ?_
        refine then_n ?_
        refine W_rg ?_
        refine WO_v (a_mv (v := .i .i64 n) q₂_7) ?_
        obtain ⟨c₄, hp⟩ := ck_some hp
        refine WO_v (a_add (a := n) (b := 1) rfl rfl c₄) ?_
        refine WO_v (a_mv (v := .i .i64 (n + 1)) rfl) ?_
        refine WO_end ?_
        have hp := Option.some.inj hp; subst hp
        exact (Or.inl (Exists.intro (((gi l (v1 : Int).toNat).Next).get ((d + 2).tmod 4), n + 1) (And.intro rfl (And.intro rfl (And.intro (q₂_0) (And.intro (rfl) (And.intro (q₂_2) (And.intro (rfl) (hO₂.pick [] rfl (by decide))))))))))
    · refine W_cF (t := (decide (n ≤ (l.length : Int)))) rfl b₁ ?_
      refine W_ex ?_
      refine then_e ?_
      have hp := Option.some.inj hp; subst hp
      refine (Or.inr (Exists.intro (.inl ()) (And.intro rfl (And.intro (fun h => nomatch h) (fun he => ?_)))))
      subst he; exact (And.intro rfl (hO₂.pick [] rfl (by decide)))
  intro e₁ q₁ k₁ hJ₁
  rcases o₁ with _ | x
  · obtain ⟨rfl, hO₁⟩ := hJ₁
    refine blk_i ?_
    refine then_n ?_
    refine W_sq ?_
    refine W_rg ?_
    refine WO_v (a_mv (v := .i .i64 (-1)) rfl) ?_
    refine WO_end ?_
    refine then_n ?_
    refine W_rt ?_
    refine Ret_r (rs_t (n := 6) (v := .i .i64 (-1)) rfl rs_nil) ?_
    have hp := Option.some.inj hp; subst hp
    exact (And.intro rfl (hO₁.pick [] rfl (by decide)))
  · obtain ⟨rfl, q₁_6, hO₁⟩ := hJ₁
    refine blk_r ?_
    refine then_r ?_
    refine Ret_r (rs_t (n := 6) (v := .i .i64 x) q₁_6 rs_nil) ?_
    have hp := Option.some.inj hp; subst hp
    exact (And.intro rfl (hO₁.pick [] rfl (by decide)))

theorem p_muntinref16_chains.ok {h : Hp} {l : List T_api_Cell} {d : Int} {v_l : V} (s_l : Sl e_T_api_Cell h v_l l) {r : (List Int) × (List (List Int)) × Bool} (hp : p_muntinref16_chains l d = some r) :
    ∃ u k', Is G 138 [v_l, .i .i64 d] h u k' ∧ ∃ (v₁ : V), ∃ (v₂ : V), ∃ (vs₁ : List V), V.tu [v₁, v₂, .b r.2.2] = u ∧ Own (fun r => r < h.n) h k' [eSl eInt v₁ r.1, eSl eV v₂ vs₁, eAll eInt vs₁ r.2.1] := by
  refine WC.is (WC_of G_F_muntinref16_chains ?_)
  unfold p_muntinref16_chains at hp
  let B : Nat → Prop := (fun r => r < h.n)
  have hO : Own B h h [] := Own.start0 h
  refine W_sq ?_
  refine W_rg ?_
  refine WO_v (a_mv (v := .sn) rfl) ?_
  refine WO_v (a_mv (v := .sn) rfl) ?_
  refine WO_v (a_mv (v := .b false) rfl) ?_
  refine WO_end ?_
  refine then_n ?_
  refine W_sq ?_
  refine W_rg ?_
  refine WO_v (a_mv (v := v_l) rfl) ?_
  refine WO_v (a_len (hO.rd0 s_l.rd : Sl e_T_api_Cell h v_l l) rfl) ?_
  obtain ⟨c₁, hp⟩ := ck_some hp
  refine WO_x (hO.mks (E := eInt) (y := (0 : Int)) (bytes := 8) (z := (l.length : Int)) hO.fr rfl rfl rfl c₁ (by decide)) ?_
  rintro v₃ k₁ ⟨r₁, f₁, hW⟩
  have hO₁ : Own B h k₁ [eSl eInt v₃ (List.replicate ((l.length : Int) : Int).toNat (0 : Int))] := hW
  refine WO_v (a_mv (v := v₃) rfl) ?_
  refine WO_end ?_
  refine then_n ?_
  refine W_sq ?_
  refine W_rg ?_
  refine WO_v (a_mv (v := .sn) rfl) ?_
  refine WO_end ?_
  refine then_n ?_
  refine W_sq ?_
  refine W_rg ?_
  refine WO_v (a_mv (v := .sn) rfl) ?_
  refine WO_end ?_
  refine then_n ?_
  refine W_sq ?_
  refine W_sq ?_
  refine W_rg ?_
  refine WO_v (a_mv (v := .i .i64 0) rfl) ?_
  refine WO_end ?_
  refine then_n ?_
  refine W_bl ?_
  obtain ⟨o₁, ho₁, hp⟩ := bd_some hp
  refine W.mono (Q := fun e fr k => match (generalizing := false) o₁ with
      | .inl (at_1, out1) => e = (.exit 0) ∧ ∃ (v₆ : V), ∃ (vs₃ : List V), fr 7 = v₃ ∧ fr 9 = v₆ ∧ Own B h k [eSl eInt v₃ at_1, eSl eV v₆ vs₃, eAll eInt vs₃ out1]
      | .inr _ => e = .ret ∧ fr 4 = .sn ∧ fr 5 = .sn ∧ fr 6 = .b false ∧ Own B h k []) ?_ ?_
  · clear hp
    have hO₃ : Own B h k₁ [eSl eInt v₃ (List.replicate ((l.length : Int) : Int).toNat (0 : Int)), eSl eInt .sn ([] : List Int)] := hO₁.nil eInt
    have hO₄ : Own B h k₁ [eSl eInt v₃ (List.replicate ((l.length : Int) : Int).toNat (0 : Int)), eSl eInt .sn ([] : List Int), eSl eV .sn []] := hO₃.nil eV
    have hO₅ : Own B h k₁ [eSl eInt v₃ (List.replicate ((l.length : Int) : Int).toNat (0 : Int)), eSl eInt .sn ([] : List Int), eSl eV .sn [], eAll eInt [] []] := hO₄.allNil eInt 0
    refine W_loopF (fun st fr k => match st with | (at_, firsts, out, v) => ∃ (v₄ : V), ∃ (v₅ : V), ∃ (vs₂ : List V), fr 0 = v_l ∧ fr 1 = .i .i64 d ∧ fr 7 = v₃ ∧ fr 8 = v₄ ∧ fr 9 = v₅ ∧ fr 10 = .i .i64 v ∧ Own B h k [eSl eInt v₃ at_, eSl eInt v₄ firsts, eSl eV v₅ vs₂, eAll eInt vs₂ out]) ho₁ (s := (List.replicate ((l.length : Int) : Int).toNat (0 : Int), ([] : List Int), ([] : List (List Int)), 0)) (Exists.intro V.sn (Exists.intro V.sn (Exists.intro [] (And.intro (rfl) (And.intro (rfl) (And.intro (rfl) (And.intro (rfl) (And.intro (rfl) (And.intro (rfl) (hO₅.pick [0, 1, 2, 3] rfl (by decide))))))))))) ?_
    rintro ⟨at_, firsts, out, v⟩ q₂ k₃ ⟨v₄, v₅, vs₂, q₂_0, q₂_1, q₂_7, q₂_8, q₂_9, q₂_10, hO₆⟩ o₂ hp
    dsimp only [p_muntinref16_chains.s0] at hp
    refine W_sq ?_
    refine W_sq ?_
    refine W_rg ?_
    refine WO_v (a_mv (v := .i .i64 v) q₂_10) ?_
    refine WO_v (a_mv (v := v_l) q₂_0) ?_
    refine WO_v (a_len (hO₆.rd0 s_l.rd : Sl e_T_api_Cell k₃ v_l l) rfl) ?_
    refine WO_v (a_lss (a := v) (b := (l.length : Int)) rfl rfl) ?_
    refine WO_end ?_
    refine then_n ?_
    rcases if_some hp with ⟨b₁, hp⟩ | ⟨b₁, hp⟩
    · refine W_cT (t := (decide (v < (l.length : Int)))) rfl b₁ ?_
      refine W_sk ?_
      refine then_n ?_
      refine W_sq ?_
      refine W_bl ?_
      refine W_sq ?_
      refine W_rg ?_
      refine WO_v (a_mv (v := v_l) q₂_0) ?_
      refine WO_v (a_mv (v := .i .i64 v) q₂_10) ?_
      refine WO_v (a_mv (v := .i .i64 d) q₂_1) ?_
      obtain ⟨x, hx₁, hp⟩ := bd_some hp
      obtain ⟨u₁, k₄, ca₁, rfl, hW₁⟩ := p_muntinref16_First.ok (h := k₃)  (hO₆.rd0 s_l.rd : Sl e_T_api_Cell k₃ v_l l) hx₁
      refine WO_c (id := 150) (caps := []) rfl (mp_cons (v := v_l) rfl (mp_cons (v := .i .i64 v) rfl (mp_cons (v := .i .i64 d) rfl mp_nil))) ca₁ ?_
      have hO₇ : Own B h k₄ [eSl eInt v₃ at_, eSl eInt v₄ firsts, eSl eV v₅ vs₂, eAll eInt vs₂ out] := hO₆.call hW₁ rfl
      refine WO_v (a_mv (v := .i .i64 x) rfl) ?_
      refine WO_end ?_
      refine then_n ?_
      refine W_sq ?_
      refine W_sq ?_
      refine W_rg ?_
      refine WO_v (a_mv (v := .i .i64 x) rfl) ?_
      refine WO_v (a_lss (a := x) (b := 0) rfl rfl) ?_
      refine WO_end ?_
      refine then_n ?_
      rcases if_some hp with ⟨b₂, hp⟩ | ⟨b₂, hp⟩
      · refine W_cT (t := (decide (x < 0))) rfl b₂ ?_
        refine W_sq ?_
        refine W_rg ?_
        refine WO_v (a_mv (v := .sn) rfl) ?_
        refine WO_v (a_mv (v := .sn) rfl) ?_
        refine WO_v (a_mv (v := .b false) rfl) ?_
        refine WO_end ?_
        refine then_n ?_
        refine W_rt ?_
        refine then_r ?_
        refine blk_r ?_
        refine then_r ?_
        have hp := Option.some.inj hp; subst hp
        refine (Or.inr (Exists.intro (.inr ()) (And.intro rfl (And.intro (fun h => nomatch h) (fun he => ?_)))))
        subst he; exact (And.intro rfl (And.intro (rfl) (And.intro (rfl) (And.intro (rfl) (hO₇.pick [] rfl (by decide))))))
      · refine W_cF (t := (decide (x < 0))) rfl b₂ ?_
        refine W_sk ?_
        refine then_n ?_
        refine W_sq ?_
        refine W_rg ?_
        refine WO_v (a_mv (v := .i .i64 0) rfl) ?_
        refine WO_end ?_
        refine then_n ?_
        refine W_sq ?_
        refine W_bl ?_
        obtain ⟨o₃, ho₂, hp⟩ := bd_some hp
        refine W.mono (Q := fun e fr k => match (generalizing := false) o₃ with
            | k_1 => e = (.exit 2) ∧ fr 0 = v_l ∧ fr 1 = .i .i64 d ∧ fr 7 = v₃ ∧ fr 8 = v₄ ∧ fr 9 = v₅ ∧ fr 10 = .i .i64 v ∧ fr 11 = .i .i64 x ∧ fr 12 = .i .i64 k_1 ∧ Own B h k [eSl eInt v₃ at_, eSl eInt v₄ firsts, eSl eV v₅ vs₂, eAll eInt vs₂ out]) ?_ ?_
        · clear hp
          refine W_loopF (fun st fr k => match st with | k_ => fr 0 = v_l ∧ fr 1 = .i .i64 d ∧ fr 7 = v₃ ∧ fr 8 = v₄ ∧ fr 9 = v₅ ∧ fr 10 = .i .i64 v ∧ fr 11 = .i .i64 x ∧ fr 12 = .i .i64 k_ ∧ Own B h k [eSl eInt v₃ at_, eSl eInt v₄ firsts, eSl eV v₅ vs₂, eAll eInt vs₂ out]) ho₂ (s := 0) (And.intro (q₂_0) (And.intro (q₂_1) (And.intro (q₂_7) (And.intro (q₂_8) (And.intro (q₂_9) (And.intro (q₂_10) (And.intro (rfl) (And.intro (rfl) (hO₇.pick [0, 1, 2, 3] rfl (by decide)))))))))) ?_
          rintro k_ q₄ k₆ ⟨q₄_0, q₄_1, q₄_7, q₄_8, q₄_9, q₄_10, q₄_11, q₄_12, hO₉⟩ o₄ hp
          dsimp only [p_muntinref16_chains.s1] at hp
          refine W_sq ?_
          refine W_sq ?_
          refine W_rg ?_
          refine WO_v (a_mv (v := .i .i64 k_) q₄_12) ?_
          refine WO_v (a_mv (v := v₄) q₄_8) ?_
          refine WO_v (a_len (hO₉.sl 1 rfl : Sl eInt k₆ v₄ firsts) rfl) ?_
          refine WO_v (a_lss (a := k_) (b := (firsts.length : Int)) rfl rfl) ?_
          refine WO_v (a_mv (v := .b (decide (k_ < (firsts.length : Int)))) rfl) ?_
          obtain ⟨t, hv₁, hp⟩ := bd_some hp
          refine WO_cut 7 (fun fr' k' => k₆ = k' ∧ fr' 41 = .b t ∧ fr' 0 = v_l ∧ fr' 1 = .i .i64 d ∧ fr' 10 = .i .i64 v ∧ fr' 11 = .i .i64 x ∧ fr' 12 = .i .i64 k_ ∧ fr' 7 = v₃ ∧ fr' 8 = v₄ ∧ fr' 9 = v₅) ?_ ?_
          · clear hp; rcases if_some hv₁ with ⟨b₃, hp⟩ | ⟨b₃, hp⟩
            · skip
              refine WO_on rfl b₃ ?_
              refine WO_v (a_mv (v := v₄) q₄_8) ?_
              refine WO_on rfl b₃ ?_
              refine WO_v (a_mv (v := .i .i64 k_) q₄_12) ?_
              refine WO_on rfl b₃ ?_
              obtain ⟨c₂, hp⟩ := ck_some hp
              refine WO_v (a_ixa (E := eInt) (z := k_) (hO₉.sl 1 rfl : Sl eInt k₆ v₄ firsts) rfl rfl c₂) ?_
              refine WO_on rfl b₃ ?_
              refine WO_v (a_ldE (w := .i .i64 (gi firsts (k_ : Int).toNat)) (hO₉.sl 1 rfl : Sl eInt k₆ v₄ firsts) rfl (toNat_lt c₂) rfl) ?_
              refine WO_on rfl b₃ ?_
              refine WO_v (a_mv (v := .i .i64 x) q₄_11) ?_
              refine WO_on rfl b₃ ?_
              refine WO_v (a_neI (a := (gi firsts (k_ : Int).toNat)) (b := x) rfl rfl) ?_
              refine WO_v (a_pickT (t := (decide (k_ < (firsts.length : Int)))) (v := .b t) rfl b₃ (Eq.trans (b := V.b (!(decide (gi firsts (k_ : Int).toNat = x)))) rfl (congrArg V.b (Option.some.inj hp)))) ?_
              refine WO_end ?_
              exact ⟨rfl, rfl, q₄_0, q₄_1, q₄_10, q₄_11, q₄_12, q₄_7, q₄_8, q₄_9⟩
            · skip
              refine WO_off rfl b₃ ?_
              refine WO_off rfl b₃ ?_
              refine WO_off rfl b₃ ?_
              refine WO_off rfl b₃ ?_
              refine WO_off rfl b₃ ?_
              refine WO_off rfl b₃ ?_
              refine WO_v (a_pickF (t := (decide (k_ < (firsts.length : Int)))) (v := .b t) rfl b₃ (Eq.trans (b := V.b false) rfl (congrArg V.b (Option.some.inj hp)))) ?_
              refine WO_end ?_
              exact ⟨rfl, rfl, q₄_0, q₄_1, q₄_10, q₄_11, q₄_12, q₄_7, q₄_8, q₄_9⟩
          rintro frg₁ _ ⟨rfl, g₁_41, g₁_0, g₁_1, g₁_10, g₁_11, g₁_12, g₁_7, g₁_8, g₁_9⟩
          refine WO_end ?_
          refine then_n ?_
          rcases if_some hp with ⟨b₄, hp⟩ | ⟨b₄, hp⟩
          · refine W_cT (t := t) g₁_41 b₄ ?_
            refine W_sk ?_
            refine then_n ?_
            refine W_bl ?_
            refine W_rg ?_
            refine WO_v (a_mv (v := .i .i64 k_) g₁_12) ?_
            obtain ⟨c₃, hp⟩ := ck_some hp
            refine WO_v (a_add (a := k_) (b := 1) rfl rfl c₃) ?_
            refine WO_v (a_mv (v := .i .i64 (k_ + 1)) rfl) ?_
            refine WO_end ?_
            refine blk_n ?_
            have hp := Option.some.inj hp; subst hp
            exact (Or.inl (Exists.intro (k_ + 1) (And.intro rfl (And.intro rfl (And.intro (g₁_0) (And.intro (g₁_1) (And.intro (g₁_7) (And.intro (g₁_8) (And.intro (g₁_9) (And.intro (g₁_10) (And.intro (g₁_11) (And.intro (rfl) (hO₉.pick [0, 1, 2, 3] rfl (by decide))))))))))))))
          · refine W_cF (t := t) g₁_41 b₄ ?_
            refine W_ex ?_
            refine then_e ?_
            have hp := Option.some.inj hp; subst hp
            refine (Or.inr (Exists.intro k_ (And.intro rfl (And.intro (fun h => nomatch h) (fun he => ?_)))))
            subst he; exact (And.intro rfl (And.intro (g₁_0) (And.intro (g₁_1) (And.intro (g₁_7) (And.intro (g₁_8) (And.intro (g₁_9) (And.intro (g₁_10) (And.intro (g₁_11) (And.intro (g₁_12) (hO₉.pick [0, 1, 2, 3] rfl (by decide)))))))))))
        intro e₂ q₃ k₅ hJ₂
        obtain ⟨k_1, rfl⟩ : ∃ x, x = o₃ := ⟨_, rfl⟩
        obtain ⟨rfl, q₃_0, q₃_1, q₃_7, q₃_8, q₃_9, q₃_10, q₃_11, q₃_12, hO₈⟩ := hJ₂
        refine blk_i ?_
        refine then_n ?_
        refine W_sq ?_
        refine W_rg ?_
        refine WO_v (a_mv (v := v₃) q₃_7) ?_
        refine WO_v (a_mv (v := .i .i64 v) q₃_10) ?_
        refine WO_v (a_mv (v := .i .i64 k_1) q₃_12) ?_
        obtain ⟨c₄, hp⟩ := ck_some hp
        refine WO_v (a_ixa (E := eInt) (z := v) (hO₈.sl 0 rfl : Sl eInt k₅ v₃ at_) rfl rfl c₄) ?_
        refine WO_x (hO₈.ste (E := eInt) (y := k_1) (ws := [.i .i64 k_1]) 0 rfl rfl (toNat_lt c₄) rfl rfl ⟨rfl, Nat.le_of_ble_eq_true rfl, rfl⟩ rfl) ?_
        rintro _ k₇ ⟨rfl, f₂, m₁, hW⟩
        have hO₁₀ : Own B h k₇ [eSl eInt v₃ (at_.set (v : Int).toNat k_1), eSl eInt v₄ firsts, eSl eV v₅ vs₂, eAll eInt vs₂ out] := hW
        refine WO_end ?_
        refine then_n ?_
        refine W_sq ?_
        refine W_rg ?_
        refine WO_v (a_mv (v := .i .i64 k_1) q₃_12) ?_
        refine WO_v (a_mv (v := v₄) q₃_8) ?_
        refine WO_v (a_len (hO₁₀.sl 1 rfl : Sl eInt k₇ v₄ firsts) rfl) ?_
        refine WO_v (a_eqI (a := k_1) (b := (firsts.length : Int)) rfl rfl) ?_
        refine WO_end ?_
        refine then_n ?_
        rcases if_some hp with ⟨b₅, hp⟩ | ⟨b₅, hp⟩
        · refine W_cT (t := (decide (k_1 = (firsts.length : Int)))) rfl b₅ ?_
          refine W_sq ?_
          refine W_rg ?_
          refine WO_v (a_mv (v := v₄) q₃_8) ?_
          refine WO_v (a_mv (v := .i .i64 x) q₃_11) ?_
          refine WO_x (hO₁₀.bsl (E := eInt) (l := [x]) hO₁₀.fr (by rw [(ev_cons (v := .i .i64 x) rfl ev_nil)]; rfl) rfl) ?_
          rintro v₇ k₈ ⟨r₂, f₃, hW⟩
          have hO₁₁ : Own B h k₈ [eSl eInt v₃ (at_.set (v : Int).toNat k_1), eSl eInt v₄ firsts, eSl eV v₅ vs₂, eAll eInt vs₂ out, eSl eInt v₇ [x]] := hW
          obtain ⟨c₅, hp⟩ := ck_some hp
          refine WO_x (hO₁₁.app (E := eInt) (bytes := 8) 1 hO₁₁.fr rfl (hO₁₁.sl 4 rfl : Sl eInt k₈ v₇ [x]) rfl rfl (fun _ => rfl) c₅ (by decide)) ?_
          rintro v₈ k₉ ⟨f₄, hW⟩
          have hO₁₂ : Own B h k₉ [eSl eInt v₃ (at_.set (v : Int).toNat k_1), eSl eInt v₈ (firsts ++ [x]), eSl eV v₅ vs₂, eAll eInt vs₂ out, eSl eInt v₇ [x]] := hW
          refine WO_v (a_mv (v := v₈) rfl) ?_
          refine WO_end ?_
          refine then_n ?_
          refine W_sq ?_
          refine W_rg ?_
          refine WO_v (a_mv (v := .sn) rfl) ?_
          refine WO_end ?_
          refine then_n ?_
          refine W_sq ?_
          refine W_sq ?_
          refine W_rg ?_
          refine WO_v (a_mv (v := .i .i64 x) q₃_11) ?_
          refine WO_v (a_mv (v := .i .i64 x) rfl) ?_
          refine WO_end ?_
          refine then_n ?_
          refine W_bl ?_
          obtain ⟨o₅, ho₃, hp⟩ := bd_some hp
          refine W.mono (Q := fun e fr k => match (generalizing := false) o₅ with
              | c1 => e = (.exit 4) ∧ ∃ (v₁₀ : V), fr 0 = v_l ∧ fr 1 = .i .i64 d ∧ fr 7 = v₃ ∧ fr 8 = v₈ ∧ fr 9 = v₅ ∧ fr 10 = .i .i64 v ∧ fr 13 = v₁₀ ∧ Own B h k [eSl eInt v₃ (at_.set (v : Int).toNat k_1), eSl eInt v₈ (firsts ++ [x]), eSl eV v₅ vs₂, eAll eInt vs₂ out, eSl eInt v₁₀ c1]) ?_ ?_
          · clear hp
            have hO₁₄ : Own B h k₉ [eSl eInt v₃ (at_.set (v : Int).toNat k_1), eSl eInt v₈ (firsts ++ [x]), eSl eV v₅ vs₂, eAll eInt vs₂ out, eSl eInt v₇ [x], eSl eInt .sn ([] : List Int)] := hO₁₂.nil eInt
            refine W_loopF (fun st fr k => match st with | (c, w) => ∃ (v₉ : V), fr 0 = v_l ∧ fr 1 = .i .i64 d ∧ fr 7 = v₃ ∧ fr 8 = v₈ ∧ fr 9 = v₅ ∧ fr 10 = .i .i64 v ∧ fr 13 = v₉ ∧ fr 14 = .i .i64 w ∧ Own B h k [eSl eInt v₃ (at_.set (v : Int).toNat k_1), eSl eInt v₈ (firsts ++ [x]), eSl eV v₅ vs₂, eAll eInt vs₂ out, eSl eInt v₉ c]) ho₃ (s := (([] : List Int), x)) (Exists.intro V.sn (And.intro (q₃_0) (And.intro (q₃_1) (And.intro (q₃_7) (And.intro (rfl) (And.intro (q₃_9) (And.intro (q₃_10) (And.intro (rfl) (And.intro (rfl) (hO₁₄.pick [0, 1, 2, 3, 5] rfl (by decide))))))))))) ?_
            rintro ⟨c, w⟩ q₆ k₁₁ ⟨v₉, q₆_0, q₆_1, q₆_7, q₆_8, q₆_9, q₆_10, q₆_13, q₆_14, hO₁₅⟩ o₆ hp
            dsimp only [p_muntinref16_chains.s2] at hp
            refine W_sq ?_
            refine W_sq ?_
            refine W_rg ?_
            refine WO_v (a_mv (v := .i .i64 w) q₆_14) ?_
            refine WO_v (a_geq (a := w) (b := 0) rfl rfl) ?_
            refine WO_end ?_
            refine then_n ?_
            rcases if_some hp with ⟨b₆, hp⟩ | ⟨b₆, hp⟩
            · refine W_cT (t := (decide (0 ≤ w))) rfl b₆ ?_
              refine W_sk ?_
              refine then_n ?_
              refine W_sq ?_
              refine W_bl ?_
              refine W_rg ?_
              refine WO_v (a_mv (v := v₉) q₆_13) ?_
              refine WO_v (a_mv (v := .i .i64 w) q₆_14) ?_
              refine WO_x (hO₁₅.bsl (E := eInt) (l := [w]) hO₁₅.fr (by rw [(ev_cons (v := .i .i64 w) rfl ev_nil)]; rfl) rfl) ?_
              rintro v₁₁ k₁₂ ⟨r₃, f₅, hW⟩
              have hO₁₆ : Own B h k₁₂ [eSl eInt v₃ (at_.set (v : Int).toNat k_1), eSl eInt v₈ (firsts ++ [x]), eSl eV v₅ vs₂, eAll eInt vs₂ out, eSl eInt v₉ c, eSl eInt v₁₁ [w]] := hW
              obtain ⟨c₆, hp⟩ := ck_some hp
              refine WO_x (hO₁₆.app (E := eInt) (bytes := 8) 4 hO₁₆.fr rfl (hO₁₆.sl 5 rfl : Sl eInt k₁₂ v₁₁ [w]) rfl rfl (fun _ => rfl) c₆ (by decide)) ?_
              rintro v₁₂ k₁₃ ⟨f₆, hW⟩
              have hO₁₇ : Own B h k₁₃ [eSl eInt v₃ (at_.set (v : Int).toNat k_1), eSl eInt v₈ (firsts ++ [x]), eSl eV v₅ vs₂, eAll eInt vs₂ out, eSl eInt v₁₂ (c ++ [w]), eSl eInt v₁₁ [w]] := hW
              refine WO_v (a_mv (v := v₁₂) rfl) ?_
              refine WO_end ?_
              refine blk_n ?_
              refine then_n ?_
              refine W_rg ?_
              refine WO_v (a_mv (v := v_l) q₆_0) ?_
              refine WO_v (a_mv (v := .i .i64 w) q₆_14) ?_
              refine WO_v (a_mv (v := .i .i64 d) q₆_1) ?_
              obtain ⟨c₇, hp⟩ := ck_some hp
              refine WO_v (a_ixa (E := e_T_api_Cell) (z := w) (hO₁₇.rd0 s_l.rd : Sl e_T_api_Cell k₁₃ v_l l) rfl rfl c₇) ?_
              refine WO_v (a_faE (off' := 0) (off2 := 0) (hO₁₇.rd0 s_l.rd : Sl e_T_api_Cell k₁₃ v_l l) (toNat_lt c₇) rfl rfl) ?_
              obtain ⟨c₈, hp⟩ := ck_some hp
              refine WO_v (a_ixaaE (off := 0) (off2 := (0 + (d : Int).toNat * 1)) (z := d) (hO₁₇.rd0 s_l.rd : Sl e_T_api_Cell k₁₃ v_l l) (toNat_lt c₇) rfl rfl c₈ rfl) ?_
              refine WO_v (a_ldE (w := .i .i64 (((gi l (w : Int).toNat).Next).get d)) (hO₁₇.rd0 s_l.rd : Sl e_T_api_Cell k₁₃ v_l l) rfl (toNat_lt c₇) (ld_T_api_Cell_Next c₈)) ?_
              refine WO_v (a_mv (v := .i .i64 (((gi l (w : Int).toNat).Next).get d)) rfl) ?_
              refine WO_end ?_
              have hp := Option.some.inj hp; subst hp
              exact (Or.inl (Exists.intro (c ++ [w], ((gi l (w : Int).toNat).Next).get d) (And.intro rfl (And.intro rfl (Exists.intro v₁₂ (And.intro (q₆_0) (And.intro (q₆_1) (And.intro (q₆_7) (And.intro (q₆_8) (And.intro (q₆_9) (And.intro (q₆_10) (And.intro (rfl) (And.intro (rfl) (hO₁₇.pick [0, 1, 2, 3, 4] rfl (by decide)))))))))))))))
            · refine W_cF (t := (decide (0 ≤ w))) rfl b₆ ?_
              refine W_ex ?_
              refine then_e ?_
              have hp := Option.some.inj hp; subst hp
              refine (Or.inr (Exists.intro c (And.intro rfl (And.intro (fun h => nomatch h) (fun he => ?_)))))
              subst he; exact (And.intro rfl (Exists.intro v₉ (And.intro (q₆_0) (And.intro (q₆_1) (And.intro (q₆_7) (And.intro (q₆_8) (And.intro (q₆_9) (And.intro (q₆_10) (And.intro (q₆_13) (hO₁₅.pick [0, 1, 2, 3, 4] rfl (by decide)))))))))))
          intro e₃ q₅ k₁₀ hJ₃
          obtain ⟨c1, rfl⟩ : ∃ x, x = o₅ := ⟨_, rfl⟩
          obtain ⟨rfl, v₁₀, q₅_0, q₅_1, q₅_7, q₅_8, q₅_9, q₅_10, q₅_13, hO₁₃⟩ := hJ₃
          refine blk_i ?_
          refine then_n ?_
          refine W_rg ?_
          refine WO_v (a_mv (v := v₅) q₅_9) ?_
          refine WO_v (a_mv (v := v₁₀) q₅_13) ?_
          refine WO_x (hO₁₃.bsl (E := eV) (l := [v₁₀]) hO₁₃.fr (by rw [(ev_cons (v := v₁₀) rfl ev_nil)]; simp [fill, over, (hO₁₃.sl 4 rfl : Sl eInt k₁₀ v₁₀ c1).cells]) rfl) ?_
          rintro v₁₃ k₁₄ ⟨r₄, f₇, hW⟩
          have hO₁₈ : Own B h k₁₄ [eSl eInt v₃ (at_.set (v : Int).toNat k_1), eSl eInt v₈ (firsts ++ [x]), eSl eV v₅ vs₂, eAll eInt vs₂ out, eSl eInt v₁₀ c1, eSl eV v₁₃ [v₁₀]] := hW
          obtain ⟨c₉, hp⟩ := ck_some hp
          refine WO_x (hO₁₈.appV (bytes := 24) 2 hO₁₈.fr rfl (hO₁₈.sl 5 rfl : Sl eV k₁₄ v₁₃ [v₁₀]) rfl rfl (by simp only [List.all_cons, List.all_nil, Bool.and_true]; exact (hO₁₈.sl 4 rfl : Sl eInt k₁₄ v₁₀ c1).oneV) (by rw [(hO₁₈.allLen 3 rfl : (vs₂).length = (out).length)]; exact c₉) (by decide)) ?_
          rintro v₁₄ k₁₅ ⟨f₈, hW⟩
          have hO₁₉ : Own B h k₁₅ [eSl eInt v₃ (at_.set (v : Int).toNat k_1), eSl eInt v₈ (firsts ++ [x]), eSl eV v₁₄ (vs₂ ++ [v₁₀]), eAll eInt vs₂ out, eSl eInt v₁₀ c1, eSl eV v₁₃ [v₁₀]] := hW
          have hO₂₀ : Own B h k₁₅ [eSl eInt v₃ (at_.set (v : Int).toNat k_1), eSl eInt v₈ (firsts ++ [x]), eSl eV v₁₄ (vs₂ ++ [v₁₀]), eAll eInt (vs₂ ++ [v₁₀]) (out ++ [c1]), eNone, eSl eV v₁₃ [v₁₀]] := hO₁₉.absorb 3 4 rfl rfl (by decide)
          refine WO_v (a_mv (v := v₁₄) rfl) ?_
          refine WO_end ?_
          refine blk_n ?_
          refine then_n ?_
          refine W_rg ?_
          refine WO_v (a_mv (v := .i .i64 v) q₅_10) ?_
          obtain ⟨c₁₀, hp⟩ := ck_some hp
          refine WO_v (a_add (a := v) (b := 1) rfl rfl c₁₀) ?_
          refine WO_v (a_mv (v := .i .i64 (v + 1)) rfl) ?_
          refine WO_end ?_
          have hp := Option.some.inj hp; subst hp
          exact (Or.inl (Exists.intro (at_.set (v : Int).toNat k_1, firsts ++ [x], out ++ [c1], v + 1) (And.intro rfl (And.intro rfl (Exists.intro v₈ (Exists.intro v₁₄ (Exists.intro (vs₂ ++ [v₁₀]) (And.intro (q₅_0) (And.intro (q₅_1) (And.intro (q₅_7) (And.intro (q₅_8) (And.intro (rfl) (And.intro (rfl) (hO₂₀.pick [0, 1, 2, 3] rfl (by decide)))))))))))))))
        · refine W_cF (t := (decide (k_1 = (firsts.length : Int)))) rfl b₅ ?_
          refine W_sk ?_
          refine blk_n ?_
          refine then_n ?_
          refine W_rg ?_
          refine WO_v (a_mv (v := .i .i64 v) q₃_10) ?_
          obtain ⟨c₁₁, hp⟩ := ck_some hp
          refine WO_v (a_add (a := v) (b := 1) rfl rfl c₁₁) ?_
          refine WO_v (a_mv (v := .i .i64 (v + 1)) rfl) ?_
          refine WO_end ?_
          have hp := Option.some.inj hp; subst hp
          exact (Or.inl (Exists.intro (at_.set (v : Int).toNat k_1, firsts, out, v + 1) (And.intro rfl (And.intro rfl (Exists.intro v₄ (Exists.intro v₅ (Exists.intro vs₂ (And.intro (q₃_0) (And.intro (q₃_1) (And.intro (q₃_7) (And.intro (q₃_8) (And.intro (q₃_9) (And.intro (rfl) (hO₁₀.pick [0, 1, 2, 3] rfl (by decide)))))))))))))))
    · refine W_cF (t := (decide (v < (l.length : Int)))) rfl b₁ ?_
      refine W_ex ?_
      refine then_e ?_
      have hp := Option.some.inj hp; subst hp
      refine (Or.inr (Exists.intro (.inl (at_, out)) (And.intro rfl (And.intro (fun h => nomatch h) (fun he => ?_)))))
      subst he; exact (And.intro rfl (Exists.intro v₅ (Exists.intro vs₂ (And.intro (q₂_7) (And.intro (q₂_9) (hO₆.pick [0, 2, 3] rfl (by decide)))))))
  intro e₁ q₁ k₂ hJ₁
  rcases o₁ with ⟨at_1, out1⟩ | _
  · obtain ⟨rfl, v₆, vs₃, q₁_7, q₁_9, hO₂⟩ := hJ₁
    refine blk_i ?_
    refine then_n ?_
    refine W_sq ?_
    refine W_rg ?_
    refine WO_v (a_mv (v := v₃) q₁_7) ?_
    refine WO_v (a_mv (v := v₆) q₁_9) ?_
    refine WO_v (a_mv (v := v₃) rfl) ?_
    refine WO_v (a_mv (v := v₆) rfl) ?_
    refine WO_v (a_mv (v := .b true) rfl) ?_
    refine WO_end ?_
    refine then_n ?_
    refine W_rt ?_
    refine Ret_r (rs_t (n := 4) (v := v₃) rfl (rs_t (n := 5) (v := v₆) rfl (rs_t (n := 6) (v := .b true) rfl rs_nil))) ?_
    have hp := Option.some.inj hp; subst hp
    exact (Exists.intro v₃ (Exists.intro v₆ (Exists.intro vs₃ (And.intro rfl (hO₂.pick [0, 1, 2] rfl (by decide))))))
  · obtain ⟨rfl, q₁_4, q₁_5, q₁_6, hO₂⟩ := hJ₁
    refine blk_r ?_
    refine then_r ?_
    have hO₂₁ : Own B h k₂ [eSl eInt .sn ([] : List Int)] := hO₂.nil eInt
    have hO₂₂ : Own B h k₂ [eSl eInt .sn ([] : List Int), eSl eV .sn []] := hO₂₁.nil eV
    have hO₂₃ : Own B h k₂ [eSl eInt .sn ([] : List Int), eSl eV .sn [], eAll eInt [] []] := hO₂₂.allNil eInt 0
    refine Ret_r (rs_t (n := 4) (v := .sn) q₁_4 (rs_t (n := 5) (v := .sn) q₁_5 (rs_t (n := 6) (v := .b false) q₁_6 rs_nil))) ?_
    have hp := Option.some.inj hp; subst hp
    exact (Exists.intro V.sn (Exists.intro V.sn (Exists.intro [] (And.intro rfl (hO₂₃.pick [0, 1, 2] rfl (by decide))))))

theorem p_muntinref16_Of.ok {h : Hp} {l : List T_api_Cell} {v_l : V} (s_l : Sl e_T_api_Cell h v_l l) {r : T_muntinref16_Chains × Bool} (hp : p_muntinref16_Of l = some r) :
    ∃ u k', Is G 121 [v_l] h u k' ∧ ∃ (v₁ : V), ∃ (v₂ : V), ∃ (v₃ : V), ∃ (vs₁ : List V), ∃ (v₄ : V), ∃ (vs₂ : List V), V.tu [.ag [v₁, v₂, v₃, v₄], .b r.2] = u ∧ Own (fun r => r < h.n) h k' [eSl eInt v₁ r.1.X, eSl eInt v₂ r.1.Y, eSl eV v₃ vs₁, eAll eInt vs₁ r.1.Vert, eSl eV v₄ vs₂, eAll eInt vs₂ r.1.Horz] := by
  refine WC.is (WC_of G_F_muntinref16_Of ?_)
  unfold p_muntinref16_Of at hp
  let B : Nat → Prop := (fun r => r < h.n)
  have hO : Own B h h [] := Own.start0 h
  refine W_sq ?_
  refine W_rg ?_
  refine WO_x (hO.alloc (cs := [.sn, .sn, .sn, .sn]) hO.fr) ?_
  rintro _ k₁ ⟨r₁, rfl, n₁, f₁, hW⟩
  have hO₁ : Own B h k₁ [eBox r₁ [.sn, .sn, .sn, .sn]] := hW
  refine WO_v (a_mv (v := .b false) rfl) ?_
  refine WO_end ?_
  refine then_n ?_
  refine W_sq ?_
  refine W_rg ?_
  refine WO_v (a_mv (v := v_l) rfl) ?_
  obtain ⟨⟨x, x1, x2⟩, hx₁, hp⟩ := bd_some hp
  obtain ⟨u₁, k₂, ca₁, v₅, v₆, vs₃, rfl, hW₁⟩ := p_muntinref16_chains.ok (h := k₁)  (hO₁.rd0 s_l.rd : Sl e_T_api_Cell k₁ v_l l) hx₁
  refine WO_c (id := 138) (caps := []) rfl (mp_cons (v := v_l) rfl (mp_cons (v := .i .i64 1) rfl mp_nil)) ca₁ ?_
  have hO₂ : Own B h k₂ [eBox r₁ [.sn, .sn, .sn, .sn], eSl eInt v₅ x, eSl eV v₆ vs₃, eAll eInt vs₃ x1] := hO₁.call hW₁ rfl
  refine WO_v (a_mv (v := .tu [v₅, v₆, .b x2]) rfl) ?_
  refine WO_v (a_ext (vs := [v₅, v₆, .b x2]) (v := v₅) rfl rfl) ?_
  refine WO_v (a_ext (vs := [v₅, v₆, .b x2]) (v := v₆) rfl rfl) ?_
  refine WO_v (a_ext (vs := [v₅, v₆, .b x2]) (v := .b x2) rfl rfl) ?_
  refine WO_v (a_mv (v := v₅) rfl) ?_
  refine WO_v (a_mv (v := v₆) rfl) ?_
  refine WO_v (a_mv (v := .b x2) rfl) ?_
  refine WO_end ?_
  refine then_n ?_
  refine W_sq ?_
  refine W_rg ?_
  refine WO_v (a_mv (v := v_l) rfl) ?_
  obtain ⟨⟨x3, x4, x5⟩, hx₂, hp⟩ := bd_some hp
  obtain ⟨u₂, k₃, ca₂, v₇, v₈, vs₄, rfl, hW₂⟩ := p_muntinref16_chains.ok (h := k₂)  (hO₂.rd0 s_l.rd : Sl e_T_api_Cell k₂ v_l l) hx₂
  refine WO_c (id := 138) (caps := []) rfl (mp_cons (v := v_l) rfl (mp_cons (v := .i .i64 0) rfl mp_nil)) ca₂ ?_
  have hO₃ : Own B h k₃ [eBox r₁ [.sn, .sn, .sn, .sn], eSl eInt v₅ x, eSl eV v₆ vs₃, eAll eInt vs₃ x1, eSl eInt v₇ x3, eSl eV v₈ vs₄, eAll eInt vs₄ x4] := hO₂.call hW₂ rfl
  refine WO_v (a_mv (v := .tu [v₇, v₈, .b x5]) rfl) ?_
  refine WO_v (a_ext (vs := [v₇, v₈, .b x5]) (v := v₇) rfl rfl) ?_
  refine WO_v (a_ext (vs := [v₇, v₈, .b x5]) (v := v₈) rfl rfl) ?_
  refine WO_v (a_ext (vs := [v₇, v₈, .b x5]) (v := .b x5) rfl rfl) ?_
  refine WO_v (a_mv (v := v₇) rfl) ?_
  refine WO_v (a_mv (v := v₈) rfl) ?_
  refine WO_v (a_mv (v := .b x5) rfl) ?_
  refine WO_end ?_
  refine then_n ?_
  refine W_sq ?_
  refine W_sq ?_
  refine W_rg ?_
  refine WO_v (a_mv (v := .b x2) rfl) ?_
  refine WO_v (a_not (t := x2) rfl) ?_
  refine WO_v (a_mv (v := .b (!x2)) rfl) ?_
  refine WO_cut 3 (fun fr' k' => k₃ = k' ∧ fr' 27 = .b ((!x2) || (!x5)) ∧ fr' 2 = .p r₁ 0 ∧ fr' 4 = v₅ ∧ fr' 5 = v₆ ∧ fr' 7 = v₇ ∧ fr' 8 = v₈) ?_ ?_
  · rcases bc (!x2) with b₁ | b₁
    · skip
      refine WO_off rfl b₁ ?_
      refine WO_off rfl b₁ ?_
      refine WO_v (a_pickT (t := (!x2)) (v := .b ((!x2) || (!x5))) rfl b₁ (Eq.trans (b := V.b true) rfl (or_off b₁))) ?_
      refine WO_end ?_
      exact ⟨rfl, rfl, rfl, rfl, rfl, rfl, rfl⟩
    · skip
      refine WO_on rfl b₁ ?_
      refine WO_v (a_mv (v := .b x5) rfl) ?_
      refine WO_on rfl b₁ ?_
      refine WO_v (a_not (t := x5) rfl) ?_
      refine WO_v (a_pickF (t := (!x2)) (v := .b ((!x2) || (!x5))) rfl b₁ (Eq.trans (b := V.b (!x5)) rfl (or_on b₁))) ?_
      refine WO_end ?_
      exact ⟨rfl, rfl, rfl, rfl, rfl, rfl, rfl⟩
  rintro frg₁ _ ⟨rfl, g₁_27, g₁_2, g₁_4, g₁_5, g₁_7, g₁_8⟩
  refine WO_end ?_
  refine then_n ?_
  rcases if_some hp with ⟨b₂, hp⟩ | ⟨b₂, hp⟩
  · refine W_cT (t := ((!x2) || (!x5))) g₁_27 b₂ ?_
    refine W_sq ?_
    refine W_rg ?_
    refine WO_v (a_build (cs := [.sn, .sn, .sn, .sn]) (by rw [ev_nil]; simp [fill, over, cells_i, cells_b, cells_f, cells_p, cells_a, cells_n, (Sl.nil : Sl eInt k₃ .sn ([] : List Int)).cells, (Sl.nil : Sl eInt k₃ .sn ([] : List Int)).cells, (Sl.nil : Sl eV k₃ .sn []).cells, (Sl.nil : Sl eV k₃ .sn []).cells])) ?_
    refine WO_x (hO₃.stb (ws := [.sn, .sn, .sn, .sn]) (cs' := [.sn, .sn, .sn, .sn]) (v := .ag [.sn, .sn, .sn, .sn]) 0 rfl g₁_2 rfl rfl ⟨rfl, Nat.le_of_ble_eq_true rfl, (all_cons (Sl.nil : Sl eInt k₃ .sn ([] : List Int)).oneV (all_cons (Sl.nil : Sl eInt k₃ .sn ([] : List Int)).oneV (all_cons (Sl.nil : Sl eV k₃ .sn []).oneV (all_cons (Sl.nil : Sl eV k₃ .sn []).oneV all_nil))))⟩ rfl) ?_
    rintro _ k₄ ⟨rfl, f₂, m₁, hW⟩
    have hO₄ : Own B h k₄ [eBox r₁ [.sn, .sn, .sn, .sn], eSl eInt v₅ x, eSl eV v₆ vs₃, eAll eInt vs₃ x1, eSl eInt v₇ x3, eSl eV v₈ vs₄, eAll eInt vs₄ x4] := hW
    refine WO_v (a_mv (v := .b false) rfl) ?_
    refine WO_end ?_
    refine then_n ?_
    refine W_rt ?_
    refine then_r ?_
    have hO₅ : Own B h k₄ [eBox r₁ [.sn, .sn, .sn, .sn], eSl eInt v₅ x, eSl eV v₆ vs₃, eAll eInt vs₃ x1, eSl eInt v₇ x3, eSl eV v₈ vs₄, eAll eInt vs₄ x4, eSl eInt .sn ([] : List Int)] := hO₄.nil eInt
    have hO₆ : Own B h k₄ [eBox r₁ [.sn, .sn, .sn, .sn], eSl eInt v₅ x, eSl eV v₆ vs₃, eAll eInt vs₃ x1, eSl eInt v₇ x3, eSl eV v₈ vs₄, eAll eInt vs₄ x4, eSl eInt .sn ([] : List Int), eSl eInt .sn ([] : List Int)] := hO₅.nil eInt
    have hO₇ : Own B h k₄ [eBox r₁ [.sn, .sn, .sn, .sn], eSl eInt v₅ x, eSl eV v₆ vs₃, eAll eInt vs₃ x1, eSl eInt v₇ x3, eSl eV v₈ vs₄, eAll eInt vs₄ x4, eSl eInt .sn ([] : List Int), eSl eInt .sn ([] : List Int), eSl eV .sn []] := hO₆.nil eV
    have hO₈ : Own B h k₄ [eBox r₁ [.sn, .sn, .sn, .sn], eSl eInt v₅ x, eSl eV v₆ vs₃, eAll eInt vs₃ x1, eSl eInt v₇ x3, eSl eV v₈ vs₄, eAll eInt vs₄ x4, eSl eInt .sn ([] : List Int), eSl eInt .sn ([] : List Int), eSl eV .sn [], eAll eInt [] []] := hO₇.allNil eInt 0
    have hO₉ : Own B h k₄ [eBox r₁ [.sn, .sn, .sn, .sn], eSl eInt v₅ x, eSl eV v₆ vs₃, eAll eInt vs₃ x1, eSl eInt v₇ x3, eSl eV v₈ vs₄, eAll eInt vs₄ x4, eSl eInt .sn ([] : List Int), eSl eInt .sn ([] : List Int), eSl eV .sn [], eAll eInt [] [], eSl eV .sn []] := hO₈.nil eV
    have hO₁₀ : Own B h k₄ [eBox r₁ [.sn, .sn, .sn, .sn], eSl eInt v₅ x, eSl eV v₆ vs₃, eAll eInt vs₃ x1, eSl eInt v₇ x3, eSl eV v₈ vs₄, eAll eInt vs₄ x4, eSl eInt .sn ([] : List Int), eSl eInt .sn ([] : List Int), eSl eV .sn [], eAll eInt [] [], eSl eV .sn [], eAll eInt [] []] := hO₉.allNil eInt 0
    refine Ret_r (rs_c (n := 2) (v := .ag [.sn, .sn, .sn, .sn]) (r := r₁) g₁_2 (hO₁₀.box 0 rfl) rfl (rs_t (n := 3) (v := .b false) rfl rs_nil)) ?_
    have hp := Option.some.inj hp; subst hp
    exact (Exists.intro V.sn (Exists.intro V.sn (Exists.intro V.sn (Exists.intro [] (Exists.intro V.sn (Exists.intro [] (And.intro rfl (hO₁₀.pick [7, 8, 9, 10, 11, 12] rfl (by decide)))))))))
  · refine W_cF (t := ((!x2) || (!x5))) g₁_27 b₂ ?_
    refine W_sk ?_
    refine then_n ?_
    refine W_sq ?_
    refine W_rg ?_
    refine WO_v (a_mv (v := v₅) g₁_4) ?_
    refine WO_v (a_mv (v := v₇) g₁_7) ?_
    refine WO_v (a_mv (v := v₆) g₁_5) ?_
    refine WO_v (a_mv (v := v₈) g₁_8) ?_
    refine WO_v (a_build (cs := [v₅, v₇, v₆, v₈]) (by rw [(ev_cons (v := v₅) rfl (ev_cons (v := v₇) rfl (ev_cons (v := v₆) rfl (ev_cons (v := v₈) rfl ev_nil))))]; simp [fill, over, cells_i, cells_b, cells_f, cells_p, cells_a, cells_n, (hO₃.sl 1 rfl : Sl eInt k₃ v₅ x).cells, (hO₃.sl 4 rfl : Sl eInt k₃ v₇ x3).cells, (hO₃.sl 2 rfl : Sl eV k₃ v₆ vs₃).cells, (hO₃.sl 5 rfl : Sl eV k₃ v₈ vs₄).cells])) ?_
    refine WO_x (hO₃.stb (ws := [v₅, v₇, v₆, v₈]) (cs' := [v₅, v₇, v₆, v₈]) (v := .ag [v₅, v₇, v₆, v₈]) 0 rfl g₁_2 rfl rfl ⟨rfl, Nat.le_of_ble_eq_true rfl, (all_cons (hO₃.sl 1 rfl : Sl eInt k₃ v₅ x).oneV (all_cons (hO₃.sl 4 rfl : Sl eInt k₃ v₇ x3).oneV (all_cons (hO₃.sl 2 rfl : Sl eV k₃ v₆ vs₃).oneV (all_cons (hO₃.sl 5 rfl : Sl eV k₃ v₈ vs₄).oneV all_nil))))⟩ rfl) ?_
    rintro _ k₅ ⟨rfl, f₃, m₂, hW⟩
    have hO₁₁ : Own B h k₅ [eBox r₁ [v₅, v₇, v₆, v₈], eSl eInt v₅ x, eSl eV v₆ vs₃, eAll eInt vs₃ x1, eSl eInt v₇ x3, eSl eV v₈ vs₄, eAll eInt vs₄ x4] := hW
    refine WO_v (a_mv (v := .b true) rfl) ?_
    refine WO_end ?_
    refine then_n ?_
    refine W_rt ?_
    refine Ret_r (rs_c (n := 2) (v := .ag [v₅, v₇, v₆, v₈]) (r := r₁) g₁_2 (hO₁₁.box 0 rfl) rfl (rs_t (n := 3) (v := .b true) rfl rs_nil)) ?_
    have hp := Option.some.inj hp; subst hp
    exact (Exists.intro v₅ (Exists.intro v₇ (Exists.intro v₆ (Exists.intro vs₃ (Exists.intro v₈ (Exists.intro vs₄ (And.intro rfl (hO₁₁.pick [1, 4, 2, 3, 5, 6] rfl (by decide)))))))))

theorem p_muntinref10_Join.ok {h : Hp} {l : List T_api_Cell} {v : Int} {d : Int} {w : Int} {o : Int} {v_l : V} (H : Own (Bm h [eSl e_T_api_Cell v_l l]) h h [eSl e_T_api_Cell v_l l]) {r : (List T_api_Cell) × Int} (hp : p_muntinref10_Join l v d w o = some r) :
    ∃ u k', Is G 53 [v_l, .i .i64 v, .i .i64 d, .i .i64 w, .i .i64 o] h u k' ∧ ∃ (v₁ : V), V.tu [v₁, .i .i64 r.2] = u ∧ Own (Bm h [eSl e_T_api_Cell v_l l]) h k' [eSl e_T_api_Cell v₁ r.1] := by
  refine WC.is (WC_of G_F_muntinref10_Join ?_)
  unfold p_muntinref10_Join at hp
  let B : Nat → Prop := (Bm h [eSl e_T_api_Cell v_l l])
  have hO : Own B h h [eSl e_T_api_Cell v_l l] := H
  refine W_sq ?_
  refine W_rg ?_
  refine WO_v (a_mv (v := .sn) rfl) ?_
  refine WO_v (a_mv (v := .i .i64 0) rfl) ?_
  refine WO_end ?_
  refine then_n ?_
  refine W_sq ?_
  refine W_sq ?_
  refine W_rg ?_
  refine WO_v (a_mv (v := .i .i64 v) rfl) ?_
  refine WO_v (a_lss (a := v) (b := 0) rfl rfl) ?_
  refine WO_v (a_mv (v := .b (decide (v < 0))) rfl) ?_
  refine WO_cut 5 (fun fr' k' => h = k' ∧ fr' 20 = .b ((decide (v < 0)) || (decide ((l.length : Int) ≤ v))) ∧ fr' 0 = v_l ∧ fr' 1 = .i .i64 v ∧ fr' 2 = .i .i64 d ∧ fr' 3 = .i .i64 w ∧ fr' 4 = .i .i64 o) ?_ ?_
  · rcases bc (decide (v < 0)) with b₁ | b₁
    · skip
      refine WO_off rfl b₁ ?_
      refine WO_off rfl b₁ ?_
      refine WO_off rfl b₁ ?_
      refine WO_off rfl b₁ ?_
      refine WO_v (a_pickT (t := (decide (v < 0))) (v := .b ((decide (v < 0)) || (decide ((l.length : Int) ≤ v)))) rfl b₁ (Eq.trans (b := V.b true) rfl (or_off b₁))) ?_
      refine WO_end ?_
      exact ⟨rfl, rfl, rfl, rfl, rfl, rfl, rfl⟩
    · skip
      refine WO_on rfl b₁ ?_
      refine WO_v (a_mv (v := .i .i64 v) rfl) ?_
      refine WO_on rfl b₁ ?_
      refine WO_v (a_mv (v := v_l) rfl) ?_
      refine WO_on rfl b₁ ?_
      refine WO_v (a_len (hO.sl 0 rfl : Sl e_T_api_Cell h v_l l) rfl) ?_
      refine WO_on rfl b₁ ?_
      refine WO_v (a_geq (a := v) (b := (l.length : Int)) rfl rfl) ?_
      refine WO_v (a_pickF (t := (decide (v < 0))) (v := .b ((decide (v < 0)) || (decide ((l.length : Int) ≤ v)))) rfl b₁ (Eq.trans (b := V.b (decide ((l.length : Int) ≤ v))) rfl (or_on b₁))) ?_
      refine WO_end ?_
      exact ⟨rfl, rfl, rfl, rfl, rfl, rfl, rfl⟩
  rintro frg₁ _ ⟨rfl, g₁_20, g₁_0, g₁_1, g₁_2, g₁_3, g₁_4⟩
  refine WO_v (a_mv (v := .b ((decide (v < 0)) || (decide ((l.length : Int) ≤ v)))) g₁_20) ?_
  refine WO_cut 3 (fun fr' k' => h = k' ∧ fr' 24 = .b (((decide (v < 0)) || (decide ((l.length : Int) ≤ v))) || (decide (w < 0))) ∧ fr' 0 = v_l ∧ fr' 1 = .i .i64 v ∧ fr' 2 = .i .i64 d ∧ fr' 3 = .i .i64 w ∧ fr' 4 = .i .i64 o) ?_ ?_
  · rcases bc ((decide (v < 0)) || (decide ((l.length : Int) ≤ v))) with b₂ | b₂
    · skip
      refine WO_off rfl b₂ ?_
      refine WO_off rfl b₂ ?_
      refine WO_v (a_pickT (t := ((decide (v < 0)) || (decide ((l.length : Int) ≤ v)))) (v := .b (((decide (v < 0)) || (decide ((l.length : Int) ≤ v))) || (decide (w < 0)))) rfl b₂ (Eq.trans (b := V.b true) rfl (or_off b₂))) ?_
      refine WO_end ?_
      exact ⟨rfl, rfl, g₁_0, g₁_1, g₁_2, g₁_3, g₁_4⟩
    · skip
      refine WO_on rfl b₂ ?_
      refine WO_v (a_mv (v := .i .i64 w) g₁_3) ?_
      refine WO_on rfl b₂ ?_
      refine WO_v (a_lss (a := w) (b := 0) rfl rfl) ?_
      refine WO_v (a_pickF (t := ((decide (v < 0)) || (decide ((l.length : Int) ≤ v)))) (v := .b (((decide (v < 0)) || (decide ((l.length : Int) ≤ v))) || (decide (w < 0)))) rfl b₂ (Eq.trans (b := V.b (decide (w < 0))) rfl (or_on b₂))) ?_
      refine WO_end ?_
      exact ⟨rfl, rfl, g₁_0, g₁_1, g₁_2, g₁_3, g₁_4⟩
  rintro frg₂ _ ⟨rfl, g₂_24, g₂_0, g₂_1, g₂_2, g₂_3, g₂_4⟩
  refine WO_v (a_mv (v := .b (((decide (v < 0)) || (decide ((l.length : Int) ≤ v))) || (decide (w < 0)))) g₂_24) ?_
  refine WO_cut 5 (fun fr' k' => h = k' ∧ fr' 30 = .b ((((decide (v < 0)) || (decide ((l.length : Int) ≤ v))) || (decide (w < 0))) || (decide ((l.length : Int) ≤ w))) ∧ fr' 0 = v_l ∧ fr' 1 = .i .i64 v ∧ fr' 2 = .i .i64 d ∧ fr' 3 = .i .i64 w ∧ fr' 4 = .i .i64 o) ?_ ?_
  · rcases bc (((decide (v < 0)) || (decide ((l.length : Int) ≤ v))) || (decide (w < 0))) with b₃ | b₃
    · skip
      refine WO_off rfl b₃ ?_
      refine WO_off rfl b₃ ?_
      refine WO_off rfl b₃ ?_
      refine WO_off rfl b₃ ?_
      refine WO_v (a_pickT (t := (((decide (v < 0)) || (decide ((l.length : Int) ≤ v))) || (decide (w < 0)))) (v := .b ((((decide (v < 0)) || (decide ((l.length : Int) ≤ v))) || (decide (w < 0))) || (decide ((l.length : Int) ≤ w)))) rfl b₃ (Eq.trans (b := V.b true) rfl (or_off b₃))) ?_
      refine WO_end ?_
      exact ⟨rfl, rfl, g₂_0, g₂_1, g₂_2, g₂_3, g₂_4⟩
    · skip
      refine WO_on rfl b₃ ?_
      refine WO_v (a_mv (v := .i .i64 w) g₂_3) ?_
      refine WO_on rfl b₃ ?_
      refine WO_v (a_mv (v := v_l) g₂_0) ?_
      refine WO_on rfl b₃ ?_
      refine WO_v (a_len (hO.sl 0 rfl : Sl e_T_api_Cell h v_l l) rfl) ?_
      refine WO_on rfl b₃ ?_
      refine WO_v (a_geq (a := w) (b := (l.length : Int)) rfl rfl) ?_
      refine WO_v (a_pickF (t := (((decide (v < 0)) || (decide ((l.length : Int) ≤ v))) || (decide (w < 0)))) (v := .b ((((decide (v < 0)) || (decide ((l.length : Int) ≤ v))) || (decide (w < 0))) || (decide ((l.length : Int) ≤ w)))) rfl b₃ (Eq.trans (b := V.b (decide ((l.length : Int) ≤ w))) rfl (or_on b₃))) ?_
      refine WO_end ?_
      exact ⟨rfl, rfl, g₂_0, g₂_1, g₂_2, g₂_3, g₂_4⟩
  rintro frg₃ _ ⟨rfl, g₃_30, g₃_0, g₃_1, g₃_2, g₃_3, g₃_4⟩
  refine WO_v (a_mv (v := .b ((((decide (v < 0)) || (decide ((l.length : Int) ≤ v))) || (decide (w < 0))) || (decide ((l.length : Int) ≤ w)))) g₃_30) ?_
  refine WO_cut 4 (fun fr' k' => h = k' ∧ fr' 35 = .b (((((decide (v < 0)) || (decide ((l.length : Int) ≤ v))) || (decide (w < 0))) || (decide ((l.length : Int) ≤ w))) || (decide (v = w))) ∧ fr' 0 = v_l ∧ fr' 1 = .i .i64 v ∧ fr' 2 = .i .i64 d ∧ fr' 3 = .i .i64 w ∧ fr' 4 = .i .i64 o) ?_ ?_
  · rcases bc ((((decide (v < 0)) || (decide ((l.length : Int) ≤ v))) || (decide (w < 0))) || (decide ((l.length : Int) ≤ w))) with b₄ | b₄
    · skip
      refine WO_off rfl b₄ ?_
      refine WO_off rfl b₄ ?_
      refine WO_off rfl b₄ ?_
      refine WO_v (a_pickT (t := ((((decide (v < 0)) || (decide ((l.length : Int) ≤ v))) || (decide (w < 0))) || (decide ((l.length : Int) ≤ w)))) (v := .b (((((decide (v < 0)) || (decide ((l.length : Int) ≤ v))) || (decide (w < 0))) || (decide ((l.length : Int) ≤ w))) || (decide (v = w)))) rfl b₄ (Eq.trans (b := V.b true) rfl (or_off b₄))) ?_
      refine WO_end ?_
      exact ⟨rfl, rfl, g₃_0, g₃_1, g₃_2, g₃_3, g₃_4⟩
    · skip
      refine WO_on rfl b₄ ?_
      refine WO_v (a_mv (v := .i .i64 v) g₃_1) ?_
      refine WO_on rfl b₄ ?_
      refine WO_v (a_mv (v := .i .i64 w) g₃_3) ?_
      refine WO_on rfl b₄ ?_
      refine WO_v (a_eqI (a := v) (b := w) rfl rfl) ?_
      refine WO_v (a_pickF (t := ((((decide (v < 0)) || (decide ((l.length : Int) ≤ v))) || (decide (w < 0))) || (decide ((l.length : Int) ≤ w)))) (v := .b (((((decide (v < 0)) || (decide ((l.length : Int) ≤ v))) || (decide (w < 0))) || (decide ((l.length : Int) ≤ w))) || (decide (v = w)))) rfl b₄ (Eq.trans (b := V.b (decide (v = w))) rfl (or_on b₄))) ?_
      refine WO_end ?_
      exact ⟨rfl, rfl, g₃_0, g₃_1, g₃_2, g₃_3, g₃_4⟩
  rintro frg₄ _ ⟨rfl, g₄_35, g₄_0, g₄_1, g₄_2, g₄_3, g₄_4⟩
  refine WO_v (a_mv (v := .b (((((decide (v < 0)) || (decide ((l.length : Int) ≤ v))) || (decide (w < 0))) || (decide ((l.length : Int) ≤ w))) || (decide (v = w)))) g₄_35) ?_
  refine WO_cut 3 (fun fr' k' => h = k' ∧ fr' 39 = .b ((((((decide (v < 0)) || (decide ((l.length : Int) ≤ v))) || (decide (w < 0))) || (decide ((l.length : Int) ≤ w))) || (decide (v = w))) || (decide (d < 0))) ∧ fr' 0 = v_l ∧ fr' 1 = .i .i64 v ∧ fr' 2 = .i .i64 d ∧ fr' 3 = .i .i64 w ∧ fr' 4 = .i .i64 o) ?_ ?_
  · rcases bc (((((decide (v < 0)) || (decide ((l.length : Int) ≤ v))) || (decide (w < 0))) || (decide ((l.length : Int) ≤ w))) || (decide (v = w))) with b₅ | b₅
    · skip
      refine WO_off rfl b₅ ?_
      refine WO_off rfl b₅ ?_
      refine WO_v (a_pickT (t := (((((decide (v < 0)) || (decide ((l.length : Int) ≤ v))) || (decide (w < 0))) || (decide ((l.length : Int) ≤ w))) || (decide (v = w)))) (v := .b ((((((decide (v < 0)) || (decide ((l.length : Int) ≤ v))) || (decide (w < 0))) || (decide ((l.length : Int) ≤ w))) || (decide (v = w))) || (decide (d < 0)))) rfl b₅ (Eq.trans (b := V.b true) rfl (or_off b₅))) ?_
      refine WO_end ?_
      exact ⟨rfl, rfl, g₄_0, g₄_1, g₄_2, g₄_3, g₄_4⟩
    · skip
      refine WO_on rfl b₅ ?_
      refine WO_v (a_mv (v := .i .i64 d) g₄_2) ?_
      refine WO_on rfl b₅ ?_
      refine WO_v (a_lss (a := d) (b := 0) rfl rfl) ?_
      refine WO_v (a_pickF (t := (((((decide (v < 0)) || (decide ((l.length : Int) ≤ v))) || (decide (w < 0))) || (decide ((l.length : Int) ≤ w))) || (decide (v = w)))) (v := .b ((((((decide (v < 0)) || (decide ((l.length : Int) ≤ v))) || (decide (w < 0))) || (decide ((l.length : Int) ≤ w))) || (decide (v = w))) || (decide (d < 0)))) rfl b₅ (Eq.trans (b := V.b (decide (d < 0))) rfl (or_on b₅))) ?_
      refine WO_end ?_
      exact ⟨rfl, rfl, g₄_0, g₄_1, g₄_2, g₄_3, g₄_4⟩
  rintro frg₅ _ ⟨rfl, g₅_39, g₅_0, g₅_1, g₅_2, g₅_3, g₅_4⟩
  refine WO_v (a_mv (v := .b ((((((decide (v < 0)) || (decide ((l.length : Int) ≤ v))) || (decide (w < 0))) || (decide ((l.length : Int) ≤ w))) || (decide (v = w))) || (decide (d < 0)))) g₅_39) ?_
  refine WO_cut 3 (fun fr' k' => h = k' ∧ fr' 43 = .b (((((((decide (v < 0)) || (decide ((l.length : Int) ≤ v))) || (decide (w < 0))) || (decide ((l.length : Int) ≤ w))) || (decide (v = w))) || (decide (d < 0))) || (decide (3 < d))) ∧ fr' 0 = v_l ∧ fr' 1 = .i .i64 v ∧ fr' 2 = .i .i64 d ∧ fr' 3 = .i .i64 w ∧ fr' 4 = .i .i64 o) ?_ ?_
  · rcases bc ((((((decide (v < 0)) || (decide ((l.length : Int) ≤ v))) || (decide (w < 0))) || (decide ((l.length : Int) ≤ w))) || (decide (v = w))) || (decide (d < 0))) with b₆ | b₆
    · skip
      refine WO_off rfl b₆ ?_
      refine WO_off rfl b₆ ?_
      refine WO_v (a_pickT (t := ((((((decide (v < 0)) || (decide ((l.length : Int) ≤ v))) || (decide (w < 0))) || (decide ((l.length : Int) ≤ w))) || (decide (v = w))) || (decide (d < 0)))) (v := .b (((((((decide (v < 0)) || (decide ((l.length : Int) ≤ v))) || (decide (w < 0))) || (decide ((l.length : Int) ≤ w))) || (decide (v = w))) || (decide (d < 0))) || (decide (3 < d)))) rfl b₆ (Eq.trans (b := V.b true) rfl (or_off b₆))) ?_
      refine WO_end ?_
      exact ⟨rfl, rfl, g₅_0, g₅_1, g₅_2, g₅_3, g₅_4⟩
    · skip
      refine WO_on rfl b₆ ?_
      refine WO_v (a_mv (v := .i .i64 d) g₅_2) ?_
      refine WO_on rfl b₆ ?_
      refine WO_v (a_gtr (a := d) (b := 3) rfl rfl) ?_
      refine WO_v (a_pickF (t := ((((((decide (v < 0)) || (decide ((l.length : Int) ≤ v))) || (decide (w < 0))) || (decide ((l.length : Int) ≤ w))) || (decide (v = w))) || (decide (d < 0)))) (v := .b (((((((decide (v < 0)) || (decide ((l.length : Int) ≤ v))) || (decide (w < 0))) || (decide ((l.length : Int) ≤ w))) || (decide (v = w))) || (decide (d < 0))) || (decide (3 < d)))) rfl b₆ (Eq.trans (b := V.b (decide (3 < d))) rfl (or_on b₆))) ?_
      refine WO_end ?_
      exact ⟨rfl, rfl, g₅_0, g₅_1, g₅_2, g₅_3, g₅_4⟩
  rintro frg₆ _ ⟨rfl, g₆_43, g₆_0, g₆_1, g₆_2, g₆_3, g₆_4⟩
  refine WO_v (a_mv (v := .b (((((((decide (v < 0)) || (decide ((l.length : Int) ≤ v))) || (decide (w < 0))) || (decide ((l.length : Int) ≤ w))) || (decide (v = w))) || (decide (d < 0))) || (decide (3 < d)))) g₆_43) ?_
  refine WO_cut 3 (fun fr' k' => h = k' ∧ fr' 47 = .b ((((((((decide (v < 0)) || (decide ((l.length : Int) ≤ v))) || (decide (w < 0))) || (decide ((l.length : Int) ≤ w))) || (decide (v = w))) || (decide (d < 0))) || (decide (3 < d))) || (decide (o < (-2)))) ∧ fr' 0 = v_l ∧ fr' 1 = .i .i64 v ∧ fr' 2 = .i .i64 d ∧ fr' 3 = .i .i64 w ∧ fr' 4 = .i .i64 o) ?_ ?_
  · rcases bc (((((((decide (v < 0)) || (decide ((l.length : Int) ≤ v))) || (decide (w < 0))) || (decide ((l.length : Int) ≤ w))) || (decide (v = w))) || (decide (d < 0))) || (decide (3 < d))) with b₇ | b₇
    · skip
      refine WO_off rfl b₇ ?_
      refine WO_off rfl b₇ ?_
      refine WO_v (a_pickT (t := (((((((decide (v < 0)) || (decide ((l.length : Int) ≤ v))) || (decide (w < 0))) || (decide ((l.length : Int) ≤ w))) || (decide (v = w))) || (decide (d < 0))) || (decide (3 < d)))) (v := .b ((((((((decide (v < 0)) || (decide ((l.length : Int) ≤ v))) || (decide (w < 0))) || (decide ((l.length : Int) ≤ w))) || (decide (v = w))) || (decide (d < 0))) || (decide (3 < d))) || (decide (o < (-2))))) rfl b₇ (Eq.trans (b := V.b true) rfl (or_off b₇))) ?_
      refine WO_end ?_
      exact ⟨rfl, rfl, g₆_0, g₆_1, g₆_2, g₆_3, g₆_4⟩
    · skip
      refine WO_on rfl b₇ ?_
      refine WO_v (a_mv (v := .i .i64 o) g₆_4) ?_
      refine WO_on rfl b₇ ?_
      refine WO_v (a_lss (a := o) (b := (-2)) rfl rfl) ?_
      refine WO_v (a_pickF (t := (((((((decide (v < 0)) || (decide ((l.length : Int) ≤ v))) || (decide (w < 0))) || (decide ((l.length : Int) ≤ w))) || (decide (v = w))) || (decide (d < 0))) || (decide (3 < d)))) (v := .b ((((((((decide (v < 0)) || (decide ((l.length : Int) ≤ v))) || (decide (w < 0))) || (decide ((l.length : Int) ≤ w))) || (decide (v = w))) || (decide (d < 0))) || (decide (3 < d))) || (decide (o < (-2))))) rfl b₇ (Eq.trans (b := V.b (decide (o < (-2)))) rfl (or_on b₇))) ?_
      refine WO_end ?_
      exact ⟨rfl, rfl, g₆_0, g₆_1, g₆_2, g₆_3, g₆_4⟩
  rintro frg₇ _ ⟨rfl, g₇_47, g₇_0, g₇_1, g₇_2, g₇_3, g₇_4⟩
  refine WO_end ?_
  refine then_n ?_
  rcases if_some hp with ⟨b₈, hp⟩ | ⟨b₈, hp⟩
  · refine W_cT (t := ((((((((decide (v < 0)) || (decide ((l.length : Int) ≤ v))) || (decide (w < 0))) || (decide ((l.length : Int) ≤ w))) || (decide (v = w))) || (decide (d < 0))) || (decide (3 < d))) || (decide (o < (-2))))) g₇_47 b₈ ?_
    refine W_sq ?_
    refine W_rg ?_
    refine WO_v (a_mv (v := v_l) g₇_0) ?_
    refine WO_v (a_mv (v := v_l) rfl) ?_
    refine WO_v (a_mv (v := .i .i64 2) rfl) ?_
    refine WO_end ?_
    refine then_n ?_
    refine W_rt ?_
    refine then_r ?_
    refine Ret_r (rs_t (n := 10) (v := v_l) rfl (rs_t (n := 11) (v := .i .i64 2) rfl rs_nil)) ?_
    have hp := Option.some.inj hp; subst hp
    exact (Exists.intro v_l (And.intro rfl (hO.pick [0] rfl (by decide))))
  · refine W_cF (t := ((((((((decide (v < 0)) || (decide ((l.length : Int) ≤ v))) || (decide (w < 0))) || (decide ((l.length : Int) ≤ w))) || (decide (v = w))) || (decide (d < 0))) || (decide (3 < d))) || (decide (o < (-2))))) g₇_47 b₈ ?_
    refine W_sk ?_
    refine then_n ?_
    refine W_sq ?_
    refine W_sq ?_
    refine W_rg ?_
    refine WO_v (a_mv (v := v_l) g₇_0) ?_
    refine WO_v (a_mv (v := .i .i64 v) g₇_1) ?_
    refine WO_v (a_mv (v := .i .i64 d) g₇_2) ?_
    obtain ⟨c₁, hp⟩ := ck_some hp
    refine WO_v (a_ixa (E := e_T_api_Cell) (z := v) (hO.sl 0 rfl : Sl e_T_api_Cell h v_l l) rfl rfl c₁) ?_
    refine WO_v (a_faE (off' := 0) (off2 := 0) (hO.sl 0 rfl : Sl e_T_api_Cell h v_l l) (toNat_lt c₁) rfl rfl) ?_
    obtain ⟨c₂, hp⟩ := ck_some hp
    refine WO_v (a_ixaaE (off := 0) (off2 := (0 + (d : Int).toNat * 1)) (z := d) (hO.sl 0 rfl : Sl e_T_api_Cell h v_l l) (toNat_lt c₁) rfl rfl c₂ rfl) ?_
    refine WO_v (a_ldE (w := .i .i64 (((gi l (v : Int).toNat).Next).get d)) (hO.sl 0 rfl : Sl e_T_api_Cell h v_l l) rfl (toNat_lt c₁) (ld_T_api_Cell_Next c₂)) ?_
    refine WO_v (a_neI (a := (((gi l (v : Int).toNat).Next).get d)) (b := (-1)) rfl rfl) ?_
    refine WO_v (a_mv (v := .b (!(decide (((gi l (v : Int).toNat).Next).get d = (-1))))) rfl) ?_
    obtain ⟨t, hv₁, hp⟩ := bd_some hp
    refine WO_cut 11 (fun fr' k' => h = k' ∧ fr' 68 = .b t ∧ fr' 0 = v_l ∧ fr' 1 = .i .i64 v ∧ fr' 2 = .i .i64 d ∧ fr' 3 = .i .i64 w ∧ fr' 4 = .i .i64 o) ?_ ?_
    · clear hp; rcases if_some hv₁ with ⟨b₉, hp⟩ | ⟨b₉, hp⟩
      · skip
        refine WO_off rfl b₉ ?_
        refine WO_off rfl b₉ ?_
        refine WO_off rfl b₉ ?_
        refine WO_off rfl b₉ ?_
        refine WO_off rfl b₉ ?_
        refine WO_off rfl b₉ ?_
        refine WO_off rfl b₉ ?_
        refine WO_off rfl b₉ ?_
        refine WO_off rfl b₉ ?_
        refine WO_off rfl b₉ ?_
        refine WO_v (a_pickT (t := (!(decide (((gi l (v : Int).toNat).Next).get d = (-1))))) (v := .b t) rfl b₉ (Eq.trans (b := V.b true) rfl (congrArg V.b (Option.some.inj hp)))) ?_
        refine WO_end ?_
        exact ⟨rfl, rfl, g₇_0, g₇_1, g₇_2, g₇_3, g₇_4⟩
      · skip
        refine WO_on rfl b₉ ?_
        refine WO_v (a_mv (v := v_l) g₇_0) ?_
        refine WO_on rfl b₉ ?_
        refine WO_v (a_mv (v := .i .i64 w) g₇_3) ?_
        refine WO_on rfl b₉ ?_
        refine WO_v (a_mv (v := .i .i64 d) g₇_2) ?_
        refine WO_on rfl b₉ ?_
        obtain ⟨c₃, hp⟩ := ck_some hp
        refine WO_v (a_add (a := d) (b := 2) rfl rfl c₃) ?_
        refine WO_on rfl b₉ ?_
        refine WO_v (a_rem (a := (d + 2)) (b := 4) rfl rfl (by decide)) ?_
        refine WO_on rfl b₉ ?_
        obtain ⟨c₄, hp⟩ := ck_some hp
        refine WO_v (a_ixa (E := e_T_api_Cell) (z := w) (hO.sl 0 rfl : Sl e_T_api_Cell h v_l l) rfl rfl c₄) ?_
        refine WO_on rfl b₉ ?_
        refine WO_v (a_faE (off' := 0) (off2 := 0) (hO.sl 0 rfl : Sl e_T_api_Cell h v_l l) (toNat_lt c₄) rfl rfl) ?_
        refine WO_on rfl b₉ ?_
        obtain ⟨c₅, hp⟩ := ck_some hp
        refine WO_v (a_ixaaE (off := 0) (off2 := (0 + ((d + 2).tmod 4 : Int).toNat * 1)) (z := ((d + 2).tmod 4)) (hO.sl 0 rfl : Sl e_T_api_Cell h v_l l) (toNat_lt c₄) rfl rfl c₅ rfl) ?_
        refine WO_on rfl b₉ ?_
        refine WO_v (a_ldE (w := .i .i64 (((gi l (w : Int).toNat).Next).get ((d + 2).tmod 4))) (hO.sl 0 rfl : Sl e_T_api_Cell h v_l l) rfl (toNat_lt c₄) (ld_T_api_Cell_Next c₅)) ?_
        refine WO_on rfl b₉ ?_
        refine WO_v (a_neI (a := (((gi l (w : Int).toNat).Next).get ((d + 2).tmod 4))) (b := (-1)) rfl rfl) ?_
        refine WO_v (a_pickF (t := (!(decide (((gi l (v : Int).toNat).Next).get d = (-1))))) (v := .b t) rfl b₉ (Eq.trans (b := V.b (!(decide (((gi l (w : Int).toNat).Next).get ((d + 2).tmod 4) = (-1))))) rfl (congrArg V.b (Option.some.inj hp)))) ?_
        refine WO_end ?_
        exact ⟨rfl, rfl, g₇_0, g₇_1, g₇_2, g₇_3, g₇_4⟩
    rintro frg₈ _ ⟨rfl, g₈_68, g₈_0, g₈_1, g₈_2, g₈_3, g₈_4⟩
    refine WO_end ?_
    refine then_n ?_
    rcases if_some hp with ⟨b₁₀, hp⟩ | ⟨b₁₀, hp⟩
    · refine W_cT (t := t) g₈_68 b₁₀ ?_
      refine W_sq ?_
      refine W_rg ?_
      refine WO_v (a_mv (v := v_l) g₈_0) ?_
      refine WO_v (a_mv (v := v_l) rfl) ?_
      refine WO_v (a_mv (v := .i .i64 9) rfl) ?_
      refine WO_end ?_
      refine then_n ?_
      refine W_rt ?_
      refine then_r ?_
      refine Ret_r (rs_t (n := 10) (v := v_l) rfl (rs_t (n := 11) (v := .i .i64 9) rfl rs_nil)) ?_
      have hp := Option.some.inj hp; subst hp
      exact (Exists.intro v_l (And.intro rfl (hO.pick [0] rfl (by decide))))
    · refine W_cF (t := t) g₈_68 b₁₀ ?_
      refine W_sk ?_
      refine then_n ?_
      refine W_sq ?_
      refine W_rg ?_
      refine WO_v (a_mv (v := v_l) g₈_0) ?_
      refine WO_v (a_mv (v := .i .i64 v) g₈_1) ?_
      refine WO_v (a_mv (v := .i .i64 d) g₈_2) ?_
      refine WO_v (a_mv (v := .i .i64 w) g₈_3) ?_
      refine WO_v (a_mv (v := .i .i64 o) g₈_4) ?_
      obtain ⟨x, hx₁, hp⟩ := bd_some hp
      obtain ⟨u₁, k₁, ca₁, v₂, rfl, hW₁⟩ := p_muntinref10_with.ok (h := h)  (hO.sl 0 rfl : Sl e_T_api_Cell h v_l l) hx₁
      refine WO_c (id := 65) (caps := []) rfl (mp_cons (v := v_l) rfl (mp_cons (v := .i .i64 v) rfl (mp_cons (v := .i .i64 d) rfl (mp_cons (v := .i .i64 w) rfl (mp_cons (v := .i .i64 o) rfl mp_nil))))) ca₁ ?_
      have hO₁ : Own B h k₁ [eSl e_T_api_Cell v_l l, eSl e_T_api_Cell v₂ x] := hO.call hW₁ rfl
      refine WO_v (a_mv (v := v₂) rfl) ?_
      refine WO_end ?_
      refine then_n ?_
      refine W_sq ?_
      refine W_rg ?_
      refine WO_v (a_mv (v := v₂) rfl) ?_
      refine WO_v (a_mv (v := v₂) rfl) ?_
      refine WO_v (a_mv (v := .i .i64 0) rfl) ?_
      refine WO_end ?_
      refine then_n ?_
      refine W_rt ?_
      refine Ret_r (rs_t (n := 10) (v := v₂) rfl (rs_t (n := 11) (v := .i .i64 0) rfl rs_nil)) ?_
      have hp := Option.some.inj hp; subst hp
      exact (Exists.intro v₂ (And.intro rfl (hO₁.pick [1] rfl (by decide))))

theorem p_muntinlaw17_square.ok {h : Hp}    {r : (List T_api_Cell)} (hp : p_muntinlaw17_square  = some r) :
    ∃ u k', Is G 145 [] h u k' ∧ ∃ (v₁ : V), v₁ = u ∧ Own (fun r => r < h.n) h k' [eSl e_T_api_Cell v₁ r] := by
  refine WC.is (WC_of G_F_muntinlaw17_square ?_)
  unfold p_muntinlaw17_square at hp
  let B : Nat → Prop := (fun r => r < h.n)
  have hO : Own B h h [] := Own.start0 h
  refine W_sq ?_
  refine W_rg ?_
  refine WO_v (a_mv (v := .sn) rfl) ?_
  refine WO_end ?_
  refine then_n ?_
  refine W_sq ?_
  refine W_rg ?_
  obtain ⟨x, hx₁, hp⟩ := bd_some hp
  obtain ⟨u₁, k₁, ca₁, v₂, rfl, hW₁⟩ := p_muntinref10_New.ok (h := h)   hx₁
  refine WO_c (id := 46) (caps := []) rfl (mp_cons (v := .i .i64 4) rfl mp_nil) ca₁ ?_
  have hO₁ : Own B h k₁ [eSl e_T_api_Cell v₂ x] := hO.call hW₁ rfl
  refine WO_v (a_mv (v := v₂) rfl) ?_
  refine WO_end ?_
  refine then_n ?_
  refine W_sq ?_
  refine W_rg ?_
  refine WO_v (a_mv (v := v₂) rfl) ?_
  obtain ⟨⟨x1, x2⟩, hx₂, hp⟩ := bd_some hp
  obtain ⟨u₂, k₂, ca₂, v₃, rfl, hW₂⟩ := p_muntinref10_Join.ok (h := k₁) (l := x) (v := 0) (d := 0) (w := 1) (o := 0) (hO₁.toM [0] rfl (by decide))  hx₂
  refine WO_c (id := 53) (caps := []) rfl (mp_cons (v := v₂) rfl (mp_cons (v := .i .i64 0) rfl (mp_cons (v := .i .i64 0) rfl (mp_cons (v := .i .i64 1) rfl (mp_cons (v := .i .i64 0) rfl mp_nil))))) ca₂ ?_
  have hO₂ : Own B h k₂ [eNone, eSl e_T_api_Cell v₃ x1] := (hO₁.callM [0] [] rfl rfl (by decide) hW₂ rfl).pick [900, 0] rfl (by decide)
  refine WO_v (a_mv (v := .tu [v₃, .i .i64 x2]) rfl) ?_
  refine WO_v (a_ext (vs := [v₃, .i .i64 x2]) (v := v₃) rfl rfl) ?_
  refine WO_v (a_ext (vs := [v₃, .i .i64 x2]) (v := .i .i64 x2) rfl rfl) ?_
  refine WO_v (a_mv (v := v₃) rfl) ?_
  refine WO_end ?_
  refine then_n ?_
  refine W_sq ?_
  refine W_rg ?_
  refine WO_v (a_mv (v := v₃) rfl) ?_
  obtain ⟨⟨x3, x4⟩, hx₃, hp⟩ := bd_some hp
  obtain ⟨u₃, k₃, ca₃, v₄, rfl, hW₃⟩ := p_muntinref10_Join.ok (h := k₂) (l := x1) (v := 1) (d := 1) (w := 2) (o := 0) (hO₂.toM [1] rfl (by decide))  hx₃
  refine WO_c (id := 53) (caps := []) rfl (mp_cons (v := v₃) rfl (mp_cons (v := .i .i64 1) rfl (mp_cons (v := .i .i64 1) rfl (mp_cons (v := .i .i64 2) rfl (mp_cons (v := .i .i64 0) rfl mp_nil))))) ca₃ ?_
  have hO₃ : Own B h k₃ [eNone, eNone, eSl e_T_api_Cell v₄ x3] := (hO₂.callM [1] [] rfl rfl (by decide) hW₃ rfl).pick [900, 901, 0] rfl (by decide)
  refine WO_v (a_mv (v := .tu [v₄, .i .i64 x4]) rfl) ?_
  refine WO_v (a_ext (vs := [v₄, .i .i64 x4]) (v := v₄) rfl rfl) ?_
  refine WO_v (a_ext (vs := [v₄, .i .i64 x4]) (v := .i .i64 x4) rfl rfl) ?_
  refine WO_v (a_mv (v := v₄) rfl) ?_
  refine WO_end ?_
  refine then_n ?_
  refine W_sq ?_
  refine W_rg ?_
  refine WO_v (a_mv (v := v₄) rfl) ?_
  obtain ⟨⟨x5, x6⟩, hx₄, hp⟩ := bd_some hp
  obtain ⟨u₄, k₄, ca₄, v₅, rfl, hW₄⟩ := p_muntinref10_Join.ok (h := k₃) (l := x3) (v := 2) (d := 2) (w := 3) (o := 0) (hO₃.toM [2] rfl (by decide))  hx₄
  refine WO_c (id := 53) (caps := []) rfl (mp_cons (v := v₄) rfl (mp_cons (v := .i .i64 2) rfl (mp_cons (v := .i .i64 2) rfl (mp_cons (v := .i .i64 3) rfl (mp_cons (v := .i .i64 0) rfl mp_nil))))) ca₄ ?_
  have hO₄ : Own B h k₄ [eNone, eNone, eNone, eSl e_T_api_Cell v₅ x5] := (hO₃.callM [2] [] rfl rfl (by decide) hW₄ rfl).pick [900, 901, 902, 0] rfl (by decide)
  refine WO_v (a_mv (v := .tu [v₅, .i .i64 x6]) rfl) ?_
  refine WO_v (a_ext (vs := [v₅, .i .i64 x6]) (v := v₅) rfl rfl) ?_
  refine WO_v (a_ext (vs := [v₅, .i .i64 x6]) (v := .i .i64 x6) rfl rfl) ?_
  refine WO_v (a_mv (v := v₅) rfl) ?_
  refine WO_end ?_
  refine then_n ?_
  refine W_sq ?_
  refine W_rg ?_
  refine WO_v (a_mv (v := v₅) rfl) ?_
  obtain ⟨⟨x7, x8⟩, hx₅, hp⟩ := bd_some hp
  obtain ⟨u₅, k₅, ca₅, v₆, rfl, hW₅⟩ := p_muntinref10_Join.ok (h := k₄) (l := x5) (v := 3) (d := 3) (w := 0) (o := (-1)) (hO₄.toM [3] rfl (by decide))  hx₅
  refine WO_c (id := 53) (caps := []) rfl (mp_cons (v := v₅) rfl (mp_cons (v := .i .i64 3) rfl (mp_cons (v := .i .i64 3) rfl (mp_cons (v := .i .i64 0) rfl (mp_cons (v := .i .i64 (-1)) rfl mp_nil))))) ca₅ ?_
  have hO₅ : Own B h k₅ [eNone, eNone, eNone, eNone, eSl e_T_api_Cell v₆ x7] := (hO₄.callM [3] [] rfl rfl (by decide) hW₅ rfl).pick [900, 901, 902, 903, 0] rfl (by decide)
  refine WO_v (a_mv (v := .tu [v₆, .i .i64 x8]) rfl) ?_
  refine WO_v (a_ext (vs := [v₆, .i .i64 x8]) (v := v₆) rfl rfl) ?_
  refine WO_v (a_ext (vs := [v₆, .i .i64 x8]) (v := .i .i64 x8) rfl rfl) ?_
  refine WO_v (a_mv (v := v₆) rfl) ?_
  refine WO_end ?_
  refine then_n ?_
  refine W_sq ?_
  refine W_rg ?_
  refine WO_v (a_mv (v := v₆) rfl) ?_
  refine WO_v (a_mv (v := v₆) rfl) ?_
  refine WO_end ?_
  refine then_n ?_
  refine W_rt ?_
  refine Ret_r (rs_t (n := 0) (v := v₆) rfl rs_nil) ?_
  have hp := Option.some.inj hp; subst hp
  exact (Exists.intro v₆ (And.intro rfl (hO₅.pick [4] rfl (by decide))))

theorem p_arcs_Place.ok {h : Hp} {c : T_seg_Chains} {x : List Int} {y : List Int} {v_c_X : V} {v_c_Y : V} {v_c_Vert : V} {vs_c_Vert : List V} {v_c_Horz : V} {vs_c_Horz : List V} {v_x : V} {v_y : V} (s_c_X : Sl eInt h v_c_X c.X) (s_c_Y : Sl eInt h v_c_Y c.Y) (sN_c_Vert : Sl eV h v_c_Vert vs_c_Vert) (lN_c_Vert : vs_c_Vert.length = c.Vert.length) (iN_c_Vert : ∀ j, j < c.Vert.length → Sl eInt h (gi vs_c_Vert j) (gi c.Vert j)) (sN_c_Horz : Sl eV h v_c_Horz vs_c_Horz) (lN_c_Horz : vs_c_Horz.length = c.Horz.length) (iN_c_Horz : ∀ j, j < c.Horz.length → Sl eInt h (gi vs_c_Horz j) (gi c.Horz j)) (s_x : Sl eInt h v_x x) (s_y : Sl eInt h v_y y) {r : (List T_api_Point) × Int} (hp : p_arcs_Place c x y = some r) :
    ∃ u k', Is G 132 [.ag [v_c_X, v_c_Y, v_c_Vert, v_c_Horz], v_x, v_y] h u k' ∧ ∃ (v₁ : V), V.tu [v₁, .i .i64 r.2] = u ∧ Own (fun r => r < h.n) h k' [eSl e_T_api_Point v₁ r.1] := by
  refine WC.is (WC_of G_F_arcs_Place ?_)
  unfold p_arcs_Place at hp
  let B : Nat → Prop := (fun r => r < h.n)
  have hO : Own B h h [] := Own.start0 h
  refine W_sq ?_
  refine W_rg ?_
  refine WO_x (hO.boxd (v := .ag [v_c_X, v_c_Y, v_c_Vert, v_c_Horz]) (cs := [v_c_X, v_c_Y, v_c_Vert, v_c_Horz]) hO.fr rfl rfl) ?_
  rintro _ k₁ ⟨r₁, rfl, n₁, f₁, hW⟩
  have hO₁ : Own B h k₁ [eBox r₁ [v_c_X, v_c_Y, v_c_Vert, v_c_Horz]] := hW
  refine WO_v (a_mv (v := .sn) rfl) ?_
  refine WO_v (a_mv (v := .i .i64 0) rfl) ?_
  refine WO_end ?_
  refine then_n ?_
  refine W_sq ?_
  refine W_sq ?_
  refine W_rg ?_
  refine WO_v (a_mv (v := v_x) rfl) ?_
  refine WO_v (a_len (hO₁.rd0 s_x.rd : Sl eInt k₁ v_x x) rfl) ?_
  refine WO_v (a_fa (r := r₁) (o := 0) (o' := 2) rfl rfl) ?_
  refine WO_v (a_ldb (cs := [v_c_X, v_c_Y, v_c_Vert, v_c_Horz]) (v := v_c_Vert) (hO₁.box 0 rfl) rfl rfl) ?_
  refine WO_v (a_lenN (n := (c.Vert).length) (hO₁.rd0 sN_c_Vert.rd : Sl eV k₁ v_c_Vert vs_c_Vert) lN_c_Vert rfl) ?_
  refine WO_v (a_neI (a := (x.length : Int)) (b := (c.Vert.length : Int)) rfl rfl) ?_
  refine WO_v (a_mv (v := .b (!(decide ((x.length : Int) = (c.Vert.length : Int))))) rfl) ?_
  refine WO_cut 7 (fun fr' k' => k₁ = k' ∧ fr' 23 = .b ((!(decide ((x.length : Int) = (c.Vert.length : Int)))) || (!(decide ((y.length : Int) = (c.Horz.length : Int))))) ∧ fr' 1 = v_x ∧ fr' 2 = v_y ∧ fr' 3 = .p r₁ 0) ?_ ?_
  · rcases bc (!(decide ((x.length : Int) = (c.Vert.length : Int)))) with b₁ | b₁
    · skip
      refine WO_off rfl b₁ ?_
      refine WO_off rfl b₁ ?_
      refine WO_off rfl b₁ ?_
      refine WO_off rfl b₁ ?_
      refine WO_off rfl b₁ ?_
      refine WO_off rfl b₁ ?_
      refine WO_v (a_pickT (t := (!(decide ((x.length : Int) = (c.Vert.length : Int))))) (v := .b ((!(decide ((x.length : Int) = (c.Vert.length : Int)))) || (!(decide ((y.length : Int) = (c.Horz.length : Int)))))) rfl b₁ (Eq.trans (b := V.b true) rfl (or_off b₁))) ?_
      refine WO_end ?_
      exact ⟨rfl, rfl, rfl, rfl, rfl⟩
    · skip
      refine WO_on rfl b₁ ?_
      refine WO_v (a_mv (v := v_y) rfl) ?_
      refine WO_on rfl b₁ ?_
      refine WO_v (a_len (hO₁.rd0 s_y.rd : Sl eInt k₁ v_y y) rfl) ?_
      refine WO_on rfl b₁ ?_
      refine WO_v (a_fa (r := r₁) (o := 0) (o' := 3) rfl rfl) ?_
      refine WO_on rfl b₁ ?_
      refine WO_v (a_ldb (cs := [v_c_X, v_c_Y, v_c_Vert, v_c_Horz]) (v := v_c_Horz) (hO₁.box 0 rfl) rfl rfl) ?_
      refine WO_on rfl b₁ ?_
      refine WO_v (a_lenN (n := (c.Horz).length) (hO₁.rd0 sN_c_Horz.rd : Sl eV k₁ v_c_Horz vs_c_Horz) lN_c_Horz rfl) ?_
      refine WO_on rfl b₁ ?_
      refine WO_v (a_neI (a := (y.length : Int)) (b := (c.Horz.length : Int)) rfl rfl) ?_
      refine WO_v (a_pickF (t := (!(decide ((x.length : Int) = (c.Vert.length : Int))))) (v := .b ((!(decide ((x.length : Int) = (c.Vert.length : Int)))) || (!(decide ((y.length : Int) = (c.Horz.length : Int)))))) rfl b₁ (Eq.trans (b := V.b (!(decide ((y.length : Int) = (c.Horz.length : Int))))) rfl (or_on b₁))) ?_
      refine WO_end ?_
      exact ⟨rfl, rfl, rfl, rfl, rfl⟩
  rintro frg₁ _ ⟨rfl, g₁_23, g₁_1, g₁_2, g₁_3⟩
  refine WO_end ?_
  refine then_n ?_
  rcases if_some hp with ⟨b₂, hp⟩ | ⟨b₂, hp⟩
  · refine W_cT (t := ((!(decide ((x.length : Int) = (c.Vert.length : Int)))) || (!(decide ((y.length : Int) = (c.Horz.length : Int)))))) g₁_23 b₂ ?_
    refine W_sq ?_
    refine W_rg ?_
    refine WO_v (a_mv (v := .sn) rfl) ?_
    refine WO_v (a_mv (v := .i .i64 2) rfl) ?_
    refine WO_end ?_
    refine then_n ?_
    refine W_rt ?_
    refine then_r ?_
    have hO₂ : Own B h k₁ [eBox r₁ [v_c_X, v_c_Y, v_c_Vert, v_c_Horz], eSl e_T_api_Point .sn ([] : List T_api_Point)] := hO₁.nil e_T_api_Point
    refine Ret_r (rs_t (n := 6) (v := .sn) rfl (rs_t (n := 7) (v := .i .i64 2) rfl rs_nil)) ?_
    have hp := Option.some.inj hp; subst hp
    exact (Exists.intro V.sn (And.intro rfl (hO₂.pick [1] rfl (by decide))))
  · refine W_cF (t := ((!(decide ((x.length : Int) = (c.Vert.length : Int)))) || (!(decide ((y.length : Int) = (c.Horz.length : Int)))))) g₁_23 b₂ ?_
    refine W_sk ?_
    refine then_n ?_
    refine W_sq ?_
    refine W_rg ?_
    refine WO_v (a_mv (v := .sn) rfl) ?_
    refine WO_end ?_
    refine then_n ?_
    refine W_sq ?_
    refine W_sq ?_
    refine W_rg ?_
    refine WO_v (a_fa (r := r₁) (o := 0) (o' := 0) g₁_3 rfl) ?_
    refine WO_v (a_ldb (cs := [v_c_X, v_c_Y, v_c_Vert, v_c_Horz]) (v := v_c_X) (hO₁.box 0 rfl) rfl rfl) ?_
    refine WO_v (a_len (hO₁.rd0 s_c_X.rd : Sl eInt k₁ v_c_X c.X) rfl) ?_
    refine WO_v (a_mv (v := .i .i64 0) rfl) ?_
    refine WO_end ?_
    refine then_n ?_
    refine W_bl ?_
    obtain ⟨o₁, ho₁, hp⟩ := bd_some hp
    refine W.mono (Q := fun e fr k => match (generalizing := false) o₁ with
        | l1 => e = (.exit 0) ∧ ∃ (v₃ : V), fr 8 = v₃ ∧ Own B h k [eSl e_T_api_Point v₃ l1]) ?_ ?_
    · clear hp
      have hO₄ : Own B h k₁ [eBox r₁ [v_c_X, v_c_Y, v_c_Vert, v_c_Horz], eSl e_T_api_Point .sn ([] : List T_api_Point)] := hO₁.nil e_T_api_Point
      refine W_loopF (fun st fr k => match st with | (l, x1) => ∃ (v₂ : V), fr 1 = v_x ∧ fr 2 = v_y ∧ fr 3 = .p r₁ 0 ∧ fr 8 = v₂ ∧ fr 26 = .i .i64 (c.X.length : Int) ∧ fr 27 = .i .i64 x1 ∧ Own B h k [eBox r₁ [v_c_X, v_c_Y, v_c_Vert, v_c_Horz], eSl e_T_api_Point v₂ l]) ho₁ (s := (([] : List T_api_Point), 0)) (Exists.intro V.sn (And.intro (g₁_1) (And.intro (g₁_2) (And.intro (g₁_3) (And.intro (rfl) (And.intro (rfl) (And.intro (rfl) (hO₄.pick [0, 1] rfl (by decide))))))))) ?_
      rintro ⟨l, x1⟩ q₂ k₃ ⟨v₂, q₂_1, q₂_2, q₂_3, q₂_8, q₂_26, q₂_27, hO₅⟩ o₂ hp
      dsimp only [p_arcs_Place.s0] at hp
      refine W_sq ?_
      refine W_rg ?_
      refine WO_v (a_lss (a := x1) (b := (c.X.length : Int)) q₂_27 q₂_26) ?_
      refine WO_end ?_
      refine then_n ?_
      refine W_sq ?_
      rcases if_some hp with ⟨b₃, hp⟩ | ⟨b₃, hp⟩
      · refine W_cT (t := (decide (x1 < (c.X.length : Int)))) rfl b₃ ?_
        refine W_sk ?_
        refine then_n ?_
        refine W_sq ?_
        refine W_bl ?_
        refine W_sq ?_
        refine W_rg ?_
        refine WO_v (a_mv (v := .i .i64 x1) q₂_27) ?_
        refine WO_v (a_mv (v := .i .i64 x1) rfl) ?_
        refine WO_end ?_
        refine then_n ?_
        refine W_dr ?_
        have hW := hO₅.bump 21
        have fr₁ := Fresh.start k₃ 21
        have nb₁ : ∀ {i : Nat}, h.n ≤ k₃.n + i := Nat.le_trans hO₅.n (Nat.le_add_right _ _)
        have hO₆ : Own B h (k₃.bump 21) [eBox r₁ [v_c_X, v_c_Y, v_c_Vert, v_c_Horz], eSl e_T_api_Point v₂ l] := hW
        refine WD_v (a_mv (v := v₂) q₂_8) ?_
        refine WD_v (a_mv (v := v_x) q₂_1) ?_
        refine WD_v (a_fa (r := r₁) (o := 0) (o' := 0) q₂_3 rfl) ?_
        refine WD_v (a_ldb (cs := [v_c_X, v_c_Y, v_c_Vert, v_c_Horz]) (v := v_c_X) (hO₆.box 0 rfl) rfl rfl) ?_
        refine WD_v (a_mv (v := .i .i64 x1) rfl) ?_
        obtain ⟨c₁, hp⟩ := ck_some hp
        refine WD_v (a_ixa (E := eInt) (z := x1) (hO₆.rd0 s_c_X.rd : Sl eInt (k₃.bump 21) v_c_X c.X) rfl rfl c₁) ?_
        refine WD_v (a_ldE (w := .i .i64 (gi c.X (x1 : Int).toNat)) (hO₆.rd0 s_c_X.rd : Sl eInt (k₃.bump 21) v_c_X c.X) rfl (toNat_lt c₁) rfl) ?_
        obtain ⟨c₂, hp⟩ := ck_some hp
        refine WD_v (a_ixa (E := eInt) (z := (gi c.X (x1 : Int).toNat)) (hO₆.rd0 s_x.rd : Sl eInt (k₃.bump 21) v_x x) rfl rfl c₂) ?_
        refine WD_v (a_ldE (w := .i .i64 (gi x (gi c.X (x1 : Int).toNat : Int).toNat)) (hO₆.rd0 s_x.rd : Sl eInt (k₃.bump 21) v_x x) rfl (toNat_lt c₂) rfl) ?_
        refine WD_v (a_mv (v := v_y) q₂_2) ?_
        refine WD_v (a_fa (r := r₁) (o := 0) (o' := 1) q₂_3 rfl) ?_
        refine WD_v (a_ldb (cs := [v_c_X, v_c_Y, v_c_Vert, v_c_Horz]) (v := v_c_Y) (hO₆.box 0 rfl) rfl rfl) ?_
        refine WD_v (a_mv (v := .i .i64 x1) rfl) ?_
        obtain ⟨c₃, hp⟩ := ck_some hp
        refine WD_v (a_ixa (E := eInt) (z := x1) (hO₆.rd0 s_c_Y.rd : Sl eInt (k₃.bump 21) v_c_Y c.Y) rfl rfl c₃) ?_
        refine WD_v (a_ldE (w := .i .i64 (gi c.Y (x1 : Int).toNat)) (hO₆.rd0 s_c_Y.rd : Sl eInt (k₃.bump 21) v_c_Y c.Y) rfl (toNat_lt c₃) rfl) ?_
        obtain ⟨c₄, hp⟩ := ck_some hp
        refine WD_v (a_ixa (E := eInt) (z := (gi c.Y (x1 : Int).toNat)) (hO₆.rd0 s_y.rd : Sl eInt (k₃.bump 21) v_y y) rfl rfl c₄) ?_
        refine WD_v (a_ldE (w := .i .i64 (gi y (gi c.Y (x1 : Int).toNat : Int).toNat)) (hO₆.rd0 s_y.rd : Sl eInt (k₃.bump 21) v_y y) rfl (toNat_lt c₄) rfl) ?_
        refine WD_v (a_build (cs := e_T_api_Point.c (⟨gi x (gi c.X (x1 : Int).toNat : Int).toNat, gi y (gi c.Y (x1 : Int).toNat : Int).toNat⟩ : T_api_Point)) (by rw [(ev_cons (v := .i .i64 (gi x (gi c.X (x1 : Int).toNat : Int).toNat)) rfl (ev_cons (v := .i .i64 (gi y (gi c.Y (x1 : Int).toNat : Int).toNat)) rfl ev_nil))]; rfl)) ?_
        refine WD_x (hO₆.bsl (E := e_T_api_Point) (l := [(⟨gi x (gi c.X (x1 : Int).toNat : Int).toNat, gi y (gi c.Y (x1 : Int).toNat : Int).toNat⟩ : T_api_Point)]) ⟨fr₁.m 18 (by decide) (by decide), nb₁⟩ (by rw [(ev_cons (v := .ag (e_T_api_Point.c (⟨gi x (gi c.X (x1 : Int).toNat : Int).toNat, gi y (gi c.Y (x1 : Int).toNat : Int).toNat⟩ : T_api_Point))) rfl ev_nil)]; rfl) rfl) ?_
        rintro v₄ k₅ z₁ ⟨r₂, f₂, hW⟩
        have fr₂ := fr₁.kept f₂ (by decide)
        have hO₇ : Own B h k₅ [eBox r₁ [v_c_X, v_c_Y, v_c_Vert, v_c_Horz], eSl e_T_api_Point v₂ l, eSl e_T_api_Point v₄ [(⟨gi x (gi c.X (x1 : Int).toNat : Int).toNat, gi y (gi c.Y (x1 : Int).toNat : Int).toNat⟩ : T_api_Point)]] := hW
        obtain ⟨c₅, hp⟩ := ck_some hp
        refine WD_x (hO₇.app (E := e_T_api_Point) (bytes := 16) 1 ⟨fr₂.m 19 (by decide) (by decide), nb₁⟩ rfl (hO₇.sl 2 rfl : Sl e_T_api_Point k₅ v₄ [(⟨gi x (gi c.X (x1 : Int).toNat : Int).toNat, gi y (gi c.Y (x1 : Int).toNat : Int).toNat⟩ : T_api_Point)]) rfl rfl (fun _ => rfl) c₅ (by decide)) ?_
        rintro v₅ k₆ z₂ ⟨f₃, hW⟩
        have fr₃ := fr₂.kept f₃ (by decide)
        have hO₈ : Own B h k₆ [eBox r₁ [v_c_X, v_c_Y, v_c_Vert, v_c_Horz], eSl e_T_api_Point v₅ (l ++ [(⟨gi x (gi c.X (x1 : Int).toNat : Int).toNat, gi y (gi c.Y (x1 : Int).toNat : Int).toNat⟩ : T_api_Point)]), eSl e_T_api_Point v₄ [(⟨gi x (gi c.X (x1 : Int).toNat : Int).toNat, gi y (gi c.Y (x1 : Int).toNat : Int).toNat⟩ : T_api_Point)]] := hW
        refine WD_v (a_mv (v := v₅) rfl) ?_
        refine WD_end ?_
        refine And.intro ?_ ?_
        · intro q hq
          simp only [List.mem_cons, List.not_mem_nil, or_false] at hq
          rcases hq with rfl | rfl | rfl | rfl | rfl | rfl | rfl | rfl | rfl
          · refine ap_ll ?_ ?_
            · exact (fun h => nomatch h)
            · exact (fun h => nomatch h)
          · refine ap_ll ?_ ?_
            · exact (fun h => nomatch h)
            · exact (fun h => nomatch h)
          · refine ap_ll ?_ ?_
            · exact (fun h => nomatch h)
            · exact (fun h => nomatch h)
          · refine ap_ll ?_ ?_
            · exact (fun h => nomatch h)
            · exact (fun h => nomatch h)
          · refine ap_ll ?_ ?_
            · exact (fun h => nomatch h)
            · exact (fun h => nomatch h)
          · refine ap_ll ?_ ?_
            · exact (fun h => nomatch h)
            · exact (fun h => nomatch h)
          · refine ap_ll ?_ ?_
            · exact (fun h => nomatch h)
            · exact (fun h => nomatch h)
          · refine ap_ll ?_ ?_
            · exact (fun h => nomatch h)
            · exact (fun h => nomatch h)
          · refine ap_ll ?_ ?_
            · exact (fun h => nomatch h)
            · exact (fun h => nomatch h)
        refine blk_n ?_
        refine then_n ?_
        refine W_rg ?_
        obtain ⟨c₆, hp⟩ := ck_some hp
        refine WO_v (a_add (a := x1) (b := 1) q₂_27 rfl c₆) ?_
        refine WO_v (a_mv (v := .i .i64 (x1 + 1)) rfl) ?_
        refine WO_end ?_
        have hp := Option.some.inj hp; subst hp
        exact (Or.inl (Exists.intro (l ++ [(⟨gi x (gi c.X (x1 : Int).toNat : Int).toNat, gi y (gi c.Y (x1 : Int).toNat : Int).toNat⟩ : T_api_Point)], x1 + 1) (And.intro rfl (And.intro rfl (Exists.intro v₅ (And.intro (q₂_1) (And.intro (q₂_2) (And.intro (q₂_3) (And.intro (rfl) (And.intro (q₂_26) (And.intro (rfl) (hO₈.pick [0, 1] rfl (by decide)))))))))))))
      · refine W_cF (t := (decide (x1 < (c.X.length : Int)))) rfl b₃ ?_
        refine W_ex ?_
        refine then_e ?_
        have hp := Option.some.inj hp; subst hp
        refine (Or.inr (Exists.intro l (And.intro rfl (And.intro (fun h => nomatch h) (fun he => ?_)))))
        subst he; exact (And.intro rfl (Exists.intro v₂ (And.intro (q₂_8) (hO₅.pick [1] rfl (by decide)))))
    intro e₁ q₁ k₂ hJ₁
    obtain ⟨l1, rfl⟩ : ∃ x, x = o₁ := ⟨_, rfl⟩
    obtain ⟨rfl, v₃, q₁_8, hO₃⟩ := hJ₁
    refine blk_i ?_
    refine then_n ?_
    refine W_sq ?_
    refine W_rg ?_
    refine WO_v (a_mv (v := v₃) q₁_8) ?_
    refine WO_v (a_mv (v := v₃) rfl) ?_
    refine WO_v (a_mv (v := .i .i64 0) rfl) ?_
    refine WO_end ?_
    refine then_n ?_
    refine W_rt ?_
    refine Ret_r (rs_t (n := 6) (v := v₃) rfl (rs_t (n := 7) (v := .i .i64 0) rfl rs_nil)) ?_
    have hp := Option.some.inj hp; subst hp
    exact (Exists.intro v₃ (And.intro rfl (hO₃.pick [0] rfl (by decide))))

theorem p_slices_IndexFunc_api_Point.ok {h : Hp} {s : List T_api_Point} {f : T_api_Point → Option Bool} {v_s : V} {id_f : Nat} {cap_f : List V} (s_s : Sl e_T_api_Point h v_s s) (f_f : ∀ (k : Hp) (x0 : T_api_Point) (y : Bool), Ex' (fun r => r < h.n) h k → f x0 = some y → ∃ u k', Is G id_f (.ag (e_T_api_Point.c x0) :: cap_f) k u k' ∧ V.b y = u ∧ Own (fun r => r < k.n) k k' []) {r : Int} (hp : p_slices_IndexFunc_api_Point s f = some r) :
    ∃ u k', Is G 151 [v_s, .f id_f cap_f] h u k' ∧ V.i .i64 r = u ∧ Own (fun r => r < h.n) h k' [] := by
  refine WC.is (WC_of G_F_slices_IndexFunc_api_Point ?_)
  unfold p_slices_IndexFunc_api_Point at hp
  let B : Nat → Prop := (fun r => r < h.n)
  have hO : Own B h h [] := Own.start0 h
  refine W_sq ?_
  refine W_rg ?_
  refine WO_v (a_mv (v := .i .i64 0) rfl) ?_
  refine WO_end ?_
  refine then_n ?_
  refine W_sq ?_
  refine W_sq ?_
  refine W_rg ?_
  refine WO_v (a_mv (v := v_s) rfl) ?_
  refine WO_v (a_len (hO.rd0 s_s.rd : Sl e_T_api_Point h v_s s) rfl) ?_
  refine WO_v (a_mv (v := .i .i64 0) rfl) ?_
  refine WO_end ?_
  refine then_n ?_
  refine W_bl ?_
  obtain ⟨o₁, ho₁, hp⟩ := bd_some hp
  refine W.mono (Q := fun e fr k => match (generalizing := false) o₁ with
      | .inl _ => e = (.exit 0) ∧ Own B h k []
      | .inr x1 => e = .ret ∧ fr 4 = .i .i64 x1 ∧ Own B h k []) ?_ ?_
  · clear hp
    refine W_loopF (fun st fr k => match st with | x => fr 0 = v_s ∧ fr 1 = .f id_f cap_f ∧ fr 7 = .i .i64 (s.length : Int) ∧ fr 8 = .i .i64 x ∧ Own B h k []) ho₁ (s := 0) (And.intro (rfl) (And.intro (rfl) (And.intro (rfl) (And.intro (rfl) (hO.pick [] rfl (by decide)))))) ?_
    rintro x q₂ k₂ ⟨q₂_0, q₂_1, q₂_7, q₂_8, hO₂⟩ o₂ hp
    dsimp only [p_slices_IndexFunc_api_Point.s0] at hp
    refine W_sq ?_
    refine W_rg ?_
    refine WO_v (a_lss (a := x) (b := (s.length : Int)) q₂_8 q₂_7) ?_
    refine WO_end ?_
    refine then_n ?_
    refine W_sq ?_
    rcases if_some hp with ⟨b₁, hp⟩ | ⟨b₁, hp⟩
    · refine W_cT (t := (decide (x < (s.length : Int)))) rfl b₁ ?_
      refine W_sk ?_
      refine then_n ?_
      refine W_sq ?_
      refine W_bl ?_
      refine W_sq ?_
      refine W_rg ?_
      refine WO_v (a_mv (v := .i .i64 x) q₂_8) ?_
      refine WO_v (a_mv (v := .i .i64 x) rfl) ?_
      refine WO_end ?_
      refine then_n ?_
      refine W_sq ?_
      refine W_rg ?_
      refine WO_v (a_mv (v := .f id_f cap_f) q₂_1) ?_
      refine WO_v (a_mv (v := v_s) q₂_0) ?_
      refine WO_v (a_mv (v := .i .i64 x) rfl) ?_
      obtain ⟨c₁, hp⟩ := ck_some hp
      refine WO_v (a_ixa (E := e_T_api_Point) (z := x) (hO₂.rd0 s_s.rd : Sl e_T_api_Point k₂ v_s s) rfl rfl c₁) ?_
      refine WO_v (a_ldA (E := e_T_api_Point) (hO₂.rd0 s_s.rd : Sl e_T_api_Point k₂ v_s s) rfl (toNat_lt c₁)) ?_
      obtain ⟨x2, hx₁, hp⟩ := bd_some hp
      obtain ⟨u₁, k₃, ca₁, rfl, hW₁⟩ := f_f _ _ _ hO₂.ext hx₁
      refine WO_c (id := id_f) (caps := cap_f) rfl (mp_cons (v := .ag (e_T_api_Point.c (gi s (x : Int).toNat))) rfl mp_nil) ca₁ ?_
      have hO₃ : Own B h k₃ [] := hO₂.call hW₁ rfl
      refine WO_end ?_
      refine then_n ?_
      rcases if_some hp with ⟨b₂, hp⟩ | ⟨b₂, hp⟩
      · refine W_cT (t := x2) rfl b₂ ?_
        refine W_sq ?_
        refine W_rg ?_
        refine WO_v (a_mv (v := .i .i64 x) rfl) ?_
        refine WO_v (a_mv (v := .i .i64 x) rfl) ?_
        refine WO_end ?_
        refine then_n ?_
        refine W_rt ?_
        refine blk_r ?_
        refine then_r ?_
        have hp := Option.some.inj hp; subst hp
        refine (Or.inr (Exists.intro (.inr x) (And.intro rfl (And.intro (fun h => nomatch h) (fun he => ?_)))))
        subst he; exact (And.intro rfl (And.intro (rfl) (hO₃.pick [] rfl (by decide))))
      · refine W_cF (t := x2) rfl b₂ ?_
        refine W_sk ?_
        refine blk_n ?_
        refine then_n ?_
        refine W_rg ?_
        obtain ⟨c₂, hp⟩ := ck_some hp
        refine WO_v (a_add (a := x) (b := 1) q₂_8 rfl c₂) ?_
        refine WO_v (a_mv (v := .i .i64 (x + 1)) rfl) ?_
        refine WO_end ?_
        have hp := Option.some.inj hp; subst hp
        exact (Or.inl (Exists.intro (x + 1) (And.intro rfl (And.intro rfl (And.intro (q₂_0) (And.intro (q₂_1) (And.intro (q₂_7) (And.intro (rfl) (hO₃.pick [] rfl (by decide))))))))))
    · refine W_cF (t := (decide (x < (s.length : Int)))) rfl b₁ ?_
      refine W_ex ?_
      refine then_e ?_
      have hp := Option.some.inj hp; subst hp
      refine (Or.inr (Exists.intro (.inl ()) (And.intro rfl (And.intro (fun h => nomatch h) (fun he => ?_)))))
      subst he; exact (And.intro rfl (hO₂.pick [] rfl (by decide)))
  intro e₁ q₁ k₁ hJ₁
  rcases o₁ with _ | x1
  · obtain ⟨rfl, hO₁⟩ := hJ₁
    refine blk_i ?_
    refine then_n ?_
    refine W_sq ?_
    refine W_rg ?_
    refine WO_v (a_mv (v := .i .i64 (-1)) rfl) ?_
    refine WO_end ?_
    refine then_n ?_
    refine W_rt ?_
    refine Ret_r (rs_t (n := 4) (v := .i .i64 (-1)) rfl rs_nil) ?_
    have hp := Option.some.inj hp; subst hp
    exact (And.intro rfl (hO₁.pick [] rfl (by decide)))
  · obtain ⟨rfl, q₁_4, hO₁⟩ := hJ₁
    refine blk_r ?_
    refine then_r ?_
    refine Ret_r (rs_t (n := 4) (v := .i .i64 x1) q₁_4 rs_nil) ?_
    have hp := Option.some.inj hp; subst hp
    exact (And.intro rfl (hO₁.pick [] rfl (by decide)))

theorem p_slices_ContainsFunc_api_Point.ok {h : Hp} {s : List T_api_Point} {f : T_api_Point → Option Bool} {v_s : V} {id_f : Nat} {cap_f : List V} (s_s : Sl e_T_api_Point h v_s s) (f_f : ∀ (k : Hp) (x0 : T_api_Point) (y : Bool), Ex' (fun r => r < h.n) h k → f x0 = some y → ∃ u k', Is G id_f (.ag (e_T_api_Point.c x0) :: cap_f) k u k' ∧ V.b y = u ∧ Own (fun r => r < k.n) k k' []) {r : Bool} (hp : p_slices_ContainsFunc_api_Point s f = some r) :
    ∃ u k', Is G 146 [v_s, .f id_f cap_f] h u k' ∧ V.b r = u ∧ Own (fun r => r < h.n) h k' [] := by
  refine WC.is (WC_of G_F_slices_ContainsFunc_api_Point ?_)
  unfold p_slices_ContainsFunc_api_Point at hp
  let B : Nat → Prop := (fun r => r < h.n)
  have hO : Own B h h [] := Own.start0 h
  refine W_sq ?_
  refine W_rg ?_
  refine WO_v (a_mv (v := .b false) rfl) ?_
  refine WO_end ?_
  refine then_n ?_
  refine W_sq ?_
  refine W_rg ?_
  refine WO_v (a_mv (v := v_s) rfl) ?_
  refine WO_v (a_mv (v := .f id_f cap_f) rfl) ?_
  obtain ⟨x, hx₁, hp⟩ := bd_some hp
  obtain ⟨u₁, k₁, ca₁, rfl, hW₁⟩ := p_slices_IndexFunc_api_Point.ok (h := h)  (hO.rd0 s_s.rd : Sl e_T_api_Point h v_s s) (fun k z0 y hk hx => f_f k z0 y (exTo hO hk) hx) hx₁
  refine WO_c (id := 151) (caps := []) rfl (mp_cons (v := v_s) rfl (mp_cons (v := .f id_f cap_f) rfl mp_nil)) ca₁ ?_
  have hO₁ : Own B h k₁ [] := hO.call hW₁ rfl
  refine WO_v (a_geq (a := x) (b := 0) rfl rfl) ?_
  refine WO_v (a_mv (v := .b (decide (0 ≤ x))) rfl) ?_
  refine WO_end ?_
  refine then_n ?_
  refine W_rt ?_
  refine Ret_r (rs_t (n := 4) (v := .b (decide (0 ≤ x))) rfl rs_nil) ?_
  have hp := Option.some.inj hp; subst hp
  exact (And.intro rfl (hO₁.pick [] rfl (by decide)))

theorem p_arcs_far.ok {h : Hp} {p : T_api_Point}   {r : Bool} (hp : p_arcs_far p = some r) :
    ∃ u k', Is G 147 [.ag (e_T_api_Point.c p)] h u k' ∧ V.b r = u ∧ Own (fun r => r < h.n) h k' [] := by
  refine WC.is (WC_of G_F_arcs_far ?_)
  unfold p_arcs_far at hp
  let B : Nat → Prop := (fun r => r < h.n)
  have hO : Own B h h [] := Own.start0 h
  refine W_sq ?_
  refine W_rg ?_
  refine WO_x (hO.boxd (v := .ag (e_T_api_Point.c p)) (cs := e_T_api_Point.c p) hO.fr rfl rfl) ?_
  rintro _ k₁ ⟨r₁, rfl, n₁, f₁, hW⟩
  have hO₁ : Own B h k₁ [eBox r₁ (e_T_api_Point.c p)] := hW
  refine WO_v (a_mv (v := .b false) rfl) ?_
  refine WO_end ?_
  refine then_n ?_
  refine W_sq ?_
  refine W_rg ?_
  refine WO_v (a_fa (r := r₁) (o := 0) (o' := 0) rfl rfl) ?_
  refine WO_v (a_ldb (cs := (e_T_api_Point.c p)) (v := .i .i64 p.X) (hO₁.box 0 rfl) rfl rfl) ?_
  refine WO_v (a_fa (r := r₁) (o := 0) (o' := 1) rfl rfl) ?_
  refine WO_v (a_ldb (cs := (e_T_api_Point.c p)) (v := .i .i64 p.Y) (hO₁.box 0 rfl) rfl rfl) ?_
  refine WO_v (a_mx (a := p.X) (b := p.Y) rfl rfl) ?_
  refine WO_v (a_gtr (a := (max p.X p.Y)) (b := 1000000) rfl rfl) ?_
  refine WO_v (a_mv (v := .b (decide (1000000 < (max p.X p.Y)))) rfl) ?_
  refine WO_cut 7 (fun fr' k' => k₁ = k' ∧ fr' 16 = .b ((decide (1000000 < (max p.X p.Y))) || (decide ((min p.X p.Y) < (-1000000))))) ?_ ?_
  · rcases bc (decide (1000000 < (max p.X p.Y))) with b₁ | b₁
    · skip
      refine WO_off rfl b₁ ?_
      refine WO_off rfl b₁ ?_
      refine WO_off rfl b₁ ?_
      refine WO_off rfl b₁ ?_
      refine WO_off rfl b₁ ?_
      refine WO_off rfl b₁ ?_
      refine WO_v (a_pickT (t := (decide (1000000 < (max p.X p.Y)))) (v := .b ((decide (1000000 < (max p.X p.Y))) || (decide ((min p.X p.Y) < (-1000000))))) rfl b₁ (Eq.trans (b := V.b true) rfl (or_off b₁))) ?_
      refine WO_end ?_
      exact ⟨rfl, rfl⟩
    · skip
      refine WO_on rfl b₁ ?_
      refine WO_v (a_fa (r := r₁) (o := 0) (o' := 0) rfl rfl) ?_
      refine WO_on rfl b₁ ?_
      refine WO_v (a_ldb (cs := (e_T_api_Point.c p)) (v := .i .i64 p.X) (hO₁.box 0 rfl) rfl rfl) ?_
      refine WO_on rfl b₁ ?_
      refine WO_v (a_fa (r := r₁) (o := 0) (o' := 1) rfl rfl) ?_
      refine WO_on rfl b₁ ?_
      refine WO_v (a_ldb (cs := (e_T_api_Point.c p)) (v := .i .i64 p.Y) (hO₁.box 0 rfl) rfl rfl) ?_
      refine WO_on rfl b₁ ?_
      refine WO_v (a_mn (a := p.X) (b := p.Y) rfl rfl) ?_
      refine WO_on rfl b₁ ?_
      refine WO_v (a_lss (a := (min p.X p.Y)) (b := (-1000000)) rfl rfl) ?_
      refine WO_v (a_pickF (t := (decide (1000000 < (max p.X p.Y)))) (v := .b ((decide (1000000 < (max p.X p.Y))) || (decide ((min p.X p.Y) < (-1000000))))) rfl b₁ (Eq.trans (b := V.b (decide ((min p.X p.Y) < (-1000000)))) rfl (or_on b₁))) ?_
      refine WO_end ?_
      exact ⟨rfl, rfl⟩
  rintro frg₁ _ ⟨rfl, g₁_16⟩
  refine WO_v (a_mv (v := .b ((decide (1000000 < (max p.X p.Y))) || (decide ((min p.X p.Y) < (-1000000))))) g₁_16) ?_
  refine WO_end ?_
  refine then_n ?_
  refine W_rt ?_
  refine Ret_r (rs_t (n := 2) (v := .b ((decide (1000000 < (max p.X p.Y))) || (decide ((min p.X p.Y) < (-1000000))))) rfl rs_nil) ?_
  have hp := Option.some.inj hp; subst hp
  exact (And.intro rfl (hO₁.pick [] rfl (by decide)))

theorem p_compass_Between.ok {h : Hp} {a : T_api_Point} {b : T_api_Point}   {r : Int × Bool} (hp : p_compass_Between a b = some r) :
    ∃ u k', Is G 148 [.ag (e_T_api_Point.c a), .ag (e_T_api_Point.c b)] h u k' ∧ V.tu [.i .i64 r.1, .b r.2] = u ∧ Own (fun r => r < h.n) h k' [] := by
  refine WC.is (WC_of G_F_compass_Between ?_)
  unfold p_compass_Between at hp
  let B : Nat → Prop := (fun r => r < h.n)
  have hO : Own B h h [] := Own.start0 h
  refine W_sq ?_
  refine W_rg ?_
  refine WO_x (hO.boxd (v := .ag (e_T_api_Point.c a)) (cs := e_T_api_Point.c a) hO.fr rfl rfl) ?_
  rintro _ k₁ ⟨r₁, rfl, n₁, f₁, hW⟩
  have hO₁ : Own B h k₁ [eBox r₁ (e_T_api_Point.c a)] := hW
  refine WO_x (hO₁.boxd (v := .ag (e_T_api_Point.c b)) (cs := e_T_api_Point.c b) hO₁.fr rfl rfl) ?_
  rintro _ k₂ ⟨r₂, rfl, n₂, f₂, hW⟩
  have hO₂ : Own B h k₂ [eBox r₁ (e_T_api_Point.c a), eBox r₂ (e_T_api_Point.c b)] := hW
  refine WO_v (a_mv (v := .i .i64 0) rfl) ?_
  refine WO_v (a_mv (v := .b false) rfl) ?_
  refine WO_end ?_
  refine then_n ?_
  refine W_sq ?_
  refine W_bl ?_
  refine W_sq ?_
  refine W_rg ?_
  refine WO_v (a_fa (r := r₁) (o := 0) (o' := 0) rfl rfl) ?_
  refine WO_v (a_ldb (cs := (e_T_api_Point.c a)) (v := .i .i64 a.X) (hO₂.box 0 rfl) rfl rfl) ?_
  refine WO_v (a_fa (r := r₂) (o := 0) (o' := 0) rfl rfl) ?_
  refine WO_v (a_ldb (cs := (e_T_api_Point.c b)) (v := .i .i64 b.X) (hO₂.box 1 rfl) rfl rfl) ?_
  refine WO_v (a_eqI (a := a.X) (b := b.X) rfl rfl) ?_
  refine WO_v (a_fa (r := r₁) (o := 0) (o' := 1) rfl rfl) ?_
  refine WO_v (a_ldb (cs := (e_T_api_Point.c a)) (v := .i .i64 a.Y) (hO₂.box 0 rfl) rfl rfl) ?_
  refine WO_v (a_fa (r := r₂) (o := 0) (o' := 1) rfl rfl) ?_
  refine WO_v (a_ldb (cs := (e_T_api_Point.c b)) (v := .i .i64 b.Y) (hO₂.box 1 rfl) rfl rfl) ?_
  refine WO_v (a_eqI (a := a.Y) (b := b.Y) rfl rfl) ?_
  refine WO_v (a_eqB (a := (decide (a.X = b.X))) (b := (decide (a.Y = b.Y))) rfl rfl) ?_
  refine WO_v (a_mv (v := .b (decide ((decide (a.X = b.X)) = (decide (a.Y = b.Y))))) rfl) ?_
  refine WO_end ?_
  refine then_n ?_
  rcases if_some hp with ⟨b₁, hp⟩ | ⟨b₁, hp⟩
  · refine W_cT (t := (decide ((decide (a.X = b.X)) = (decide (a.Y = b.Y))))) rfl b₁ ?_
    refine W_sq ?_
    refine W_rg ?_
    refine WO_v (a_mv (v := .i .i64 0) rfl) ?_
    refine WO_v (a_mv (v := .b false) rfl) ?_
    refine WO_end ?_
    refine then_n ?_
    refine W_rt ?_
    refine blk_r ?_
    refine then_r ?_
    refine Ret_r (rs_t (n := 4) (v := .i .i64 0) rfl (rs_t (n := 5) (v := .b false) rfl rs_nil)) ?_
    have hp := Option.some.inj hp; subst hp
    exact (And.intro rfl (hO₂.pick [] rfl (by decide)))
  · refine W_cF (t := (decide ((decide (a.X = b.X)) = (decide (a.Y = b.Y))))) rfl b₁ ?_
    refine W_sq ?_
    refine W_rg ?_
    refine WO_v (a_fa (r := r₁) (o := 0) (o' := 0) rfl rfl) ?_
    refine WO_v (a_ldb (cs := (e_T_api_Point.c a)) (v := .i .i64 a.X) (hO₂.box 0 rfl) rfl rfl) ?_
    refine WO_v (a_fa (r := r₂) (o := 0) (o' := 0) rfl rfl) ?_
    refine WO_v (a_ldb (cs := (e_T_api_Point.c b)) (v := .i .i64 b.X) (hO₂.box 1 rfl) rfl rfl) ?_
    refine WO_v (a_lss (a := a.X) (b := b.X) rfl rfl) ?_
    refine WO_v (a_mv (v := .b (decide (a.X < b.X))) rfl) ?_
    refine WO_end ?_
    refine then_n ?_
    rcases if_some hp with ⟨b₂, hp⟩ | ⟨b₂, hp⟩
    · refine W_cT (t := (decide (a.X < b.X))) rfl b₂ ?_
      refine W_sq ?_
      refine W_rg ?_
      refine WO_v (a_mv (v := .i .i64 0) rfl) ?_
      refine WO_v (a_mv (v := .b true) rfl) ?_
      refine WO_end ?_
      refine then_n ?_
      refine W_rt ?_
      refine blk_r ?_
      refine then_r ?_
      refine Ret_r (rs_t (n := 4) (v := .i .i64 0) rfl (rs_t (n := 5) (v := .b true) rfl rs_nil)) ?_
      have hp := Option.some.inj hp; subst hp
      exact (And.intro rfl (hO₂.pick [] rfl (by decide)))
    · refine W_cF (t := (decide (a.X < b.X))) rfl b₂ ?_
      refine W_sq ?_
      refine W_rg ?_
      refine WO_v (a_fa (r := r₁) (o := 0) (o' := 0) rfl rfl) ?_
      refine WO_v (a_ldb (cs := (e_T_api_Point.c a)) (v := .i .i64 a.X) (hO₂.box 0 rfl) rfl rfl) ?_
      refine WO_v (a_fa (r := r₂) (o := 0) (o' := 0) rfl rfl) ?_
      refine WO_v (a_ldb (cs := (e_T_api_Point.c b)) (v := .i .i64 b.X) (hO₂.box 1 rfl) rfl rfl) ?_
      refine WO_v (a_gtr (a := a.X) (b := b.X) rfl rfl) ?_
      refine WO_v (a_mv (v := .b (decide (b.X < a.X))) rfl) ?_
      refine WO_end ?_
      refine then_n ?_
      rcases if_some hp with ⟨b₃, hp⟩ | ⟨b₃, hp⟩
      · refine W_cT (t := (decide (b.X < a.X))) rfl b₃ ?_
        refine W_sq ?_
        refine W_rg ?_
        refine WO_v (a_mv (v := .i .i64 2) rfl) ?_
        refine WO_v (a_mv (v := .b true) rfl) ?_
        refine WO_end ?_
        refine then_n ?_
        refine W_rt ?_
        refine blk_r ?_
        refine then_r ?_
        refine Ret_r (rs_t (n := 4) (v := .i .i64 2) rfl (rs_t (n := 5) (v := .b true) rfl rs_nil)) ?_
        have hp := Option.some.inj hp; subst hp
        exact (And.intro rfl (hO₂.pick [] rfl (by decide)))
      · refine W_cF (t := (decide (b.X < a.X))) rfl b₃ ?_
        refine W_sq ?_
        refine W_rg ?_
        refine WO_v (a_fa (r := r₁) (o := 0) (o' := 1) rfl rfl) ?_
        refine WO_v (a_ldb (cs := (e_T_api_Point.c a)) (v := .i .i64 a.Y) (hO₂.box 0 rfl) rfl rfl) ?_
        refine WO_v (a_fa (r := r₂) (o := 0) (o' := 1) rfl rfl) ?_
        refine WO_v (a_ldb (cs := (e_T_api_Point.c b)) (v := .i .i64 b.Y) (hO₂.box 1 rfl) rfl rfl) ?_
        refine WO_v (a_lss (a := a.Y) (b := b.Y) rfl rfl) ?_
        refine WO_v (a_mv (v := .b (decide (a.Y < b.Y))) rfl) ?_
        refine WO_end ?_
        refine then_n ?_
        rcases if_some hp with ⟨b₄, hp⟩ | ⟨b₄, hp⟩
        · refine W_cT (t := (decide (a.Y < b.Y))) rfl b₄ ?_
          refine W_sq ?_
          refine W_rg ?_
          refine WO_v (a_mv (v := .i .i64 1) rfl) ?_
          refine WO_v (a_mv (v := .b true) rfl) ?_
          refine WO_end ?_
          refine then_n ?_
          refine W_rt ?_
          refine blk_r ?_
          refine then_r ?_
          refine Ret_r (rs_t (n := 4) (v := .i .i64 1) rfl (rs_t (n := 5) (v := .b true) rfl rs_nil)) ?_
          have hp := Option.some.inj hp; subst hp
          exact (And.intro rfl (hO₂.pick [] rfl (by decide)))
        · refine W_cF (t := (decide (a.Y < b.Y))) rfl b₄ ?_
          refine W_sk ?_
          refine blk_n ?_
          refine then_n ?_
          refine W_sq ?_
          refine W_rg ?_
          refine WO_v (a_mv (v := .i .i64 3) rfl) ?_
          refine WO_v (a_mv (v := .b true) rfl) ?_
          refine WO_end ?_
          refine then_n ?_
          refine W_rt ?_
          refine Ret_r (rs_t (n := 4) (v := .i .i64 3) rfl (rs_t (n := 5) (v := .b true) rfl rs_nil)) ?_
          have hp := Option.some.inj hp; subst hp
          exact (And.intro rfl (hO₂.pick [] rfl (by decide)))

end Mu
