/- The code comes to what was worked out. -/
import Derived.Test.YteedifiifkghkaaMuDf
import Derived.Test.YteedifiifkghkaaMuPa
set_option linter.unusedVariables false
set_option linter.unnecessarySimpa false
set_option linter.unusedSimpArgs false
set_option maxHeartbeats 2000000
set_option maxRecDepth 10000
namespace Mu
open Go (IntKind BinOp UnOp)

theorem dec_i8 (cs : List Go.Value) (h : OkL [some .i8] cs) : ∃ x : Int, e_i8.c x = cs.map toV ∧ Ok_i8 x := by
  obtain ⟨n0, cs0, rfl, w0, h⟩ := h.inv_i
  obtain rfl := h.inv_n
  exact ⟨n0, rfl, w0⟩
theorem dec_T_kitty_Corner (cs : List Go.Value) (h : OkL [some .i64, some .i64] cs) : ∃ x : T_kitty_Corner, e_T_kitty_Corner.c x = cs.map toV ∧ Ok_T_kitty_Corner x := by
  obtain ⟨n0, cs0, rfl, w0, h⟩ := h.inv_i
  obtain ⟨n1, cs1, rfl, w1, h⟩ := h.inv_i
  obtain rfl := h.inv_n
  exact ⟨⟨n0, n1⟩, rfl, ⟨w0, w1⟩⟩
theorem p_muntinlaw15_turns.ok {h : Hp} {l : List Int} {odd : Bool} {v_l : V} (s_l : Sl e_i8 h v_l l) {r : (List Int)} (hp : p_muntinlaw15_turns l odd = some r) :
    ∃ u k', Is G 18 [v_l, .b odd] h u k' ∧ ∃ (v₁ : V), v₁ = u ∧ Own (fun r => r < h.n) h k' [eSl eInt v₁ r] := by
  refine WC.is (WC_of G_F_muntinlaw15_turns ?_)
  unfold p_muntinlaw15_turns at hp
  let B : Nat → Prop := (fun r => r < h.n)
  have hO : Own B h h [] := Own.start0 h
  refine W_sq ?_
  refine W_rg ?_
  refine WO_v (a_mv (v := .sn) rfl) ?_
  refine WO_end ?_
  refine then_n ?_
  refine W_sq ?_
  refine W_rg ?_
  refine WO_v (a_mv (v := .sn) rfl) ?_
  refine WO_end ?_
  refine then_n ?_
  refine W_sq ?_
  refine W_sq ?_
  refine W_rg ?_
  refine WO_v (a_mv (v := v_l) rfl) ?_
  refine WO_v (a_mv (v := v_l) rfl) ?_
  refine WO_v (a_len (hO.rd0 s_l.rd : Sl e_i8 h v_l l) rfl) ?_
  refine WO_v (a_mn (a := (l.length : Int)) (b := 30) rfl rfl) ?_
  obtain ⟨c₁, hp⟩ := ck_some hp
  refine WO_v (a_slcU (E := e_i8) (z := (min (l.length : Int) 30)) (hO.rd0 s_l.rd : Sl e_i8 h v_l l) rfl rfl c₁) ?_
  refine WO_v (a_len (Sl.cutU (hO.rd0 s_l.rd : Sl e_i8 h v_l l) c₁ : Sl e_i8 h (V.cut v_l 0 (min (l.length : Int) 30 : Int).toNat) (l.take (min (l.length : Int) 30 : Int).toNat)) rfl) ?_
  refine WO_v (a_mv (v := .i .i64 0) rfl) ?_
  refine WO_end ?_
  refine then_n ?_
  refine W_bl ?_
  obtain ⟨o₁, ho₁, hp⟩ := bd_some hp
  refine W.mono (Q := fun e fr k => match (generalizing := false) o₁ with
      | out1 => e = (.exit 0) ∧ ∃ (v₃ : V), fr 5 = v₃ ∧ Own B h k [eSl eInt v₃ out1]) ?_ ?_
  · clear hp
    have hO₂ : Own B h h [eSl eInt .sn ([] : List Int)] := hO.nil eInt
    refine W_loopF (fun st fr k => match st with | (out, x) => ∃ (v₂ : V), fr 1 = .b odd ∧ fr 5 = v₂ ∧ fr 13 = (V.cut v_l 0 (min (l.length : Int) 30 : Int).toNat) ∧ fr 14 = .i .i64 ((l.take (min (l.length : Int) 30 : Int).toNat).length : Int) ∧ fr 15 = .i .i64 x ∧ Own B h k [eSl eInt v₂ out]) ho₁ (s := (([] : List Int), 0)) (Exists.intro V.sn (And.intro (rfl) (And.intro (rfl) (And.intro (rfl) (And.intro (rfl) (And.intro (rfl) (hO₂.pick [0] rfl (by decide)))))))) ?_
    rintro ⟨out, x⟩ q₂ k₂ ⟨v₂, q₂_1, q₂_5, q₂_13, q₂_14, q₂_15, hO₃⟩ o₂ hp
    dsimp only [p_muntinlaw15_turns.s0] at hp
    refine W_sq ?_
    refine W_rg ?_
    refine WO_v (a_lss (a := x) (b := ((l.take (min (l.length : Int) 30 : Int).toNat).length : Int)) q₂_15 q₂_14) ?_
    refine WO_end ?_
    refine then_n ?_
    refine W_sq ?_
    rcases if_some hp with ⟨b₁, hp⟩ | ⟨b₁, hp⟩
    · refine W_cT (t := (decide (x < ((l.take (min (l.length : Int) 30 : Int).toNat).length : Int)))) rfl b₁ ?_
      refine W_sk ?_
      refine then_n ?_
      refine W_sq ?_
      refine W_bl ?_
      refine W_sq ?_
      refine W_rg ?_
      obtain ⟨c₂, hp⟩ := ck_some hp
      refine WO_v (a_ixa (E := e_i8) (z := x) (Sl.cutU (hO₃.rd0 s_l.rd : Sl e_i8 k₂ v_l l) c₁ : Sl e_i8 k₂ (V.cut v_l 0 (min (l.length : Int) 30 : Int).toNat) (l.take (min (l.length : Int) 30 : Int).toNat)) q₂_13 q₂_15 c₂) ?_
      refine WO_v (a_ldE (w := .i .i8 (gi (l.take (min (l.length : Int) 30 : Int).toNat) (x : Int).toNat)) (Sl.cutU (hO₃.rd0 s_l.rd : Sl e_i8 k₂ v_l l) c₁ : Sl e_i8 k₂ (V.cut v_l 0 (min (l.length : Int) 30 : Int).toNat) (l.take (min (l.length : Int) 30 : Int).toNat)) rfl (toNat_lt c₂) rfl) ?_
      refine WO_v (a_mv (v := .i .i8 (gi (l.take (min (l.length : Int) 30 : Int).toNat) (x : Int).toNat)) rfl) ?_
      refine WO_end ?_
      refine then_n ?_
      refine W_sq ?_
      refine W_rg ?_
      refine WO_v (a_mv (v := .i .i8 (gi (l.take (min (l.length : Int) 30 : Int).toNat) (x : Int).toNat)) rfl) ?_
      obtain ⟨c₃, hp⟩ := ck_some hp
      refine WO_v (a_conv (a := (gi (l.take (min (l.length : Int) 30 : Int).toNat) (x : Int).toNat)) rfl c₃) ?_
      refine WO_v (a_mv (v := .i .i64 (gi (l.take (min (l.length : Int) 30 : Int).toNat) (x : Int).toNat)) rfl) ?_
      refine WO_end ?_
      refine then_n ?_
      refine W_sq ?_
      refine W_sq ?_
      refine W_rg ?_
      refine WO_v (a_mv (v := .b odd) q₂_1) ?_
      refine WO_v (a_not (t := odd) rfl) ?_
      refine WO_end ?_
      refine then_n ?_
      rcases if_some hp with ⟨b₂, hp⟩ | ⟨b₂, hp⟩
      · refine W_cT (t := (!odd)) rfl b₂ ?_
        refine W_rg ?_
        refine WO_v (a_mv (v := .i .i64 (gi (l.take (min (l.length : Int) 30 : Int).toNat) (x : Int).toNat)) rfl) ?_
        refine WO_v (a_rem (a := (gi (l.take (min (l.length : Int) 30 : Int).toNat) (x : Int).toNat)) (b := 3) rfl rfl (by decide)) ?_
        refine WO_v (a_mn (a := 1) (b := ((gi (l.take (min (l.length : Int) 30 : Int).toNat) (x : Int).toNat).tmod 3)) rfl rfl) ?_
        refine WO_v (a_mx (a := (-2)) (b := (min 1 ((gi (l.take (min (l.length : Int) 30 : Int).toNat) (x : Int).toNat).tmod 3))) rfl rfl) ?_
        refine WO_v (a_mv (v := .i .i64 (max (-2) (min 1 ((gi (l.take (min (l.length : Int) 30 : Int).toNat) (x : Int).toNat).tmod 3)))) rfl) ?_
        refine WO_end ?_
        refine then_n ?_
        refine W_rg ?_
        refine WO_v (a_mv (v := v₂) q₂_5) ?_
        refine WO_v (a_mv (v := .i .i64 (max (-2) (min 1 ((gi (l.take (min (l.length : Int) 30 : Int).toNat) (x : Int).toNat).tmod 3)))) rfl) ?_
        refine WO_x (hO₃.bsl (E := eInt) (l := [max (-2) (min 1 ((gi (l.take (min (l.length : Int) 30 : Int).toNat) (x : Int).toNat).tmod 3))]) hO₃.fr (by rw [(ev_cons (v := .i .i64 (max (-2) (min 1 ((gi (l.take (min (l.length : Int) 30 : Int).toNat) (x : Int).toNat).tmod 3)))) rfl ev_nil)]; rfl) rfl) ?_
        rintro v₄ k₃ ⟨r₁, f₁, hW⟩
        have hO₄ : Own B h k₃ [eSl eInt v₂ out, eSl eInt v₄ [max (-2) (min 1 ((gi (l.take (min (l.length : Int) 30 : Int).toNat) (x : Int).toNat).tmod 3))]] := hW
        obtain ⟨c₄, hp⟩ := ck_some hp
        refine WO_x (hO₄.app (E := eInt) (bytes := 8) 0 hO₄.fr rfl (hO₄.sl 1 rfl : Sl eInt k₃ v₄ [max (-2) (min 1 ((gi (l.take (min (l.length : Int) 30 : Int).toNat) (x : Int).toNat).tmod 3))]) rfl rfl (fun _ => rfl) c₄ (by decide)) ?_
        rintro v₅ k₄ ⟨f₂, hW⟩
        have hO₅ : Own B h k₄ [eSl eInt v₅ (out ++ [max (-2) (min 1 ((gi (l.take (min (l.length : Int) 30 : Int).toNat) (x : Int).toNat).tmod 3))]), eSl eInt v₄ [max (-2) (min 1 ((gi (l.take (min (l.length : Int) 30 : Int).toNat) (x : Int).toNat).tmod 3))]] := hW
        refine WO_v (a_mv (v := v₅) rfl) ?_
        refine WO_end ?_
        refine blk_n ?_
        refine then_n ?_
        refine W_rg ?_
        obtain ⟨c₅, hp⟩ := ck_some hp
        refine WO_v (a_add (a := x) (b := 1) q₂_15 rfl c₅) ?_
        refine WO_v (a_mv (v := .i .i64 (x + 1)) rfl) ?_
        refine WO_end ?_
        have hp := Option.some.inj hp; subst hp
        exact (Or.inl (Exists.intro (out ++ [max (-2) (min 1 ((gi (l.take (min (l.length : Int) 30 : Int).toNat) (x : Int).toNat).tmod 3))], x + 1) (And.intro rfl (And.intro rfl (Exists.intro v₅ (And.intro (q₂_1) (And.intro (rfl) (And.intro (q₂_13) (And.intro (q₂_14) (And.intro (rfl) (hO₅.pick [0] rfl (by decide))))))))))))
      · refine W_cF (t := (!odd)) rfl b₂ ?_
        refine W_sk ?_
        refine then_n ?_
        refine W_rg ?_
        refine WO_v (a_mv (v := v₂) q₂_5) ?_
        refine WO_v (a_mv (v := .i .i64 (gi (l.take (min (l.length : Int) 30 : Int).toNat) (x : Int).toNat)) rfl) ?_
        refine WO_x (hO₃.bsl (E := eInt) (l := [gi (l.take (min (l.length : Int) 30 : Int).toNat) (x : Int).toNat]) hO₃.fr (by rw [(ev_cons (v := .i .i64 (gi (l.take (min (l.length : Int) 30 : Int).toNat) (x : Int).toNat)) rfl ev_nil)]; rfl) rfl) ?_
        rintro v₆ k₅ ⟨r₂, f₃, hW⟩
        have hO₆ : Own B h k₅ [eSl eInt v₂ out, eSl eInt v₆ [gi (l.take (min (l.length : Int) 30 : Int).toNat) (x : Int).toNat]] := hW
        obtain ⟨c₆, hp⟩ := ck_some hp
        refine WO_x (hO₆.app (E := eInt) (bytes := 8) 0 hO₆.fr rfl (hO₆.sl 1 rfl : Sl eInt k₅ v₆ [gi (l.take (min (l.length : Int) 30 : Int).toNat) (x : Int).toNat]) rfl rfl (fun _ => rfl) c₆ (by decide)) ?_
        rintro v₇ k₆ ⟨f₄, hW⟩
        have hO₇ : Own B h k₆ [eSl eInt v₇ (out ++ [gi (l.take (min (l.length : Int) 30 : Int).toNat) (x : Int).toNat]), eSl eInt v₆ [gi (l.take (min (l.length : Int) 30 : Int).toNat) (x : Int).toNat]] := hW
        refine WO_v (a_mv (v := v₇) rfl) ?_
        refine WO_end ?_
        refine blk_n ?_
        refine then_n ?_
        refine W_rg ?_
        obtain ⟨c₇, hp⟩ := ck_some hp
        refine WO_v (a_add (a := x) (b := 1) q₂_15 rfl c₇) ?_
        refine WO_v (a_mv (v := .i .i64 (x + 1)) rfl) ?_
        refine WO_end ?_
        have hp := Option.some.inj hp; subst hp
        exact (Or.inl (Exists.intro (out ++ [gi (l.take (min (l.length : Int) 30 : Int).toNat) (x : Int).toNat], x + 1) (And.intro rfl (And.intro rfl (Exists.intro v₇ (And.intro (q₂_1) (And.intro (rfl) (And.intro (q₂_13) (And.intro (q₂_14) (And.intro (rfl) (hO₇.pick [0] rfl (by decide))))))))))))
    · refine W_cF (t := (decide (x < ((l.take (min (l.length : Int) 30 : Int).toNat).length : Int)))) rfl b₁ ?_
      refine W_ex ?_
      refine then_e ?_
      have hp := Option.some.inj hp; subst hp
      refine (Or.inr (Exists.intro out (And.intro rfl (And.intro (fun h => nomatch h) (fun he => ?_)))))
      subst he; exact (And.intro rfl (Exists.intro v₂ (And.intro (q₂_5) (hO₃.pick [0] rfl (by decide)))))
  intro e₁ q₁ k₁ hJ₁
  obtain ⟨out1, rfl⟩ : ∃ x, x = o₁ := ⟨_, rfl⟩
  obtain ⟨rfl, v₃, q₁_5, hO₁⟩ := hJ₁
  refine blk_i ?_
  refine then_n ?_
  refine W_sq ?_
  refine W_rg ?_
  refine WO_v (a_mv (v := v₃) q₁_5) ?_
  refine WO_v (a_mv (v := v₃) rfl) ?_
  refine WO_end ?_
  refine then_n ?_
  refine W_rt ?_
  refine Ret_r (rs_t (n := 4) (v := v₃) rfl rs_nil) ?_
  have hp := Option.some.inj hp; subst hp
  exact (Exists.intro v₃ (And.intro rfl (hO₁.pick [0] rfl (by decide))))

theorem p_kitty_Corners.ok {h : Hp} {turns : List Int} {v_turns : V} (s_turns : Sl eInt h v_turns turns) {r : (List T_kitty_Corner)} (hp : p_kitty_Corners turns = some r) :
    ∃ u k', Is G 19 [v_turns] h u k' ∧ ∃ (v₁ : V), v₁ = u ∧ Own (fun r => r < h.n) h k' [eSl e_T_kitty_Corner v₁ r] := by
  refine WC.is (WC_of G_F_kitty_Corners ?_)
  unfold p_kitty_Corners at hp
  let B : Nat → Prop := (fun r => r < h.n)
  have hO : Own B h h [] := Own.start0 h
  refine W_sq ?_
  refine W_rg ?_
  refine WO_v (a_mv (v := .sn) rfl) ?_
  refine WO_end ?_
  refine then_n ?_
  refine W_sq ?_
  refine W_rg ?_
  refine WO_v (a_mv (v := .sn) rfl) ?_
  refine WO_end ?_
  refine then_n ?_
  refine W_sq ?_
  refine W_sq ?_
  refine W_rg ?_
  refine WO_v (a_mv (v := v_turns) rfl) ?_
  refine WO_v (a_len (hO.rd0 s_turns.rd : Sl eInt h v_turns turns) rfl) ?_
  refine WO_v (a_mv (v := .i .i64 0) rfl) ?_
  refine WO_end ?_
  refine then_n ?_
  refine W_bl ?_
  obtain ⟨o₁, ho₁, hp⟩ := bd_some hp
  refine W.mono (Q := fun e fr k => match (generalizing := false) o₁ with
      | l1 => e = (.exit 0) ∧ ∃ (v₃ : V), fr 3 = v₃ ∧ Own B h k [eSl e_T_kitty_Corner v₃ l1]) ?_ ?_
  · clear hp
    have hO₂ : Own B h h [eSl e_T_kitty_Corner .sn ([] : List T_kitty_Corner)] := hO.nil e_T_kitty_Corner
    refine W_loopF (fun st fr k => match st with | (l, x) => ∃ (v₂ : V), fr 3 = v₂ ∧ fr 7 = v_turns ∧ fr 8 = .i .i64 (turns.length : Int) ∧ fr 9 = .i .i64 x ∧ Own B h k [eSl e_T_kitty_Corner v₂ l]) ho₁ (s := (([] : List T_kitty_Corner), 0)) (Exists.intro V.sn (And.intro (rfl) (And.intro (rfl) (And.intro (rfl) (And.intro (rfl) (hO₂.pick [0] rfl (by decide))))))) ?_
    rintro ⟨l, x⟩ q₂ k₂ ⟨v₂, q₂_3, q₂_7, q₂_8, q₂_9, hO₃⟩ o₂ hp
    dsimp only [p_kitty_Corners.s0] at hp
    refine W_sq ?_
    refine W_rg ?_
    refine WO_v (a_lss (a := x) (b := (turns.length : Int)) q₂_9 q₂_8) ?_
    refine WO_end ?_
    refine then_n ?_
    refine W_sq ?_
    rcases if_some hp with ⟨b₁, hp⟩ | ⟨b₁, hp⟩
    · refine W_cT (t := (decide (x < (turns.length : Int)))) rfl b₁ ?_
      refine W_sk ?_
      refine then_n ?_
      refine W_sq ?_
      refine W_bl ?_
      refine W_sq ?_
      refine W_rg ?_
      refine WO_v (a_mv (v := .i .i64 x) q₂_9) ?_
      obtain ⟨c₁, hp⟩ := ck_some hp
      refine WO_v (a_ixa (E := eInt) (z := x) (hO₃.rd0 s_turns.rd : Sl eInt k₂ v_turns turns) q₂_7 q₂_9 c₁) ?_
      refine WO_v (a_ldE (w := .i .i64 (gi turns (x : Int).toNat)) (hO₃.rd0 s_turns.rd : Sl eInt k₂ v_turns turns) rfl (toNat_lt c₁) rfl) ?_
      refine WO_v (a_mv (v := .i .i64 x) rfl) ?_
      refine WO_v (a_mv (v := .i .i64 (gi turns (x : Int).toNat)) rfl) ?_
      refine WO_end ?_
      refine then_n ?_
      refine W_sq ?_
      refine W_sq ?_
      refine W_rg ?_
      refine WO_v (a_mv (v := .i .i64 (gi turns (x : Int).toNat)) rfl) ?_
      refine WO_v (a_lss (a := (gi turns (x : Int).toNat)) (b := (-2)) rfl rfl) ?_
      refine WO_end ?_
      refine then_n ?_
      rcases if_some hp with ⟨b₂, hp⟩ | ⟨b₂, hp⟩
      · refine W_cT (t := (decide ((gi turns (x : Int).toNat) < (-2)))) rfl b₂ ?_
        refine W_ex ?_
        refine then_e ?_
        refine blk_i ?_
        refine then_n ?_
        refine W_rg ?_
        obtain ⟨c₂, hp⟩ := ck_some hp
        refine WO_v (a_add (a := x) (b := 1) q₂_9 rfl c₂) ?_
        refine WO_v (a_mv (v := .i .i64 (x + 1)) rfl) ?_
        refine WO_end ?_
        have hp := Option.some.inj hp; subst hp
        exact (Or.inl (Exists.intro (l, x + 1) (And.intro rfl (And.intro rfl (Exists.intro v₂ (And.intro (q₂_3) (And.intro (q₂_7) (And.intro (q₂_8) (And.intro (rfl) (hO₃.pick [0] rfl (by decide)))))))))))
      · refine W_cF (t := (decide ((gi turns (x : Int).toNat) < (-2)))) rfl b₂ ?_
        refine W_sk ?_
        refine then_n ?_
        refine W_sq ?_
        refine W_rg ?_
        refine WO_v (a_mv (v := .i .i64 (gi turns (x : Int).toNat)) rfl) ?_
        obtain ⟨c₃, hp⟩ := ck_some hp
        refine WO_v (a_neg (a := (gi turns (x : Int).toNat)) rfl c₃) ?_
        refine WO_v (a_mv (v := .i .i64 0) rfl) ?_
        refine WO_end ?_
        refine then_n ?_
        refine W_bl ?_
        obtain ⟨o₃, ho₂, hp⟩ := bd_some hp
        refine W.mono (Q := fun e fr k => match (generalizing := false) o₃ with
            | l3 => e = (.exit 2) ∧ ∃ (v₅ : V), fr 3 = v₅ ∧ fr 7 = v_turns ∧ fr 8 = .i .i64 (turns.length : Int) ∧ fr 9 = .i .i64 x ∧ Own B h k [eSl e_T_kitty_Corner v₅ l3]) ?_ ?_
        · clear hp
          refine W_loopF (fun st fr k => match st with | (l2, x1) => ∃ (v₄ : V), fr 3 = v₄ ∧ fr 4 = .i .i64 x ∧ fr 7 = v_turns ∧ fr 8 = .i .i64 (turns.length : Int) ∧ fr 9 = .i .i64 x ∧ fr 17 = .i .i64 (-(gi turns (x : Int).toNat)) ∧ fr 18 = .i .i64 x1 ∧ Own B h k [eSl e_T_kitty_Corner v₄ l2]) ho₂ (s := (l, 0)) (Exists.intro v₂ (And.intro (q₂_3) (And.intro (rfl) (And.intro (q₂_7) (And.intro (q₂_8) (And.intro (q₂_9) (And.intro (rfl) (And.intro (rfl) (hO₃.pick [0] rfl (by decide)))))))))) ?_
          rintro ⟨l2, x1⟩ q₄ k₄ ⟨v₄, q₄_3, q₄_4, q₄_7, q₄_8, q₄_9, q₄_17, q₄_18, hO₅⟩ o₄ hp
          dsimp only [p_kitty_Corners.s1] at hp
          refine W_sq ?_
          refine W_rg ?_
          refine WO_v (a_lss (a := x1) (b := (-(gi turns (x : Int).toNat))) q₄_18 q₄_17) ?_
          refine WO_end ?_
          refine then_n ?_
          refine W_sq ?_
          rcases if_some hp with ⟨b₃, hp⟩ | ⟨b₃, hp⟩
          · refine W_cT (t := (decide (x1 < (-(gi turns (x : Int).toNat))))) rfl b₃ ?_
            refine W_sk ?_
            refine then_n ?_
            refine W_sq ?_
            refine W_bl ?_
            refine W_sq ?_
            refine W_rg ?_
            refine WO_v (a_mv (v := .i .i64 x1) q₄_18) ?_
            refine WO_v (a_mv (v := .i .i64 x1) rfl) ?_
            refine WO_end ?_
            refine then_n ?_
            refine W_rg ?_
            refine WO_v (a_mv (v := v₄) q₄_3) ?_
            refine WO_v (a_mv (v := .i .i64 x) q₄_4) ?_
            refine WO_v (a_mv (v := .i .i64 x1) rfl) ?_
            refine WO_v (a_build (cs := e_T_kitty_Corner.c (⟨x, x1⟩ : T_kitty_Corner)) (by rw [(ev_cons (v := .i .i64 x) rfl (ev_cons (v := .i .i64 x1) rfl ev_nil))]; rfl)) ?_
            refine WO_x (hO₅.bsl (E := e_T_kitty_Corner) (l := [(⟨x, x1⟩ : T_kitty_Corner)]) hO₅.fr (by rw [(ev_cons (v := .ag (e_T_kitty_Corner.c (⟨x, x1⟩ : T_kitty_Corner))) rfl ev_nil)]; rfl) rfl) ?_
            rintro v₆ k₅ ⟨r₁, f₁, hW⟩
            have hO₆ : Own B h k₅ [eSl e_T_kitty_Corner v₄ l2, eSl e_T_kitty_Corner v₆ [(⟨x, x1⟩ : T_kitty_Corner)]] := hW
            obtain ⟨c₄, hp⟩ := ck_some hp
            refine WO_x (hO₆.app (E := e_T_kitty_Corner) (bytes := 16) 0 hO₆.fr rfl (hO₆.sl 1 rfl : Sl e_T_kitty_Corner k₅ v₆ [(⟨x, x1⟩ : T_kitty_Corner)]) rfl rfl (fun _ => rfl) c₄ (by decide)) ?_
            rintro v₇ k₆ ⟨f₂, hW⟩
            have hO₇ : Own B h k₆ [eSl e_T_kitty_Corner v₇ (l2 ++ [(⟨x, x1⟩ : T_kitty_Corner)]), eSl e_T_kitty_Corner v₆ [(⟨x, x1⟩ : T_kitty_Corner)]] := hW
            refine WO_v (a_mv (v := v₇) rfl) ?_
            refine WO_end ?_
            refine blk_n ?_
            refine then_n ?_
            refine W_rg ?_
            obtain ⟨c₅, hp⟩ := ck_some hp
            refine WO_v (a_add (a := x1) (b := 1) q₄_18 rfl c₅) ?_
            refine WO_v (a_mv (v := .i .i64 (x1 + 1)) rfl) ?_
            refine WO_end ?_
            have hp := Option.some.inj hp; subst hp
            exact (Or.inl (Exists.intro (l2 ++ [(⟨x, x1⟩ : T_kitty_Corner)], x1 + 1) (And.intro rfl (And.intro rfl (Exists.intro v₇ (And.intro (rfl) (And.intro (q₄_4) (And.intro (q₄_7) (And.intro (q₄_8) (And.intro (q₄_9) (And.intro (q₄_17) (And.intro (rfl) (hO₇.pick [0] rfl (by decide))))))))))))))
          · refine W_cF (t := (decide (x1 < (-(gi turns (x : Int).toNat))))) rfl b₃ ?_
            refine W_ex ?_
            refine then_e ?_
            have hp := Option.some.inj hp; subst hp
            refine (Or.inr (Exists.intro l2 (And.intro rfl (And.intro (fun h => nomatch h) (fun he => ?_)))))
            subst he; exact (And.intro rfl (Exists.intro v₄ (And.intro (q₄_3) (And.intro (q₄_7) (And.intro (q₄_8) (And.intro (q₄_9) (hO₅.pick [0] rfl (by decide))))))))
        intro e₂ q₃ k₃ hJ₂
        obtain ⟨l3, rfl⟩ : ∃ x, x = o₃ := ⟨_, rfl⟩
        obtain ⟨rfl, v₅, q₃_3, q₃_7, q₃_8, q₃_9, hO₄⟩ := hJ₂
        refine blk_i ?_
        refine blk_n ?_
        refine then_n ?_
        refine W_rg ?_
        obtain ⟨c₆, hp⟩ := ck_some hp
        refine WO_v (a_add (a := x) (b := 1) q₃_9 rfl c₆) ?_
        refine WO_v (a_mv (v := .i .i64 (x + 1)) rfl) ?_
        refine WO_end ?_
        have hp := Option.some.inj hp; subst hp
        exact (Or.inl (Exists.intro (l3, x + 1) (And.intro rfl (And.intro rfl (Exists.intro v₅ (And.intro (q₃_3) (And.intro (q₃_7) (And.intro (q₃_8) (And.intro (rfl) (hO₄.pick [0] rfl (by decide)))))))))))
    · refine W_cF (t := (decide (x < (turns.length : Int)))) rfl b₁ ?_
      refine W_ex ?_
      refine then_e ?_
      have hp := Option.some.inj hp; subst hp
      refine (Or.inr (Exists.intro l (And.intro rfl (And.intro (fun h => nomatch h) (fun he => ?_)))))
      subst he; exact (And.intro rfl (Exists.intro v₂ (And.intro (q₂_3) (hO₃.pick [0] rfl (by decide)))))
  intro e₁ q₁ k₁ hJ₁
  obtain ⟨l1, rfl⟩ : ∃ x, x = o₁ := ⟨_, rfl⟩
  obtain ⟨rfl, v₃, q₁_3, hO₁⟩ := hJ₁
  refine blk_i ?_
  refine then_n ?_
  refine W_sq ?_
  refine W_rg ?_
  refine WO_v (a_mv (v := v₃) q₁_3) ?_
  refine WO_v (a_mv (v := v₃) rfl) ?_
  refine WO_end ?_
  refine then_n ?_
  refine W_rt ?_
  refine Ret_r (rs_t (n := 2) (v := v₃) rfl rs_nil) ?_
  have hp := Option.some.inj hp; subst hp
  exact (Exists.intro v₃ (And.intro rfl (hO₁.pick [0] rfl (by decide))))

theorem p_muntinref15_Corners.ok {h : Hp} {t : List Int} {v_t : V} (s_t : Sl eInt h v_t t) {r : (List T_muntinref15_Corner)} (hp : p_muntinref15_Corners t = some r) :
    ∃ u k', Is G 20 [v_t] h u k' ∧ ∃ (v₁ : V), v₁ = u ∧ Own (fun r => r < h.n) h k' [eSl e_T_muntinref15_Corner v₁ r] := by
  refine WC.is (WC_of G_F_muntinref15_Corners ?_)
  unfold p_muntinref15_Corners at hp
  let B : Nat → Prop := (fun r => r < h.n)
  have hO : Own B h h [] := Own.start0 h
  refine W_sq ?_
  refine W_rg ?_
  refine WO_v (a_mv (v := .sn) rfl) ?_
  refine WO_end ?_
  refine then_n ?_
  refine W_sq ?_
  refine W_rg ?_
  refine WO_v (a_mv (v := .sn) rfl) ?_
  refine WO_end ?_
  refine then_n ?_
  refine W_sq ?_
  refine W_sq ?_
  refine W_rg ?_
  refine WO_v (a_mv (v := .i .i64 0) rfl) ?_
  refine WO_end ?_
  refine then_n ?_
  refine W_bl ?_
  obtain ⟨o₁, ho₁, hp⟩ := bd_some hp
  refine W.mono (Q := fun e fr k => match (generalizing := false) o₁ with
      | l1 => e = (.exit 0) ∧ ∃ (v₃ : V), fr 3 = v₃ ∧ Own B h k [eSl e_T_muntinref15_Corner v₃ l1]) ?_ ?_
  · clear hp
    have hO₂ : Own B h h [eSl e_T_muntinref15_Corner .sn ([] : List T_muntinref15_Corner)] := hO.nil e_T_muntinref15_Corner
    refine W_loopF (fun st fr k => match st with | (l, i) => ∃ (v₂ : V), fr 0 = v_t ∧ fr 3 = v₂ ∧ fr 4 = .i .i64 i ∧ Own B h k [eSl e_T_muntinref15_Corner v₂ l]) ho₁ (s := (([] : List T_muntinref15_Corner), 0)) (Exists.intro V.sn (And.intro (rfl) (And.intro (rfl) (And.intro (rfl) (hO₂.pick [0] rfl (by decide)))))) ?_
    rintro ⟨l, i⟩ q₂ k₂ ⟨v₂, q₂_0, q₂_3, q₂_4, hO₃⟩ o₂ hp
    dsimp only [p_muntinref15_Corners.s0] at hp
    refine W_sq ?_
    refine W_sq ?_
    refine W_rg ?_
    refine WO_v (a_mv (v := .i .i64 i) q₂_4) ?_
    refine WO_v (a_mv (v := v_t) q₂_0) ?_
    refine WO_v (a_len (hO₃.rd0 s_t.rd : Sl eInt k₂ v_t t) rfl) ?_
    refine WO_v (a_lss (a := i) (b := (t.length : Int)) rfl rfl) ?_
    refine WO_end ?_
    refine then_n ?_
    rcases if_some hp with ⟨b₁, hp⟩ | ⟨b₁, hp⟩
    · refine W_cT (t := (decide (i < (t.length : Int)))) rfl b₁ ?_
      refine W_sk ?_
      refine then_n ?_
      refine W_sq ?_
      refine W_bl ?_
      refine W_sq ?_
      refine W_sq ?_
      refine W_rg ?_
      refine WO_v (a_mv (v := v_t) q₂_0) ?_
      refine WO_v (a_mv (v := .i .i64 i) q₂_4) ?_
      obtain ⟨c₁, hp⟩ := ck_some hp
      refine WO_v (a_ixa (E := eInt) (z := i) (hO₃.rd0 s_t.rd : Sl eInt k₂ v_t t) rfl rfl c₁) ?_
      refine WO_v (a_ldE (w := .i .i64 (gi t (i : Int).toNat)) (hO₃.rd0 s_t.rd : Sl eInt k₂ v_t t) rfl (toNat_lt c₁) rfl) ?_
      refine WO_v (a_eqI (a := (gi t (i : Int).toNat)) (b := (-1)) rfl rfl) ?_
      refine WO_v (a_mv (v := .b (decide (gi t (i : Int).toNat = (-1)))) rfl) ?_
      refine WO_cut 6 (fun fr' k' => k₂ = k' ∧ fr' 22 = .b ((decide (gi t (i : Int).toNat = (-1))) || (decide (gi t (i : Int).toNat = (-2)))) ∧ fr' 0 = v_t ∧ fr' 3 = v₂ ∧ fr' 4 = .i .i64 i) ?_ ?_
      · rcases bc (decide (gi t (i : Int).toNat = (-1))) with b₂ | b₂
        · skip
          refine WO_off rfl b₂ ?_
          refine WO_off rfl b₂ ?_
          refine WO_off rfl b₂ ?_
          refine WO_off rfl b₂ ?_
          refine WO_off rfl b₂ ?_
          refine WO_v (a_pickT (t := (decide (gi t (i : Int).toNat = (-1)))) (v := .b ((decide (gi t (i : Int).toNat = (-1))) || (decide (gi t (i : Int).toNat = (-2))))) rfl b₂ (Eq.trans (b := V.b true) rfl (or_off b₂))) ?_
          refine WO_end ?_
          exact ⟨rfl, rfl, q₂_0, q₂_3, q₂_4⟩
        · skip
          refine WO_on rfl b₂ ?_
          refine WO_v (a_mv (v := v_t) q₂_0) ?_
          refine WO_on rfl b₂ ?_
          refine WO_v (a_mv (v := .i .i64 i) q₂_4) ?_
          refine WO_on rfl b₂ ?_
          refine WO_v (a_ixa (E := eInt) (z := i) (hO₃.rd0 s_t.rd : Sl eInt k₂ v_t t) rfl rfl c₁) ?_
          refine WO_on rfl b₂ ?_
          refine WO_v (a_ldE (w := .i .i64 (gi t (i : Int).toNat)) (hO₃.rd0 s_t.rd : Sl eInt k₂ v_t t) rfl (toNat_lt c₁) rfl) ?_
          refine WO_on rfl b₂ ?_
          refine WO_v (a_eqI (a := (gi t (i : Int).toNat)) (b := (-2)) rfl rfl) ?_
          refine WO_v (a_pickF (t := (decide (gi t (i : Int).toNat = (-1)))) (v := .b ((decide (gi t (i : Int).toNat = (-1))) || (decide (gi t (i : Int).toNat = (-2))))) rfl b₂ (Eq.trans (b := V.b (decide (gi t (i : Int).toNat = (-2)))) rfl (or_on b₂))) ?_
          refine WO_end ?_
          exact ⟨rfl, rfl, q₂_0, q₂_3, q₂_4⟩
      rintro frg₁ _ ⟨rfl, g₁_22, g₁_0, g₁_3, g₁_4⟩
      refine WO_end ?_
      refine then_n ?_
      obtain ⟨o₃, ho₂, hp⟩ := bd_some hp
      refine W.mono (Q := fun e fr k => match (generalizing := false) o₃ with
          | l2 => e = .normal ∧ ∃ (v₄ : V), fr 0 = v_t ∧ fr 3 = v₄ ∧ fr 4 = .i .i64 i ∧ Own B h k [eSl e_T_muntinref15_Corner v₄ l2]) ?_ ?_
      · clear hp; have hp := ho₂; clear ho₂
        rcases if_some hp with ⟨b₃, hp⟩ | ⟨b₃, hp⟩
        · refine W_cT (t := ((decide (gi t (i : Int).toNat = (-1))) || (decide (gi t (i : Int).toNat = (-2))))) g₁_22 b₃ ?_
          refine W_rg ?_
          refine WO_v (a_mv (v := v₂) g₁_3) ?_
          refine WO_v (a_mv (v := .i .i64 i) g₁_4) ?_
          refine WO_v (a_build (cs := e_T_muntinref15_Corner.c (⟨i, (0 : Int)⟩ : T_muntinref15_Corner)) (by rw [(ev_cons (v := .i .i64 i) rfl ev_nil)]; rfl)) ?_
          refine WO_x (hO₃.bsl (E := e_T_muntinref15_Corner) (l := [(⟨i, (0 : Int)⟩ : T_muntinref15_Corner)]) hO₃.fr (by rw [(ev_cons (v := .ag (e_T_muntinref15_Corner.c (⟨i, (0 : Int)⟩ : T_muntinref15_Corner))) rfl ev_nil)]; rfl) rfl) ?_
          rintro v₅ k₄ ⟨r₁, f₁, hW⟩
          have hO₅ : Own B h k₄ [eSl e_T_muntinref15_Corner v₂ l, eSl e_T_muntinref15_Corner v₅ [(⟨i, (0 : Int)⟩ : T_muntinref15_Corner)]] := hW
          obtain ⟨c₂, hp⟩ := ck_some hp
          refine WO_x (hO₅.app (E := e_T_muntinref15_Corner) (bytes := 16) 0 hO₅.fr rfl (hO₅.sl 1 rfl : Sl e_T_muntinref15_Corner k₄ v₅ [(⟨i, (0 : Int)⟩ : T_muntinref15_Corner)]) rfl rfl (fun _ => rfl) c₂ (by decide)) ?_
          rintro v₆ k₅ ⟨f₂, hW⟩
          have hO₆ : Own B h k₅ [eSl e_T_muntinref15_Corner v₆ (l ++ [(⟨i, (0 : Int)⟩ : T_muntinref15_Corner)]), eSl e_T_muntinref15_Corner v₅ [(⟨i, (0 : Int)⟩ : T_muntinref15_Corner)]] := hW
          refine WO_v (a_mv (v := v₆) rfl) ?_
          refine WO_end ?_
          have hp := Option.some.inj hp; subst hp
          exact (And.intro rfl (Exists.intro v₆ (And.intro (g₁_0) (And.intro (rfl) (And.intro (g₁_4) (hO₆.pick [0] rfl (by decide)))))))
        · refine W_cF (t := ((decide (gi t (i : Int).toNat = (-1))) || (decide (gi t (i : Int).toNat = (-2))))) g₁_22 b₃ ?_
          refine W_sk ?_
          have hp := Option.some.inj hp; subst hp
          exact (And.intro rfl (Exists.intro v₂ (And.intro (g₁_0) (And.intro (g₁_3) (And.intro (g₁_4) (hO₃.pick [0] rfl (by decide)))))))
      intro e₂ q₃ k₃ hJ₂
      obtain ⟨l2, rfl⟩ : ∃ x, x = o₃ := ⟨_, rfl⟩
      obtain ⟨rfl, v₄, q₃_0, q₃_3, q₃_4, hO₄⟩ := hJ₂
      refine then_n ?_
      refine W_sq ?_
      refine W_rg ?_
      refine WO_v (a_mv (v := v_t) q₃_0) ?_
      refine WO_v (a_mv (v := .i .i64 i) q₃_4) ?_
      refine WO_v (a_ixa (E := eInt) (z := i) (hO₄.rd0 s_t.rd : Sl eInt k₃ v_t t) rfl rfl c₁) ?_
      refine WO_v (a_ldE (w := .i .i64 (gi t (i : Int).toNat)) (hO₄.rd0 s_t.rd : Sl eInt k₃ v_t t) rfl (toNat_lt c₁) rfl) ?_
      refine WO_v (a_eqI (a := (gi t (i : Int).toNat)) (b := (-2)) rfl rfl) ?_
      refine WO_end ?_
      refine then_n ?_
      rcases if_some hp with ⟨b₄, hp⟩ | ⟨b₄, hp⟩
      · refine W_cT (t := (decide (gi t (i : Int).toNat = (-2)))) rfl b₄ ?_
        refine W_rg ?_
        refine WO_v (a_mv (v := v₄) q₃_3) ?_
        refine WO_v (a_mv (v := .i .i64 i) q₃_4) ?_
        refine WO_v (a_build (cs := e_T_muntinref15_Corner.c (⟨i, 1⟩ : T_muntinref15_Corner)) (by rw [(ev_cons (v := .i .i64 i) rfl (ev_cons (v := .i .i64 1) rfl ev_nil))]; rfl)) ?_
        refine WO_x (hO₄.bsl (E := e_T_muntinref15_Corner) (l := [(⟨i, 1⟩ : T_muntinref15_Corner)]) hO₄.fr (by rw [(ev_cons (v := .ag (e_T_muntinref15_Corner.c (⟨i, 1⟩ : T_muntinref15_Corner))) rfl ev_nil)]; rfl) rfl) ?_
        rintro v₇ k₆ ⟨r₂, f₃, hW⟩
        have hO₇ : Own B h k₆ [eSl e_T_muntinref15_Corner v₄ l2, eSl e_T_muntinref15_Corner v₇ [(⟨i, 1⟩ : T_muntinref15_Corner)]] := hW
        obtain ⟨c₃, hp⟩ := ck_some hp
        refine WO_x (hO₇.app (E := e_T_muntinref15_Corner) (bytes := 16) 0 hO₇.fr rfl (hO₇.sl 1 rfl : Sl e_T_muntinref15_Corner k₆ v₇ [(⟨i, 1⟩ : T_muntinref15_Corner)]) rfl rfl (fun _ => rfl) c₃ (by decide)) ?_
        rintro v₈ k₇ ⟨f₄, hW⟩
        have hO₈ : Own B h k₇ [eSl e_T_muntinref15_Corner v₈ (l2 ++ [(⟨i, 1⟩ : T_muntinref15_Corner)]), eSl e_T_muntinref15_Corner v₇ [(⟨i, 1⟩ : T_muntinref15_Corner)]] := hW
        refine WO_v (a_mv (v := v₈) rfl) ?_
        refine WO_end ?_
        refine blk_n ?_
        refine then_n ?_
        refine W_rg ?_
        refine WO_v (a_mv (v := .i .i64 i) q₃_4) ?_
        obtain ⟨c₄, hp⟩ := ck_some hp
        refine WO_v (a_add (a := i) (b := 1) rfl rfl c₄) ?_
        refine WO_v (a_mv (v := .i .i64 (i + 1)) rfl) ?_
        refine WO_end ?_
        have hp := Option.some.inj hp; subst hp
        exact (Or.inl (Exists.intro (l2 ++ [(⟨i, 1⟩ : T_muntinref15_Corner)], i + 1) (And.intro rfl (And.intro rfl (Exists.intro v₈ (And.intro (q₃_0) (And.intro (rfl) (And.intro (rfl) (hO₈.pick [0] rfl (by decide))))))))))
      · refine W_cF (t := (decide (gi t (i : Int).toNat = (-2)))) rfl b₄ ?_
        refine W_sk ?_
        refine blk_n ?_
        refine then_n ?_
        refine W_rg ?_
        refine WO_v (a_mv (v := .i .i64 i) q₃_4) ?_
        obtain ⟨c₅, hp⟩ := ck_some hp
        refine WO_v (a_add (a := i) (b := 1) rfl rfl c₅) ?_
        refine WO_v (a_mv (v := .i .i64 (i + 1)) rfl) ?_
        refine WO_end ?_
        have hp := Option.some.inj hp; subst hp
        exact (Or.inl (Exists.intro (l2, i + 1) (And.intro rfl (And.intro rfl (Exists.intro v₄ (And.intro (q₃_0) (And.intro (q₃_3) (And.intro (rfl) (hO₄.pick [0] rfl (by decide))))))))))
    · refine W_cF (t := (decide (i < (t.length : Int)))) rfl b₁ ?_
      refine W_ex ?_
      refine then_e ?_
      have hp := Option.some.inj hp; subst hp
      refine (Or.inr (Exists.intro l (And.intro rfl (And.intro (fun h => nomatch h) (fun he => ?_)))))
      subst he; exact (And.intro rfl (Exists.intro v₂ (And.intro (q₂_3) (hO₃.pick [0] rfl (by decide)))))
  intro e₁ q₁ k₁ hJ₁
  obtain ⟨l1, rfl⟩ : ∃ x, x = o₁ := ⟨_, rfl⟩
  obtain ⟨rfl, v₃, q₁_3, hO₁⟩ := hJ₁
  refine blk_i ?_
  refine then_n ?_
  refine W_sq ?_
  refine W_rg ?_
  refine WO_v (a_mv (v := v₃) q₁_3) ?_
  refine WO_v (a_mv (v := v₃) rfl) ?_
  refine WO_end ?_
  refine then_n ?_
  refine W_rt ?_
  refine Ret_r (rs_t (n := 2) (v := v₃) rfl rs_nil) ?_
  have hp := Option.some.inj hp; subst hp
  exact (Exists.intro v₃ (And.intro rfl (hO₁.pick [0] rfl (by decide))))

theorem p_muntinref15_Good.ok {h : Hp} {t : List Int} {v_t : V} (s_t : Sl eInt h v_t t) {r : Bool} (hp : p_muntinref15_Good t = some r) :
    ∃ u k', Is G 21 [v_t] h u k' ∧ V.b r = u ∧ Own (fun r => r < h.n) h k' [] := by
  refine WC.is (WC_of G_F_muntinref15_Good ?_)
  unfold p_muntinref15_Good at hp
  let B : Nat → Prop := (fun r => r < h.n)
  have hO : Own B h h [] := Own.start0 h
  refine W_sq ?_
  refine W_rg ?_
  refine WO_v (a_mv (v := .b false) rfl) ?_
  refine WO_end ?_
  refine then_n ?_
  refine W_sq ?_
  refine W_sq ?_
  refine W_rg ?_
  refine WO_v (a_mv (v := .i .i64 0) rfl) ?_
  refine WO_end ?_
  refine then_n ?_
  refine W_bl ?_
  obtain ⟨o₁, ho₁, hp⟩ := bd_some hp
  refine W.mono (Q := fun e fr k => match (generalizing := false) o₁ with
      | .inl _ => e = (.exit 0) ∧ Own B h k []
      | .inr _ => e = .ret ∧ fr 2 = .b false ∧ Own B h k []) ?_ ?_
  · clear hp
    refine W_loopF (fun st fr k => match st with | i => fr 0 = v_t ∧ fr 3 = .i .i64 i ∧ Own B h k []) ho₁ (s := 0) (And.intro (rfl) (And.intro (rfl) (hO.pick [] rfl (by decide)))) ?_
    rintro i q₂ k₂ ⟨q₂_0, q₂_3, hO₂⟩ o₂ hp
    dsimp only [p_muntinref15_Good.s0] at hp
    refine W_sq ?_
    refine W_sq ?_
    refine W_rg ?_
    refine WO_v (a_mv (v := .i .i64 i) q₂_3) ?_
    refine WO_v (a_mv (v := v_t) q₂_0) ?_
    refine WO_v (a_len (hO₂.rd0 s_t.rd : Sl eInt k₂ v_t t) rfl) ?_
    refine WO_v (a_lss (a := i) (b := (t.length : Int)) rfl rfl) ?_
    refine WO_end ?_
    refine then_n ?_
    rcases if_some hp with ⟨b₁, hp⟩ | ⟨b₁, hp⟩
    · refine W_cT (t := (decide (i < (t.length : Int)))) rfl b₁ ?_
      refine W_sk ?_
      refine then_n ?_
      refine W_sq ?_
      refine W_bl ?_
      refine W_sq ?_
      refine W_rg ?_
      refine WO_v (a_mv (v := v_t) q₂_0) ?_
      refine WO_v (a_mv (v := .i .i64 i) q₂_3) ?_
      obtain ⟨c₁, hp⟩ := ck_some hp
      refine WO_v (a_ixa (E := eInt) (z := i) (hO₂.rd0 s_t.rd : Sl eInt k₂ v_t t) rfl rfl c₁) ?_
      refine WO_v (a_ldE (w := .i .i64 (gi t (i : Int).toNat)) (hO₂.rd0 s_t.rd : Sl eInt k₂ v_t t) rfl (toNat_lt c₁) rfl) ?_
      refine WO_v (a_lss (a := (gi t (i : Int).toNat)) (b := (-2)) rfl rfl) ?_
      refine WO_v (a_mv (v := .b (decide ((gi t (i : Int).toNat) < (-2)))) rfl) ?_
      refine WO_cut 6 (fun fr' k' => k₂ = k' ∧ fr' 21 = .b ((decide ((gi t (i : Int).toNat) < (-2))) || (decide (1 < (gi t (i : Int).toNat)))) ∧ fr' 0 = v_t ∧ fr' 3 = .i .i64 i) ?_ ?_
      · rcases bc (decide ((gi t (i : Int).toNat) < (-2))) with b₂ | b₂
        · skip
          refine WO_off rfl b₂ ?_
          refine WO_off rfl b₂ ?_
          refine WO_off rfl b₂ ?_
          refine WO_off rfl b₂ ?_
          refine WO_off rfl b₂ ?_
          refine WO_v (a_pickT (t := (decide ((gi t (i : Int).toNat) < (-2)))) (v := .b ((decide ((gi t (i : Int).toNat) < (-2))) || (decide (1 < (gi t (i : Int).toNat))))) rfl b₂ (Eq.trans (b := V.b true) rfl (or_off b₂))) ?_
          refine WO_end ?_
          exact ⟨rfl, rfl, q₂_0, q₂_3⟩
        · skip
          refine WO_on rfl b₂ ?_
          refine WO_v (a_mv (v := v_t) q₂_0) ?_
          refine WO_on rfl b₂ ?_
          refine WO_v (a_mv (v := .i .i64 i) q₂_3) ?_
          refine WO_on rfl b₂ ?_
          refine WO_v (a_ixa (E := eInt) (z := i) (hO₂.rd0 s_t.rd : Sl eInt k₂ v_t t) rfl rfl c₁) ?_
          refine WO_on rfl b₂ ?_
          refine WO_v (a_ldE (w := .i .i64 (gi t (i : Int).toNat)) (hO₂.rd0 s_t.rd : Sl eInt k₂ v_t t) rfl (toNat_lt c₁) rfl) ?_
          refine WO_on rfl b₂ ?_
          refine WO_v (a_gtr (a := (gi t (i : Int).toNat)) (b := 1) rfl rfl) ?_
          refine WO_v (a_pickF (t := (decide ((gi t (i : Int).toNat) < (-2)))) (v := .b ((decide ((gi t (i : Int).toNat) < (-2))) || (decide (1 < (gi t (i : Int).toNat))))) rfl b₂ (Eq.trans (b := V.b (decide (1 < (gi t (i : Int).toNat)))) rfl (or_on b₂))) ?_
          refine WO_end ?_
          exact ⟨rfl, rfl, q₂_0, q₂_3⟩
      rintro frg₁ _ ⟨rfl, g₁_21, g₁_0, g₁_3⟩
      refine WO_end ?_
      refine then_n ?_
      rcases if_some hp with ⟨b₃, hp⟩ | ⟨b₃, hp⟩
      · refine W_cT (t := ((decide ((gi t (i : Int).toNat) < (-2))) || (decide (1 < (gi t (i : Int).toNat))))) g₁_21 b₃ ?_
        refine W_sq ?_
        refine W_rg ?_
        refine WO_v (a_mv (v := .b false) rfl) ?_
        refine WO_end ?_
        refine then_n ?_
        refine W_rt ?_
        refine blk_r ?_
        refine then_r ?_
        have hp := Option.some.inj hp; subst hp
        refine (Or.inr (Exists.intro (.inr ()) (And.intro rfl (And.intro (fun h => nomatch h) (fun he => ?_)))))
        subst he; exact (And.intro rfl (And.intro (rfl) (hO₂.pick [] rfl (by decide))))
      · refine W_cF (t := ((decide ((gi t (i : Int).toNat) < (-2))) || (decide (1 < (gi t (i : Int).toNat))))) g₁_21 b₃ ?_
        refine W_sk ?_
        refine blk_n ?_
        refine then_n ?_
        refine W_rg ?_
        refine WO_v (a_mv (v := .i .i64 i) g₁_3) ?_
        obtain ⟨c₂, hp⟩ := ck_some hp
        refine WO_v (a_add (a := i) (b := 1) rfl rfl c₂) ?_
        refine WO_v (a_mv (v := .i .i64 (i + 1)) rfl) ?_
        refine WO_end ?_
        have hp := Option.some.inj hp; subst hp
        exact (Or.inl (Exists.intro (i + 1) (And.intro rfl (And.intro rfl (And.intro (g₁_0) (And.intro (rfl) (hO₂.pick [] rfl (by decide))))))))
    · refine W_cF (t := (decide (i < (t.length : Int)))) rfl b₁ ?_
      refine W_ex ?_
      refine then_e ?_
      have hp := Option.some.inj hp; subst hp
      refine (Or.inr (Exists.intro (.inl ()) (And.intro rfl (And.intro (fun h => nomatch h) (fun he => ?_)))))
      subst he; exact (And.intro rfl (hO₂.pick [] rfl (by decide)))
  intro e₁ q₁ k₁ hJ₁
  rcases o₁ with _ | _
  · obtain ⟨rfl, hO₁⟩ := hJ₁
    refine blk_i ?_
    refine then_n ?_
    refine W_sq ?_
    refine W_rg ?_
    refine WO_v (a_mv (v := .b true) rfl) ?_
    refine WO_end ?_
    refine then_n ?_
    refine W_rt ?_
    refine Ret_r (rs_t (n := 2) (v := .b true) rfl rs_nil) ?_
    have hp := Option.some.inj hp; subst hp
    exact (And.intro rfl (hO₁.pick [] rfl (by decide)))
  · obtain ⟨rfl, q₁_2, hO₁⟩ := hJ₁
    refine blk_r ?_
    refine then_r ?_
    refine Ret_r (rs_t (n := 2) (v := .b false) q₁_2 rs_nil) ?_
    have hp := Option.some.inj hp; subst hp
    exact (And.intro rfl (hO₁.pick [] rfl (by decide)))

theorem p_slices_IndexFunc_int.ok {h : Hp} {s : List Int} {f : Int → Option Bool} {v_s : V} {id_f : Nat} {cap_f : List V} (s_s : Sl eInt h v_s s) (f_f : ∀ (k : Hp) (x0 : Int) (y : Bool), Ex' (fun r => r < h.n) h k → f x0 = some y → ∃ u k', Is G id_f (.i .i64 x0 :: cap_f) k u k' ∧ V.b y = u ∧ Own (fun r => r < k.n) k k' []) {r : Int} (hp : p_slices_IndexFunc_int s f = some r) :
    ∃ u k', Is G 91 [v_s, .f id_f cap_f] h u k' ∧ V.i .i64 r = u ∧ Own (fun r => r < h.n) h k' [] := by
  refine WC.is (WC_of G_F_slices_IndexFunc_int ?_)
  unfold p_slices_IndexFunc_int at hp
  let B : Nat → Prop := (fun r => r < h.n)
  have hO : Own B h h [] := Own.start0 h
  refine W_sq ?_
  refine W_rg ?_
  refine WO_v (a_mv (v := .i .i64 0) rfl) ?_
  refine WO_end ?_
  refine then_n ?_
  refine W_sq ?_
  refine W_sq ?_
  refine W_rg ?_
  refine WO_v (a_mv (v := v_s) rfl) ?_
  refine WO_v (a_len (hO.rd0 s_s.rd : Sl eInt h v_s s) rfl) ?_
  refine WO_v (a_mv (v := .i .i64 0) rfl) ?_
  refine WO_end ?_
  refine then_n ?_
  refine W_bl ?_
  obtain ⟨o₁, ho₁, hp⟩ := bd_some hp
  refine W.mono (Q := fun e fr k => match (generalizing := false) o₁ with
      | .inl _ => e = (.exit 0) ∧ Own B h k []
      | .inr x1 => e = .ret ∧ fr 4 = .i .i64 x1 ∧ Own B h k []) ?_ ?_
  · clear hp
    refine W_loopF (fun st fr k => match st with | x => fr 0 = v_s ∧ fr 1 = .f id_f cap_f ∧ fr 7 = .i .i64 (s.length : Int) ∧ fr 8 = .i .i64 x ∧ Own B h k []) ho₁ (s := 0) (And.intro (rfl) (And.intro (rfl) (And.intro (rfl) (And.intro (rfl) (hO.pick [] rfl (by decide)))))) ?_
    rintro x q₂ k₂ ⟨q₂_0, q₂_1, q₂_7, q₂_8, hO₂⟩ o₂ hp
    dsimp only [p_slices_IndexFunc_int.s0] at hp
    refine W_sq ?_
    refine W_rg ?_
    refine WO_v (a_lss (a := x) (b := (s.length : Int)) q₂_8 q₂_7) ?_
    refine WO_end ?_
    refine then_n ?_
    refine W_sq ?_
    rcases if_some hp with ⟨b₁, hp⟩ | ⟨b₁, hp⟩
    · refine W_cT (t := (decide (x < (s.length : Int)))) rfl b₁ ?_
      refine W_sk ?_
      refine then_n ?_
      refine W_sq ?_
      refine W_bl ?_
      refine W_sq ?_
      refine W_rg ?_
      refine WO_v (a_mv (v := .i .i64 x) q₂_8) ?_
      refine WO_v (a_mv (v := .i .i64 x) rfl) ?_
      refine WO_end ?_
      refine then_n ?_
      refine W_sq ?_
      refine W_rg ?_
      refine WO_v (a_mv (v := .f id_f cap_f) q₂_1) ?_
      refine WO_v (a_mv (v := v_s) q₂_0) ?_
      refine WO_v (a_mv (v := .i .i64 x) rfl) ?_
      obtain ⟨c₁, hp⟩ := ck_some hp
      refine WO_v (a_ixa (E := eInt) (z := x) (hO₂.rd0 s_s.rd : Sl eInt k₂ v_s s) rfl rfl c₁) ?_
      refine WO_v (a_ldE (w := .i .i64 (gi s (x : Int).toNat)) (hO₂.rd0 s_s.rd : Sl eInt k₂ v_s s) rfl (toNat_lt c₁) rfl) ?_
      obtain ⟨x2, hx₁, hp⟩ := bd_some hp
      obtain ⟨u₁, k₃, ca₁, rfl, hW₁⟩ := f_f _ _ _ hO₂.ext hx₁
      refine WO_c (id := id_f) (caps := cap_f) rfl (mp_cons (v := .i .i64 (gi s (x : Int).toNat)) rfl mp_nil) ca₁ ?_
      have hO₃ : Own B h k₃ [] := hO₂.call hW₁ rfl
      refine WO_end ?_
      refine then_n ?_
      rcases if_some hp with ⟨b₂, hp⟩ | ⟨b₂, hp⟩
      · refine W_cT (t := x2) rfl b₂ ?_
        refine W_sq ?_
        refine W_rg ?_
        refine WO_v (a_mv (v := .i .i64 x) rfl) ?_
        refine WO_v (a_mv (v := .i .i64 x) rfl) ?_
        refine WO_end ?_
        refine then_n ?_
        refine W_rt ?_
        refine blk_r ?_
        refine then_r ?_
        have hp := Option.some.inj hp; subst hp
        refine (Or.inr (Exists.intro (.inr x) (And.intro rfl (And.intro (fun h => nomatch h) (fun he => ?_)))))
        subst he; exact (And.intro rfl (And.intro (rfl) (hO₃.pick [] rfl (by decide))))
      · refine W_cF (t := x2) rfl b₂ ?_
        refine W_sk ?_
        refine blk_n ?_
        refine then_n ?_
        refine W_rg ?_
        obtain ⟨c₂, hp⟩ := ck_some hp
        refine WO_v (a_add (a := x) (b := 1) q₂_8 rfl c₂) ?_
        refine WO_v (a_mv (v := .i .i64 (x + 1)) rfl) ?_
        refine WO_end ?_
        have hp := Option.some.inj hp; subst hp
        exact (Or.inl (Exists.intro (x + 1) (And.intro rfl (And.intro rfl (And.intro (q₂_0) (And.intro (q₂_1) (And.intro (q₂_7) (And.intro (rfl) (hO₃.pick [] rfl (by decide))))))))))
    · refine W_cF (t := (decide (x < (s.length : Int)))) rfl b₁ ?_
      refine W_ex ?_
      refine then_e ?_
      have hp := Option.some.inj hp; subst hp
      refine (Or.inr (Exists.intro (.inl ()) (And.intro rfl (And.intro (fun h => nomatch h) (fun he => ?_)))))
      subst he; exact (And.intro rfl (hO₂.pick [] rfl (by decide)))
  intro e₁ q₁ k₁ hJ₁
  rcases o₁ with _ | x1
  · obtain ⟨rfl, hO₁⟩ := hJ₁
    refine blk_i ?_
    refine then_n ?_
    refine W_sq ?_
    refine W_rg ?_
    refine WO_v (a_mv (v := .i .i64 (-1)) rfl) ?_
    refine WO_end ?_
    refine then_n ?_
    refine W_rt ?_
    refine Ret_r (rs_t (n := 4) (v := .i .i64 (-1)) rfl rs_nil) ?_
    have hp := Option.some.inj hp; subst hp
    exact (And.intro rfl (hO₁.pick [] rfl (by decide)))
  · obtain ⟨rfl, q₁_4, hO₁⟩ := hJ₁
    refine blk_r ?_
    refine then_r ?_
    refine Ret_r (rs_t (n := 4) (v := .i .i64 x1) q₁_4 rs_nil) ?_
    have hp := Option.some.inj hp; subst hp
    exact (And.intro rfl (hO₁.pick [] rfl (by decide)))

theorem p_slices_ContainsFunc_int.ok {h : Hp} {s : List Int} {f : Int → Option Bool} {v_s : V} {id_f : Nat} {cap_f : List V} (s_s : Sl eInt h v_s s) (f_f : ∀ (k : Hp) (x0 : Int) (y : Bool), Ex' (fun r => r < h.n) h k → f x0 = some y → ∃ u k', Is G id_f (.i .i64 x0 :: cap_f) k u k' ∧ V.b y = u ∧ Own (fun r => r < k.n) k k' []) {r : Bool} (hp : p_slices_ContainsFunc_int s f = some r) :
    ∃ u k', Is G 78 [v_s, .f id_f cap_f] h u k' ∧ V.b r = u ∧ Own (fun r => r < h.n) h k' [] := by
  refine WC.is (WC_of G_F_slices_ContainsFunc_int ?_)
  unfold p_slices_ContainsFunc_int at hp
  let B : Nat → Prop := (fun r => r < h.n)
  have hO : Own B h h [] := Own.start0 h
  refine W_sq ?_
  refine W_rg ?_
  refine WO_v (a_mv (v := .b false) rfl) ?_
  refine WO_end ?_
  refine then_n ?_
  refine W_sq ?_
  refine W_rg ?_
  refine WO_v (a_mv (v := v_s) rfl) ?_
  refine WO_v (a_mv (v := .f id_f cap_f) rfl) ?_
  obtain ⟨x, hx₁, hp⟩ := bd_some hp
  obtain ⟨u₁, k₁, ca₁, rfl, hW₁⟩ := p_slices_IndexFunc_int.ok (h := h)  (hO.rd0 s_s.rd : Sl eInt h v_s s) (fun k z0 y hk hx => f_f k z0 y (exTo hO hk) hx) hx₁
  refine WO_c (id := 91) (caps := []) rfl (mp_cons (v := v_s) rfl (mp_cons (v := .f id_f cap_f) rfl mp_nil)) ca₁ ?_
  have hO₁ : Own B h k₁ [] := hO.call hW₁ rfl
  refine WO_v (a_geq (a := x) (b := 0) rfl rfl) ?_
  refine WO_v (a_mv (v := .b (decide (0 ≤ x))) rfl) ?_
  refine WO_end ?_
  refine then_n ?_
  refine W_rt ?_
  refine Ret_r (rs_t (n := 4) (v := .b (decide (0 ≤ x))) rfl rs_nil) ?_
  have hp := Option.some.inj hp; subst hp
  exact (And.intro rfl (hO₁.pick [] rfl (by decide)))

theorem p_kitty_right_1.ok {h : Hp} {t : Int}   {r : Bool} (hp : p_kitty_right_1 t = some r) :
    ∃ u k', Is G 80 [.i .i64 t] h u k' ∧ V.b r = u ∧ Own (fun r => r < h.n) h k' [] := by
  refine WC.is (WC_of G_F_kitty_right_1 ?_)
  unfold p_kitty_right_1 at hp
  let B : Nat → Prop := (fun r => r < h.n)
  have hO : Own B h h [] := Own.start0 h
  refine W_sq ?_
  refine W_rg ?_
  refine WO_v (a_mv (v := .b false) rfl) ?_
  refine WO_end ?_
  refine then_n ?_
  refine W_sq ?_
  refine W_rg ?_
  refine WO_v (a_mv (v := .i .i64 t) rfl) ?_
  refine WO_v (a_lss (a := t) (b := (-2)) rfl rfl) ?_
  refine WO_v (a_mv (v := .b (decide (t < (-2)))) rfl) ?_
  refine WO_cut 3 (fun fr' k' => h = k' ∧ fr' 8 = .b ((decide (t < (-2))) || (decide (1 < t)))) ?_ ?_
  · rcases bc (decide (t < (-2))) with b₁ | b₁
    · skip
      refine WO_off rfl b₁ ?_
      refine WO_off rfl b₁ ?_
      refine WO_v (a_pickT (t := (decide (t < (-2)))) (v := .b ((decide (t < (-2))) || (decide (1 < t)))) rfl b₁ (Eq.trans (b := V.b true) rfl (or_off b₁))) ?_
      refine WO_end ?_
      exact ⟨rfl, rfl⟩
    · skip
      refine WO_on rfl b₁ ?_
      refine WO_v (a_mv (v := .i .i64 t) rfl) ?_
      refine WO_on rfl b₁ ?_
      refine WO_v (a_gtr (a := t) (b := 1) rfl rfl) ?_
      refine WO_v (a_pickF (t := (decide (t < (-2)))) (v := .b ((decide (t < (-2))) || (decide (1 < t)))) rfl b₁ (Eq.trans (b := V.b (decide (1 < t))) rfl (or_on b₁))) ?_
      refine WO_end ?_
      exact ⟨rfl, rfl⟩
  rintro frg₁ _ ⟨rfl, g₁_8⟩
  refine WO_v (a_mv (v := .b ((decide (t < (-2))) || (decide (1 < t)))) g₁_8) ?_
  refine WO_end ?_
  refine then_n ?_
  refine W_rt ?_
  refine Ret_r (rs_t (n := 2) (v := .b ((decide (t < (-2))) || (decide (1 < t)))) rfl rs_nil) ?_
  have hp := Option.some.inj hp; subst hp
  exact (And.intro rfl (hO.pick [] rfl (by decide)))

theorem p_kitty_right.ok {h : Hp} {turns : List Int} {v_turns : V} (s_turns : Sl eInt h v_turns turns) {r : Bool} (hp : p_kitty_right turns = some r) :
    ∃ u k', Is G 59 [v_turns] h u k' ∧ V.b r = u ∧ Own (fun r => r < h.n) h k' [] := by
  refine WC.is (WC_of G_F_kitty_right ?_)
  unfold p_kitty_right at hp
  let B : Nat → Prop := (fun r => r < h.n)
  have hO : Own B h h [] := Own.start0 h
  refine W_sq ?_
  refine W_rg ?_
  refine WO_v (a_mv (v := .b false) rfl) ?_
  refine WO_end ?_
  refine then_n ?_
  refine W_sq ?_
  refine W_rg ?_
  refine WO_v (a_mv (v := v_turns) rfl) ?_
  obtain ⟨x, hx₁, hp⟩ := bd_some hp
  obtain ⟨u₁, k₁, ca₁, rfl, hW₁⟩ := p_slices_ContainsFunc_int.ok (h := h)  (hO.rd0 s_turns.rd : Sl eInt h v_turns turns) (fun k z0 y hk hx => p_kitty_right_1.ok (h := k)  hx) hx₁
  refine WO_c (id := 78) (caps := []) rfl (mp_cons (v := v_turns) rfl (mp_cons (v := .f 80 []) rfl mp_nil)) ca₁ ?_
  have hO₁ : Own B h k₁ [] := hO.call hW₁ rfl
  refine WO_v (a_not (t := x) rfl) ?_
  refine WO_v (a_mv (v := .b (!x)) rfl) ?_
  refine WO_end ?_
  refine then_n ?_
  refine W_rt ?_
  refine Ret_r (rs_t (n := 2) (v := .b (!x)) rfl rs_nil) ?_
  have hp := Option.some.inj hp; subst hp
  exact (And.intro rfl (hO₁.pick [] rfl (by decide)))

theorem p_slices_Index_kitty_Corner.ok {h : Hp} {s : List T_kitty_Corner} {v : T_kitty_Corner} {v_s : V} (s_s : Sl e_T_kitty_Corner h v_s s) {r : Int} (hp : p_slices_Index_kitty_Corner s v = some r) :
    ∃ u k', Is G 81 [v_s, .ag (e_T_kitty_Corner.c v)] h u k' ∧ V.i .i64 r = u ∧ Own (fun r => r < h.n) h k' [] := by
  refine WC.is (WC_of G_F_slices_Index_kitty_Corner ?_)
  unfold p_slices_Index_kitty_Corner at hp
  let B : Nat → Prop := (fun r => r < h.n)
  have hO : Own B h h [] := Own.start0 h
  refine W_sq ?_
  refine W_rg ?_
  refine WO_x (hO.boxd (v := .ag (e_T_kitty_Corner.c v)) (cs := e_T_kitty_Corner.c v) hO.fr rfl rfl) ?_
  rintro _ k₁ ⟨r₁, rfl, n₁, f₁, hW⟩
  have hO₁ : Own B h k₁ [eBox r₁ (e_T_kitty_Corner.c v)] := hW
  refine WO_v (a_mv (v := .i .i64 0) rfl) ?_
  refine WO_end ?_
  refine then_n ?_
  refine W_sq ?_
  refine W_sq ?_
  refine W_rg ?_
  refine WO_v (a_mv (v := v_s) rfl) ?_
  refine WO_v (a_len (hO₁.rd0 s_s.rd : Sl e_T_kitty_Corner k₁ v_s s) rfl) ?_
  refine WO_v (a_mv (v := .i .i64 0) rfl) ?_
  refine WO_end ?_
  refine then_n ?_
  refine W_bl ?_
  obtain ⟨o₁, ho₁, hp⟩ := bd_some hp
  refine W.mono (Q := fun e fr k => match (generalizing := false) o₁ with
      | .inl _ => e = (.exit 0) ∧ Own B h k []
      | .inr x1 => e = .ret ∧ fr 4 = .i .i64 x1 ∧ Own B h k []) ?_ ?_
  · clear hp
    refine W_loopF (fun st fr k => match st with | x => fr 0 = v_s ∧ fr 3 = .p r₁ 0 ∧ fr 7 = .i .i64 (s.length : Int) ∧ fr 8 = .i .i64 x ∧ Own B h k [eBox r₁ (e_T_kitty_Corner.c v)]) ho₁ (s := 0) (And.intro (rfl) (And.intro (rfl) (And.intro (rfl) (And.intro (rfl) (hO₁.pick [0] rfl (by decide)))))) ?_
    rintro x q₂ k₃ ⟨q₂_0, q₂_3, q₂_7, q₂_8, hO₃⟩ o₂ hp
    dsimp only [p_slices_Index_kitty_Corner.s0] at hp
    refine W_sq ?_
    refine W_rg ?_
    refine WO_v (a_lss (a := x) (b := (s.length : Int)) q₂_8 q₂_7) ?_
    refine WO_end ?_
    refine then_n ?_
    refine W_sq ?_
    rcases if_some hp with ⟨b₁, hp⟩ | ⟨b₁, hp⟩
    · refine W_cT (t := (decide (x < (s.length : Int)))) rfl b₁ ?_
      refine W_sk ?_
      refine then_n ?_
      refine W_sq ?_
      refine W_bl ?_
      refine W_sq ?_
      refine W_rg ?_
      refine WO_v (a_mv (v := .i .i64 x) q₂_8) ?_
      refine WO_v (a_mv (v := .i .i64 x) rfl) ?_
      refine WO_end ?_
      refine then_n ?_
      refine W_sq ?_
      refine W_qd ?_
      have hW := hO₃.bump 6
      have hO₄ : Own B h (k₃.bump 6) [eBox r₁ (e_T_kitty_Corner.c v)] := hW
      refine WQ_v rfl (a_ldbA (cs := (e_T_kitty_Corner.c v)) (ws := e_T_kitty_Corner.c v) (hO₄.box 0 rfl) q₂_3 rfl) ?_
      refine WQ_v rfl (a_mv (v := v_s) q₂_0) ?_
      refine WQ_v rfl (a_mv (v := .i .i64 x) rfl) ?_
      obtain ⟨c₁, hp⟩ := ck_some hp
      refine WQ_v rfl (a_ixa (E := e_T_kitty_Corner) (z := x) (hO₄.rd0 s_s.rd : Sl e_T_kitty_Corner (k₃.bump 6) v_s s) rfl rfl c₁) ?_
      refine WQ_v rfl (a_ldA (E := e_T_kitty_Corner) (hO₄.rd0 s_s.rd : Sl e_T_kitty_Corner (k₃.bump 6) v_s s) rfl (toNat_lt c₁)) ?_
      refine WQ_v rfl (a_eqA (as := e_T_kitty_Corner.c v) (bs := e_T_kitty_Corner.c (gi s (x : Int).toNat)) rfl rfl (Mu.e_T_kitty_Corner.same _ _)) ?_
      refine WQ_end ?_
      refine then_n ?_
      rcases if_some hp with ⟨b₂, hp⟩ | ⟨b₂, hp⟩
      · refine W_cT (t := (decide (v = gi s (x : Int).toNat))) rfl b₂ ?_
        refine W_sq ?_
        refine W_rg ?_
        refine WO_v (a_mv (v := .i .i64 x) rfl) ?_
        refine WO_v (a_mv (v := .i .i64 x) rfl) ?_
        refine WO_end ?_
        refine then_n ?_
        refine W_rt ?_
        refine blk_r ?_
        refine then_r ?_
        have hp := Option.some.inj hp; subst hp
        refine (Or.inr (Exists.intro (.inr x) (And.intro rfl (And.intro (fun h => nomatch h) (fun he => ?_)))))
        subst he; exact (And.intro rfl (And.intro (rfl) (hO₄.pick [] rfl (by decide))))
      · refine W_cF (t := (decide (v = gi s (x : Int).toNat))) rfl b₂ ?_
        refine W_sk ?_
        refine blk_n ?_
        refine then_n ?_
        refine W_rg ?_
        obtain ⟨c₂, hp⟩ := ck_some hp
        refine WO_v (a_add (a := x) (b := 1) q₂_8 rfl c₂) ?_
        refine WO_v (a_mv (v := .i .i64 (x + 1)) rfl) ?_
        refine WO_end ?_
        have hp := Option.some.inj hp; subst hp
        exact (Or.inl (Exists.intro (x + 1) (And.intro rfl (And.intro rfl (And.intro (q₂_0) (And.intro (q₂_3) (And.intro (q₂_7) (And.intro (rfl) (hO₄.pick [0] rfl (by decide))))))))))
    · refine W_cF (t := (decide (x < (s.length : Int)))) rfl b₁ ?_
      refine W_ex ?_
      refine then_e ?_
      have hp := Option.some.inj hp; subst hp
      refine (Or.inr (Exists.intro (.inl ()) (And.intro rfl (And.intro (fun h => nomatch h) (fun he => ?_)))))
      subst he; exact (And.intro rfl (hO₃.pick [] rfl (by decide)))
  intro e₁ q₁ k₂ hJ₁
  rcases o₁ with _ | x1
  · obtain ⟨rfl, hO₂⟩ := hJ₁
    refine blk_i ?_
    refine then_n ?_
    refine W_sq ?_
    refine W_rg ?_
    refine WO_v (a_mv (v := .i .i64 (-1)) rfl) ?_
    refine WO_end ?_
    refine then_n ?_
    refine W_rt ?_
    refine Ret_r (rs_t (n := 4) (v := .i .i64 (-1)) rfl rs_nil) ?_
    have hp := Option.some.inj hp; subst hp
    exact (And.intro rfl (hO₂.pick [] rfl (by decide)))
  · obtain ⟨rfl, q₁_4, hO₂⟩ := hJ₁
    refine blk_r ?_
    refine then_r ?_
    refine Ret_r (rs_t (n := 4) (v := .i .i64 x1) q₁_4 rs_nil) ?_
    have hp := Option.some.inj hp; subst hp
    exact (And.intro rfl (hO₂.pick [] rfl (by decide)))

theorem p_slices_Contains_kitty_Corner.ok {h : Hp} {s : List T_kitty_Corner} {v : T_kitty_Corner} {v_s : V} (s_s : Sl e_T_kitty_Corner h v_s s) {r : Bool} (hp : p_slices_Contains_kitty_Corner s v = some r) :
    ∃ u k', Is G 60 [v_s, .ag (e_T_kitty_Corner.c v)] h u k' ∧ V.b r = u ∧ Own (fun r => r < h.n) h k' [] := by
  refine WC.is (WC_of G_F_slices_Contains_kitty_Corner ?_)
  unfold p_slices_Contains_kitty_Corner at hp
  let B : Nat → Prop := (fun r => r < h.n)
  have hO : Own B h h [] := Own.start0 h
  refine W_sq ?_
  refine W_rg ?_
  refine WO_x (hO.boxd (v := .ag (e_T_kitty_Corner.c v)) (cs := e_T_kitty_Corner.c v) hO.fr rfl rfl) ?_
  rintro _ k₁ ⟨r₁, rfl, n₁, f₁, hW⟩
  have hO₁ : Own B h k₁ [eBox r₁ (e_T_kitty_Corner.c v)] := hW
  refine WO_v (a_mv (v := .b false) rfl) ?_
  refine WO_end ?_
  refine then_n ?_
  refine W_sq ?_
  refine W_rg ?_
  refine WO_v (a_mv (v := v_s) rfl) ?_
  refine WO_v (a_ldbA (cs := (e_T_kitty_Corner.c v)) (ws := e_T_kitty_Corner.c v) (hO₁.box 0 rfl) rfl rfl) ?_
  obtain ⟨x, hx₁, hp⟩ := bd_some hp
  obtain ⟨u₁, k₂, ca₁, rfl, hW₁⟩ := p_slices_Index_kitty_Corner.ok (h := k₁)  (hO₁.rd0 s_s.rd : Sl e_T_kitty_Corner k₁ v_s s) hx₁
  refine WO_c (id := 81) (caps := []) rfl (mp_cons (v := v_s) rfl (mp_cons (v := .ag (e_T_kitty_Corner.c v)) rfl mp_nil)) ca₁ ?_
  have hO₂ : Own B h k₂ [eBox r₁ (e_T_kitty_Corner.c v)] := hO₁.call hW₁ rfl
  refine WO_v (a_geq (a := x) (b := 0) rfl rfl) ?_
  refine WO_v (a_mv (v := .b (decide (0 ≤ x))) rfl) ?_
  refine WO_end ?_
  refine then_n ?_
  refine W_rt ?_
  refine Ret_r (rs_t (n := 4) (v := .b (decide (0 ≤ x))) rfl rs_nil) ?_
  have hp := Option.some.inj hp; subst hp
  exact (And.intro rfl (hO₂.pick [] rfl (by decide)))

theorem p_kitty_sums.ok {h : Hp} {turns : List Int} {v_turns : V} (s_turns : Sl eInt h v_turns turns) {r : (List Int)} (hp : p_kitty_sums turns = some r) :
    ∃ u k', Is G 62 [v_turns] h u k' ∧ ∃ (v₁ : V), v₁ = u ∧ Own (fun r => r < h.n) h k' [eSl eInt v₁ r] := by
  refine WC.is (WC_of G_F_kitty_sums ?_)
  unfold p_kitty_sums at hp
  let B : Nat → Prop := (fun r => r < h.n)
  have hO : Own B h h [] := Own.start0 h
  refine W_sq ?_
  refine W_rg ?_
  refine WO_v (a_mv (v := .sn) rfl) ?_
  refine WO_end ?_
  refine then_n ?_
  refine W_sq ?_
  refine W_rg ?_
  refine WO_v (a_mv (v := v_turns) rfl) ?_
  refine WO_v (a_len (hO.rd0 s_turns.rd : Sl eInt h v_turns turns) rfl) ?_
  obtain ⟨c₁, hp⟩ := ck_some hp
  refine WO_v (a_add (a := (turns.length : Int)) (b := 1) rfl rfl c₁) ?_
  obtain ⟨c₂, hp⟩ := ck_some hp
  refine WO_x (hO.mks (E := eInt) (y := (0 : Int)) (bytes := 8) (z := ((turns.length : Int) + 1)) hO.fr rfl rfl rfl c₂ (by decide)) ?_
  rintro v₂ k₁ ⟨r₁, f₁, hW⟩
  have hO₁ : Own B h k₁ [eSl eInt v₂ (List.replicate ((turns.length : Int) + 1 : Int).toNat (0 : Int))] := hW
  refine WO_v (a_mv (v := v₂) rfl) ?_
  refine WO_end ?_
  refine then_n ?_
  refine W_sq ?_
  refine W_sq ?_
  refine W_rg ?_
  refine WO_v (a_mv (v := v_turns) rfl) ?_
  refine WO_v (a_len (hO₁.rd0 s_turns.rd : Sl eInt k₁ v_turns turns) rfl) ?_
  refine WO_v (a_mv (v := .i .i64 0) rfl) ?_
  refine WO_end ?_
  refine then_n ?_
  refine W_bl ?_
  obtain ⟨o₁, ho₁, hp⟩ := bd_some hp
  refine W.mono (Q := fun e fr k => match (generalizing := false) o₁ with
      | l1 => e = (.exit 0) ∧ fr 3 = v₂ ∧ Own B h k [eSl eInt v₂ l1]) ?_ ?_
  · clear hp
    refine W_loopF (fun st fr k => match st with | (l, x) => fr 3 = v₂ ∧ fr 10 = v_turns ∧ fr 11 = .i .i64 (turns.length : Int) ∧ fr 12 = .i .i64 x ∧ Own B h k [eSl eInt v₂ l]) ho₁ (s := (List.replicate ((turns.length : Int) + 1 : Int).toNat (0 : Int), 0)) (And.intro (rfl) (And.intro (rfl) (And.intro (rfl) (And.intro (rfl) (hO₁.pick [0] rfl (by decide)))))) ?_
    rintro ⟨l, x⟩ q₂ k₃ ⟨q₂_3, q₂_10, q₂_11, q₂_12, hO₃⟩ o₂ hp
    dsimp only [p_kitty_sums.s0] at hp
    refine W_sq ?_
    refine W_rg ?_
    refine WO_v (a_lss (a := x) (b := (turns.length : Int)) q₂_12 q₂_11) ?_
    refine WO_end ?_
    refine then_n ?_
    refine W_sq ?_
    rcases if_some hp with ⟨b₁, hp⟩ | ⟨b₁, hp⟩
    · refine W_cT (t := (decide (x < (turns.length : Int)))) rfl b₁ ?_
      refine W_sk ?_
      refine then_n ?_
      refine W_sq ?_
      refine W_bl ?_
      refine W_sq ?_
      refine W_rg ?_
      refine WO_v (a_mv (v := .i .i64 x) q₂_12) ?_
      obtain ⟨c₃, hp⟩ := ck_some hp
      refine WO_v (a_ixa (E := eInt) (z := x) (hO₃.rd0 s_turns.rd : Sl eInt k₃ v_turns turns) q₂_10 q₂_12 c₃) ?_
      refine WO_v (a_ldE (w := .i .i64 (gi turns (x : Int).toNat)) (hO₃.rd0 s_turns.rd : Sl eInt k₃ v_turns turns) rfl (toNat_lt c₃) rfl) ?_
      refine WO_v (a_mv (v := .i .i64 x) rfl) ?_
      refine WO_v (a_mv (v := .i .i64 (gi turns (x : Int).toNat)) rfl) ?_
      refine WO_end ?_
      refine then_n ?_
      refine W_rg ?_
      refine WO_v (a_mv (v := v₂) q₂_3) ?_
      refine WO_v (a_mv (v := .i .i64 x) rfl) ?_
      obtain ⟨c₄, hp⟩ := ck_some hp
      refine WO_v (a_add (a := x) (b := 1) rfl rfl c₄) ?_
      refine WO_v (a_mv (v := v₂) q₂_3) ?_
      refine WO_v (a_mv (v := .i .i64 x) rfl) ?_
      obtain ⟨c₅, hp⟩ := ck_some hp
      refine WO_v (a_ixa (E := eInt) (z := x) (hO₃.sl 0 rfl : Sl eInt k₃ v₂ l) rfl rfl c₅) ?_
      refine WO_v (a_ldE (w := .i .i64 (gi l (x : Int).toNat)) (hO₃.sl 0 rfl : Sl eInt k₃ v₂ l) rfl (toNat_lt c₅) rfl) ?_
      refine WO_v (a_mv (v := .i .i64 (gi turns (x : Int).toNat)) rfl) ?_
      obtain ⟨c₆, hp⟩ := ck_some hp
      refine WO_v (a_add (a := (gi l (x : Int).toNat)) (b := (gi turns (x : Int).toNat)) rfl rfl c₆) ?_
      obtain ⟨c₇, hp⟩ := ck_some hp
      refine WO_v (a_ixa (E := eInt) (z := (x + 1)) (hO₃.sl 0 rfl : Sl eInt k₃ v₂ l) rfl rfl c₇) ?_
      refine WO_x (hO₃.ste (E := eInt) (y := ((gi l (x : Int).toNat) + (gi turns (x : Int).toNat))) (ws := [.i .i64 ((gi l (x : Int).toNat) + (gi turns (x : Int).toNat))]) 0 rfl rfl (toNat_lt c₇) rfl rfl ⟨rfl, Nat.le_of_ble_eq_true rfl, rfl⟩ rfl) ?_
      rintro _ k₄ ⟨rfl, f₂, m₁, hW⟩
      have hO₄ : Own B h k₄ [eSl eInt v₂ (l.set (x + 1 : Int).toNat ((gi l (x : Int).toNat) + (gi turns (x : Int).toNat)))] := hW
      refine WO_end ?_
      refine blk_n ?_
      refine then_n ?_
      refine W_rg ?_
      refine WO_v (a_add (a := x) (b := 1) q₂_12 rfl c₄) ?_
      refine WO_v (a_mv (v := .i .i64 (x + 1)) rfl) ?_
      refine WO_end ?_
      have hp := Option.some.inj hp; subst hp
      exact (Or.inl (Exists.intro (l.set (x + 1 : Int).toNat ((gi l (x : Int).toNat) + (gi turns (x : Int).toNat)), x + 1) (And.intro rfl (And.intro rfl (And.intro (q₂_3) (And.intro (q₂_10) (And.intro (q₂_11) (And.intro (rfl) (hO₄.pick [0] rfl (by decide))))))))))
    · refine W_cF (t := (decide (x < (turns.length : Int)))) rfl b₁ ?_
      refine W_ex ?_
      refine then_e ?_
      have hp := Option.some.inj hp; subst hp
      refine (Or.inr (Exists.intro l (And.intro rfl (And.intro (fun h => nomatch h) (fun he => ?_)))))
      subst he; exact (And.intro rfl (And.intro (q₂_3) (hO₃.pick [0] rfl (by decide))))
  intro e₁ q₁ k₂ hJ₁
  obtain ⟨l1, rfl⟩ : ∃ x, x = o₁ := ⟨_, rfl⟩
  obtain ⟨rfl, q₁_3, hO₂⟩ := hJ₁
  refine blk_i ?_
  refine then_n ?_
  refine W_sq ?_
  refine W_rg ?_
  refine WO_v (a_mv (v := v₂) q₁_3) ?_
  refine WO_v (a_mv (v := v₂) rfl) ?_
  refine WO_end ?_
  refine then_n ?_
  refine W_rt ?_
  refine Ret_r (rs_t (n := 2) (v := v₂) rfl rs_nil) ?_
  have hp := Option.some.inj hp; subst hp
  exact (Exists.intro v₂ (And.intro rfl (hO₂.pick [0] rfl (by decide))))

theorem p_kitty_rot.ok {h : Hp} {l : List Int} {a : T_kitty_Corner} {b : T_kitty_Corner} {v_l : V} (s_l : Sl eInt h v_l l) {r : Int} (hp : p_kitty_rot l a b = some r) :
    ∃ u k', Is G 61 [v_l, .ag (e_T_kitty_Corner.c a), .ag (e_T_kitty_Corner.c b)] h u k' ∧ V.i .i64 r = u ∧ Own (fun r => r < h.n) h k' [] := by
  refine WC.is (WC_of G_F_kitty_rot ?_)
  unfold p_kitty_rot at hp
  let B : Nat → Prop := (fun r => r < h.n)
  have hO : Own B h h [] := Own.start0 h
  refine W_sq ?_
  refine W_rg ?_
  refine WO_x (hO.boxd (v := .ag (e_T_kitty_Corner.c a)) (cs := e_T_kitty_Corner.c a) hO.fr rfl rfl) ?_
  rintro _ k₁ ⟨r₁, rfl, n₁, f₁, hW⟩
  have hO₁ : Own B h k₁ [eBox r₁ (e_T_kitty_Corner.c a)] := hW
  refine WO_x (hO₁.boxd (v := .ag (e_T_kitty_Corner.c b)) (cs := e_T_kitty_Corner.c b) hO₁.fr rfl rfl) ?_
  rintro _ k₂ ⟨r₂, rfl, n₂, f₂, hW⟩
  have hO₂ : Own B h k₂ [eBox r₁ (e_T_kitty_Corner.c a), eBox r₂ (e_T_kitty_Corner.c b)] := hW
  refine WO_v (a_mv (v := .i .i64 0) rfl) ?_
  refine WO_end ?_
  refine then_n ?_
  refine W_sq ?_
  refine W_qd ?_
  have hW := hO₂.bump 18
  have hO₃ : Own B h (k₂.bump 18) [eBox r₁ (e_T_kitty_Corner.c a), eBox r₂ (e_T_kitty_Corner.c b)] := hW
  refine WQ_v rfl (a_mv (v := v_l) rfl) ?_
  refine WQ_v rfl (a_fa (r := r₂) (o := 0) (o' := 0) rfl rfl) ?_
  refine WQ_v rfl (a_ldb (cs := (e_T_kitty_Corner.c b)) (v := .i .i64 b.At) (hO₃.box 1 rfl) rfl rfl) ?_
  obtain ⟨c₁, hp⟩ := ck_some hp
  refine WQ_v rfl (a_ixa (E := eInt) (z := b.At) (hO₃.rd0 s_l.rd : Sl eInt (k₂.bump 18) v_l l) rfl rfl c₁) ?_
  refine WQ_v rfl (a_ldE (w := .i .i64 (gi l (b.At : Int).toNat)) (hO₃.rd0 s_l.rd : Sl eInt (k₂.bump 18) v_l l) rfl (toNat_lt c₁) rfl) ?_
  refine WQ_v rfl (a_fa (r := r₂) (o := 0) (o' := 1) rfl rfl) ?_
  refine WQ_v rfl (a_ldb (cs := (e_T_kitty_Corner.c b)) (v := .i .i64 b.Part) (hO₃.box 1 rfl) rfl rfl) ?_
  obtain ⟨c₂, hp⟩ := ck_some hp
  refine WQ_v rfl (a_sub (a := (gi l (b.At : Int).toNat)) (b := b.Part) rfl rfl c₂) ?_
  refine WQ_v rfl (a_mv (v := v_l) rfl) ?_
  refine WQ_v rfl (a_fa (r := r₁) (o := 0) (o' := 0) rfl rfl) ?_
  refine WQ_v rfl (a_ldb (cs := (e_T_kitty_Corner.c a)) (v := .i .i64 a.At) (hO₃.box 0 rfl) rfl rfl) ?_
  obtain ⟨c₃, hp⟩ := ck_some hp
  refine WQ_v rfl (a_ixa (E := eInt) (z := a.At) (hO₃.rd0 s_l.rd : Sl eInt (k₂.bump 18) v_l l) rfl rfl c₃) ?_
  refine WQ_v rfl (a_ldE (w := .i .i64 (gi l (a.At : Int).toNat)) (hO₃.rd0 s_l.rd : Sl eInt (k₂.bump 18) v_l l) rfl (toNat_lt c₃) rfl) ?_
  refine WQ_v rfl (a_fa (r := r₁) (o := 0) (o' := 1) rfl rfl) ?_
  refine WQ_v rfl (a_ldb (cs := (e_T_kitty_Corner.c a)) (v := .i .i64 a.Part) (hO₃.box 0 rfl) rfl rfl) ?_
  obtain ⟨c₄, hp⟩ := ck_some hp
  refine WQ_v rfl (a_sub (a := (gi l (a.At : Int).toNat)) (b := a.Part) rfl rfl c₄) ?_
  obtain ⟨c₅, hp⟩ := ck_some hp
  refine WQ_v rfl (a_sub (a := ((gi l (b.At : Int).toNat) - b.Part)) (b := ((gi l (a.At : Int).toNat) - a.Part)) rfl rfl c₅) ?_
  refine WQ_v rfl (a_mv (v := .i .i64 (((gi l (b.At : Int).toNat) - b.Part) - ((gi l (a.At : Int).toNat) - a.Part))) rfl) ?_
  refine WQ_end ?_
  refine then_n ?_
  refine W_sq ?_
  refine W_sq ?_
  refine W_rg ?_
  refine WO_v (a_fa (r := r₂) (o := 0) (o' := 0) rfl rfl) ?_
  refine WO_v (a_ldb (cs := (e_T_kitty_Corner.c b)) (v := .i .i64 b.At) (hO₃.box 1 rfl) rfl rfl) ?_
  refine WO_v (a_fa (r := r₁) (o := 0) (o' := 0) rfl rfl) ?_
  refine WO_v (a_ldb (cs := (e_T_kitty_Corner.c a)) (v := .i .i64 a.At) (hO₃.box 0 rfl) rfl rfl) ?_
  refine WO_v (a_lss (a := b.At) (b := a.At) rfl rfl) ?_
  refine WO_v (a_mv (v := .b (decide (b.At < a.At))) rfl) ?_
  refine WO_cut 13 (fun fr' k' => (k₂.bump 18) = k' ∧ fr' 43 = .b ((decide (b.At < a.At)) || ((decide (b.At = a.At)) && (decide (b.Part < a.Part)))) ∧ fr' 0 = v_l ∧ fr' 7 = .i .i64 (((gi l (b.At : Int).toNat) - b.Part) - ((gi l (a.At : Int).toNat) - a.Part))) ?_ ?_
  · rcases bc (decide (b.At < a.At)) with b₁ | b₁
    · skip
      refine WO_off rfl b₁ ?_
      refine WO_off rfl b₁ ?_
      refine WO_off rfl b₁ ?_
      refine WO_off rfl b₁ ?_
      refine WO_off rfl b₁ ?_
      refine WO_off rfl b₁ ?_
      refine WO_un rfl ?_
      refine WO_un rfl ?_
      refine WO_un rfl ?_
      refine WO_un rfl ?_
      refine WO_un rfl ?_
      refine WO_off rfl b₁ ?_
      refine WO_v (a_pickT (t := (decide (b.At < a.At))) (v := .b ((decide (b.At < a.At)) || ((decide (b.At = a.At)) && (decide (b.Part < a.Part))))) rfl b₁ (Eq.trans (b := V.b true) rfl (or_off b₁))) ?_
      refine WO_end ?_
      exact ⟨rfl, rfl, rfl, rfl⟩
    · skip
      refine WO_on rfl b₁ ?_
      refine WO_v (a_fa (r := r₂) (o := 0) (o' := 0) rfl rfl) ?_
      refine WO_on rfl b₁ ?_
      refine WO_v (a_ldb (cs := (e_T_kitty_Corner.c b)) (v := .i .i64 b.At) (hO₃.box 1 rfl) rfl rfl) ?_
      refine WO_on rfl b₁ ?_
      refine WO_v (a_fa (r := r₁) (o := 0) (o' := 0) rfl rfl) ?_
      refine WO_on rfl b₁ ?_
      refine WO_v (a_ldb (cs := (e_T_kitty_Corner.c a)) (v := .i .i64 a.At) (hO₃.box 0 rfl) rfl rfl) ?_
      refine WO_on rfl b₁ ?_
      refine WO_v (a_eqI (a := b.At) (b := a.At) rfl rfl) ?_
      refine WO_on rfl b₁ ?_
      refine WO_v (a_mv (v := .b (decide (b.At = a.At))) rfl) ?_
      refine WO_cut 6 (fun fr' k' => (k₂.bump 18) = k' ∧ fr' 42 = .b ((decide (b.At = a.At)) && (decide (b.Part < a.Part))) ∧ fr' 0 = v_l ∧ fr' 30 = .b (decide (b.At < a.At)) ∧ fr' 7 = .i .i64 (((gi l (b.At : Int).toNat) - b.Part) - ((gi l (a.At : Int).toNat) - a.Part))) ?_ ?_
      · rcases bc (decide (b.At = a.At)) with b₂ | b₂
        · skip
          refine WO_on rfl b₂ ?_
          refine WO_v (a_fa (r := r₂) (o := 0) (o' := 1) rfl rfl) ?_
          refine WO_on rfl b₂ ?_
          refine WO_v (a_ldb (cs := (e_T_kitty_Corner.c b)) (v := .i .i64 b.Part) (hO₃.box 1 rfl) rfl rfl) ?_
          refine WO_on rfl b₂ ?_
          refine WO_v (a_fa (r := r₁) (o := 0) (o' := 1) rfl rfl) ?_
          refine WO_on rfl b₂ ?_
          refine WO_v (a_ldb (cs := (e_T_kitty_Corner.c a)) (v := .i .i64 a.Part) (hO₃.box 0 rfl) rfl rfl) ?_
          refine WO_on rfl b₂ ?_
          refine WO_v (a_lss (a := b.Part) (b := a.Part) rfl rfl) ?_
          refine WO_on rfl b₁ ?_
          refine WO_v (a_pickT (t := (decide (b.At = a.At))) (v := .b ((decide (b.At = a.At)) && (decide (b.Part < a.Part)))) rfl b₂ (Eq.trans (b := V.b (decide (b.Part < a.Part))) rfl (and_on b₂))) ?_
          refine WO_end ?_
          exact ⟨rfl, rfl, rfl, rfl, rfl⟩
        · skip
          refine WO_off rfl b₂ ?_
          refine WO_off rfl b₂ ?_
          refine WO_off rfl b₂ ?_
          refine WO_off rfl b₂ ?_
          refine WO_off rfl b₂ ?_
          refine WO_on rfl b₁ ?_
          refine WO_v (a_pickF (t := (decide (b.At = a.At))) (v := .b ((decide (b.At = a.At)) && (decide (b.Part < a.Part)))) rfl b₂ (Eq.trans (b := V.b false) rfl (and_off b₂))) ?_
          refine WO_end ?_
          exact ⟨rfl, rfl, rfl, rfl, rfl⟩
      rintro frg₁ _ ⟨rfl, g₁_42, g₁_0, g₁_30, g₁_7⟩
      refine WO_v (a_pickF (t := (decide (b.At < a.At))) (v := .b ((decide (b.At < a.At)) || ((decide (b.At = a.At)) && (decide (b.Part < a.Part))))) g₁_30 b₁ (Eq.trans (b := V.b ((decide (b.At = a.At)) && (decide (b.Part < a.Part)))) g₁_42 (or_on b₁))) ?_
      refine WO_end ?_
      exact ⟨rfl, rfl, g₁_0, g₁_7⟩
  rintro frg₂ _ ⟨rfl, g₂_43, g₂_0, g₂_7⟩
  refine WO_end ?_
  refine then_n ?_
  rcases if_some hp with ⟨b₃, hp⟩ | ⟨b₃, hp⟩
  · refine W_cT (t := ((decide (b.At < a.At)) || ((decide (b.At = a.At)) && (decide (b.Part < a.Part))))) g₂_43 b₃ ?_
    refine W_rg ?_
    refine WO_v (a_mv (v := .i .i64 (((gi l (b.At : Int).toNat) - b.Part) - ((gi l (a.At : Int).toNat) - a.Part))) g₂_7) ?_
    refine WO_v (a_mv (v := v_l) g₂_0) ?_
    refine WO_v (a_mv (v := v_l) g₂_0) ?_
    refine WO_v (a_len (hO₃.rd0 s_l.rd : Sl eInt (k₂.bump 18) v_l l) rfl) ?_
    obtain ⟨c₆, hp⟩ := ck_some hp
    refine WO_v (a_sub (a := (l.length : Int)) (b := 1) rfl rfl c₆) ?_
    obtain ⟨c₇, hp⟩ := ck_some hp
    refine WO_v (a_ixa (E := eInt) (z := ((l.length : Int) - 1)) (hO₃.rd0 s_l.rd : Sl eInt (k₂.bump 18) v_l l) rfl rfl c₇) ?_
    refine WO_v (a_ldE (w := .i .i64 (gi l ((l.length : Int) - 1 : Int).toNat)) (hO₃.rd0 s_l.rd : Sl eInt (k₂.bump 18) v_l l) rfl (toNat_lt c₇) rfl) ?_
    obtain ⟨c₈, hp⟩ := ck_some hp
    refine WO_v (a_add (a := (((gi l (b.At : Int).toNat) - b.Part) - ((gi l (a.At : Int).toNat) - a.Part))) (b := (gi l ((l.length : Int) - 1 : Int).toNat)) rfl rfl c₈) ?_
    refine WO_v (a_mv (v := .i .i64 ((((gi l (b.At : Int).toNat) - b.Part) - ((gi l (a.At : Int).toNat) - a.Part)) + (gi l ((l.length : Int) - 1 : Int).toNat))) rfl) ?_
    refine WO_end ?_
    refine then_n ?_
    refine W_sq ?_
    refine W_rg ?_
    refine WO_v (a_mv (v := .i .i64 ((((gi l (b.At : Int).toNat) - b.Part) - ((gi l (a.At : Int).toNat) - a.Part)) + (gi l ((l.length : Int) - 1 : Int).toNat))) rfl) ?_
    refine WO_v (a_mv (v := .i .i64 ((((gi l (b.At : Int).toNat) - b.Part) - ((gi l (a.At : Int).toNat) - a.Part)) + (gi l ((l.length : Int) - 1 : Int).toNat))) rfl) ?_
    refine WO_end ?_
    refine then_n ?_
    refine W_rt ?_
    refine Ret_r (rs_t (n := 6) (v := .i .i64 ((((gi l (b.At : Int).toNat) - b.Part) - ((gi l (a.At : Int).toNat) - a.Part)) + (gi l ((l.length : Int) - 1 : Int).toNat))) rfl rs_nil) ?_
    have hp := Option.some.inj hp; subst hp
    exact (And.intro rfl (hO₃.pick [] rfl (by decide)))
  · refine W_cF (t := ((decide (b.At < a.At)) || ((decide (b.At = a.At)) && (decide (b.Part < a.Part))))) g₂_43 b₃ ?_
    refine W_sk ?_
    refine then_n ?_
    refine W_sq ?_
    refine W_rg ?_
    refine WO_v (a_mv (v := .i .i64 (((gi l (b.At : Int).toNat) - b.Part) - ((gi l (a.At : Int).toNat) - a.Part))) g₂_7) ?_
    refine WO_v (a_mv (v := .i .i64 (((gi l (b.At : Int).toNat) - b.Part) - ((gi l (a.At : Int).toNat) - a.Part))) rfl) ?_
    refine WO_end ?_
    refine then_n ?_
    refine W_rt ?_
    refine Ret_r (rs_t (n := 6) (v := .i .i64 (((gi l (b.At : Int).toNat) - b.Part) - ((gi l (a.At : Int).toNat) - a.Part))) rfl rs_nil) ?_
    have hp := Option.some.inj hp; subst hp
    exact (And.intro rfl (hO₃.pick [] rfl (by decide)))

theorem p_kitty_Rot.ok {h : Hp} {turns : List Int} {a : T_kitty_Corner} {b : T_kitty_Corner} {v_turns : V} (s_turns : Sl eInt h v_turns turns) {r : Int × Int} (hp : p_kitty_Rot turns a b = some r) :
    ∃ u k', Is G 22 [v_turns, .ag (e_T_kitty_Corner.c a), .ag (e_T_kitty_Corner.c b)] h u k' ∧ V.tu [.i .i64 r.1, .i .i64 r.2] = u ∧ Own (fun r => r < h.n) h k' [] := by
  refine WC.is (WC_of G_F_kitty_Rot ?_)
  unfold p_kitty_Rot at hp
  let B : Nat → Prop := (fun r => r < h.n)
  have hO : Own B h h [] := Own.start0 h
  refine W_sq ?_
  refine W_rg ?_
  refine WO_x (hO.boxd (v := .ag (e_T_kitty_Corner.c a)) (cs := e_T_kitty_Corner.c a) hO.fr rfl rfl) ?_
  rintro _ k₁ ⟨r₁, rfl, n₁, f₁, hW⟩
  have hO₁ : Own B h k₁ [eBox r₁ (e_T_kitty_Corner.c a)] := hW
  refine WO_x (hO₁.boxd (v := .ag (e_T_kitty_Corner.c b)) (cs := e_T_kitty_Corner.c b) hO₁.fr rfl rfl) ?_
  rintro _ k₂ ⟨r₂, rfl, n₂, f₂, hW⟩
  have hO₂ : Own B h k₂ [eBox r₁ (e_T_kitty_Corner.c a), eBox r₂ (e_T_kitty_Corner.c b)] := hW
  refine WO_v (a_mv (v := .i .i64 0) rfl) ?_
  refine WO_v (a_mv (v := .i .i64 0) rfl) ?_
  refine WO_end ?_
  refine then_n ?_
  refine W_sq ?_
  refine W_rg ?_
  refine WO_v (a_mv (v := v_turns) rfl) ?_
  obtain ⟨x, hx₁, hp⟩ := bd_some hp
  obtain ⟨u₁, k₃, ca₁, v₁, rfl, hW₁⟩ := p_kitty_Corners.ok (h := k₂)  (hO₂.rd0 s_turns.rd : Sl eInt k₂ v_turns turns) hx₁
  refine WO_c (id := 19) (caps := []) rfl (mp_cons (v := v_turns) rfl mp_nil) ca₁ ?_
  have hO₃ : Own B h k₃ [eBox r₁ (e_T_kitty_Corner.c a), eBox r₂ (e_T_kitty_Corner.c b), eSl e_T_kitty_Corner v₁ x] := hO₂.call hW₁ rfl
  refine WO_v (a_mv (v := v₁) rfl) ?_
  refine WO_end ?_
  refine then_n ?_
  refine W_sq ?_
  refine W_sq ?_
  refine W_rg ?_
  refine WO_v (a_mv (v := v_turns) rfl) ?_
  obtain ⟨x1, hx₂, hp⟩ := bd_some hp
  obtain ⟨u₂, k₄, ca₂, rfl, hW₂⟩ := p_kitty_right.ok (h := k₃)  (hO₃.rd0 s_turns.rd : Sl eInt k₃ v_turns turns) hx₂
  refine WO_c (id := 59) (caps := []) rfl (mp_cons (v := v_turns) rfl mp_nil) ca₂ ?_
  have hO₄ : Own B h k₄ [eBox r₁ (e_T_kitty_Corner.c a), eBox r₂ (e_T_kitty_Corner.c b), eSl e_T_kitty_Corner v₁ x] := hO₃.call hW₂ rfl
  refine WO_v (a_not (t := x1) rfl) ?_
  refine WO_v (a_mv (v := .b (!x1)) rfl) ?_
  obtain ⟨t, hv₁, hp⟩ := bd_some hp
  refine WO_cut 5 (fun fr' k' => Own B h k' [eBox r₁ (e_T_kitty_Corner.c a), eBox r₂ (e_T_kitty_Corner.c b), eSl e_T_kitty_Corner v₁ x] ∧ fr' 19 = .b t ∧ fr' 0 = v_turns ∧ fr' 4 = .p r₁ 0 ∧ fr' 5 = .p r₂ 0 ∧ fr' 8 = v₁) ?_ ?_
  · clear hp; rcases if_some hv₁ with ⟨b₁, hp⟩ | ⟨b₁, hp⟩
    · skip
      refine WO_off rfl b₁ ?_
      refine WO_off rfl b₁ ?_
      refine WO_off rfl b₁ ?_
      refine WO_off rfl b₁ ?_
      refine WO_v (a_pickT (t := (!x1)) (v := .b t) rfl b₁ (Eq.trans (b := V.b true) rfl (congrArg V.b (Option.some.inj hp)))) ?_
      refine WO_end ?_
      exact ⟨hO₄.pick [0, 1, 2] rfl (by decide), rfl, rfl, rfl, rfl, rfl⟩
    · skip
      refine WO_on rfl b₁ ?_
      refine WO_v (a_mv (v := v₁) rfl) ?_
      refine WO_on rfl b₁ ?_
      refine WO_v (a_ldbA (cs := (e_T_kitty_Corner.c a)) (ws := e_T_kitty_Corner.c a) (hO₄.box 0 rfl) rfl rfl) ?_
      refine WO_on rfl b₁ ?_
      obtain ⟨x2, hx₃, hp⟩ := bd_some hp
      obtain ⟨u₃, k₅, ca₃, rfl, hW₃⟩ := p_slices_Contains_kitty_Corner.ok (h := k₄)  (hO₄.sl 2 rfl : Sl e_T_kitty_Corner k₄ v₁ x) hx₃
      refine WO_c (id := 60) (caps := []) rfl (mp_cons (v := v₁) rfl (mp_cons (v := .ag (e_T_kitty_Corner.c a)) rfl mp_nil)) ca₃ ?_
      have hO₅ : Own B h k₅ [eBox r₁ (e_T_kitty_Corner.c a), eBox r₂ (e_T_kitty_Corner.c b), eSl e_T_kitty_Corner v₁ x] := hO₄.call hW₃ rfl
      refine WO_on rfl b₁ ?_
      refine WO_v (a_not (t := x2) rfl) ?_
      refine WO_v (a_pickF (t := (!x1)) (v := .b t) rfl b₁ (Eq.trans (b := V.b (!x2)) rfl (congrArg V.b (Option.some.inj hp)))) ?_
      refine WO_end ?_
      exact ⟨hO₅.pick [0, 1, 2] rfl (by decide), rfl, rfl, rfl, rfl, rfl⟩
  rintro frg₁ k₆ ⟨hO₆, g₁_19, g₁_0, g₁_4, g₁_5, g₁_8⟩
  refine WO_v (a_mv (v := .b t) g₁_19) ?_
  obtain ⟨t1, hv₂, hp⟩ := bd_some hp
  refine WO_cut 5 (fun fr' k' => Own B h k' [eBox r₁ (e_T_kitty_Corner.c a), eBox r₂ (e_T_kitty_Corner.c b), eSl e_T_kitty_Corner v₁ x] ∧ fr' 25 = .b t1 ∧ fr' 0 = v_turns ∧ fr' 4 = .p r₁ 0 ∧ fr' 5 = .p r₂ 0) ?_ ?_
  · clear hp; rcases if_some hv₂ with ⟨b₂, hp⟩ | ⟨b₂, hp⟩
    · skip
      refine WO_off rfl b₂ ?_
      refine WO_off rfl b₂ ?_
      refine WO_off rfl b₂ ?_
      refine WO_off rfl b₂ ?_
      refine WO_v (a_pickT (t := t) (v := .b t1) rfl b₂ (Eq.trans (b := V.b true) rfl (congrArg V.b (Option.some.inj hp)))) ?_
      refine WO_end ?_
      exact ⟨hO₆.pick [0, 1, 2] rfl (by decide), rfl, g₁_0, g₁_4, g₁_5⟩
    · skip
      refine WO_on rfl b₂ ?_
      refine WO_v (a_mv (v := v₁) g₁_8) ?_
      refine WO_on rfl b₂ ?_
      refine WO_v (a_ldbA (cs := (e_T_kitty_Corner.c b)) (ws := e_T_kitty_Corner.c b) (hO₆.box 1 rfl) g₁_5 rfl) ?_
      refine WO_on rfl b₂ ?_
      obtain ⟨x3, hx₄, hp⟩ := bd_some hp
      obtain ⟨u₄, k₇, ca₄, rfl, hW₄⟩ := p_slices_Contains_kitty_Corner.ok (h := k₆)  (hO₆.sl 2 rfl : Sl e_T_kitty_Corner k₆ v₁ x) hx₄
      refine WO_c (id := 60) (caps := []) rfl (mp_cons (v := v₁) rfl (mp_cons (v := .ag (e_T_kitty_Corner.c b)) rfl mp_nil)) ca₄ ?_
      have hO₇ : Own B h k₇ [eBox r₁ (e_T_kitty_Corner.c a), eBox r₂ (e_T_kitty_Corner.c b), eSl e_T_kitty_Corner v₁ x] := hO₆.call hW₄ rfl
      refine WO_on rfl b₂ ?_
      refine WO_v (a_not (t := x3) rfl) ?_
      refine WO_v (a_pickF (t := t) (v := .b t1) rfl b₂ (Eq.trans (b := V.b (!x3)) rfl (congrArg V.b (Option.some.inj hp)))) ?_
      refine WO_end ?_
      exact ⟨hO₇.pick [0, 1, 2] rfl (by decide), rfl, g₁_0, g₁_4, g₁_5⟩
  rintro frg₂ k₈ ⟨hO₈, g₂_25, g₂_0, g₂_4, g₂_5⟩
  refine WO_end ?_
  refine then_n ?_
  rcases if_some hp with ⟨b₃, hp⟩ | ⟨b₃, hp⟩
  · refine W_cT (t := t1) g₂_25 b₃ ?_
    refine W_sq ?_
    refine W_rg ?_
    refine WO_v (a_mv (v := .i .i64 0) rfl) ?_
    refine WO_v (a_mv (v := .i .i64 2) rfl) ?_
    refine WO_end ?_
    refine then_n ?_
    refine W_rt ?_
    refine then_r ?_
    refine Ret_r (rs_t (n := 6) (v := .i .i64 0) rfl (rs_t (n := 7) (v := .i .i64 2) rfl rs_nil)) ?_
    have hp := Option.some.inj hp; subst hp
    exact (And.intro rfl (hO₈.pick [] rfl (by decide)))
  · refine W_cF (t := t1) g₂_25 b₃ ?_
    refine W_sk ?_
    refine then_n ?_
    refine W_sq ?_
    refine W_dr ?_
    have hW := hO₈.bump 7
    have fr₁ := Fresh.start k₈ 7
    have nb₁ : ∀ {i : Nat}, h.n ≤ k₈.n + i := Nat.le_trans hO₈.n (Nat.le_add_right _ _)
    have hO₉ : Own B h (k₈.bump 7) [eBox r₁ (e_T_kitty_Corner.c a), eBox r₂ (e_T_kitty_Corner.c b), eSl e_T_kitty_Corner v₁ x] := hW
    refine WD_v (a_mv (v := v_turns) g₂_0) ?_
    obtain ⟨x4, hx₅, hp⟩ := bd_some hp
    obtain ⟨u₅, k₁₀, ca₅, v₂, rfl, hW₅⟩ := p_kitty_sums.ok (h := (k₈.bump 7))  (hO₉.rd0 s_turns.rd : Sl eInt (k₈.bump 7) v_turns turns) hx₅
    refine WD_c (id := 62) (caps := []) rfl (mp_cons (v := v_turns) rfl mp_nil) ca₅ ?_
    have fr₂ := fr₁.call hW₅
    have hO₁₀ : Own B h k₁₀ [eBox r₁ (e_T_kitty_Corner.c a), eBox r₂ (e_T_kitty_Corner.c b), eSl e_T_kitty_Corner v₁ x, eSl eInt v₂ x4] := hO₉.call hW₅ rfl
    refine WD_v (a_ldbA (cs := (e_T_kitty_Corner.c a)) (ws := e_T_kitty_Corner.c a) (hO₁₀.box 0 rfl) g₂_4 rfl) ?_
    refine WD_v (a_ldbA (cs := (e_T_kitty_Corner.c b)) (ws := e_T_kitty_Corner.c b) (hO₁₀.box 1 rfl) g₂_5 rfl) ?_
    obtain ⟨x5, hx₆, hp⟩ := bd_some hp
    obtain ⟨u₆, k₁₁, ca₆, rfl, hW₆⟩ := p_kitty_rot.ok (h := k₁₀)  (hO₁₀.sl 3 rfl : Sl eInt k₁₀ v₂ x4) hx₆
    refine WD_c (id := 61) (caps := []) rfl (mp_cons (v := v₂) rfl (mp_cons (v := .ag (e_T_kitty_Corner.c a)) rfl (mp_cons (v := .ag (e_T_kitty_Corner.c b)) rfl mp_nil))) ca₆ ?_
    have fr₃ := fr₂.call hW₆
    have hO₁₁ : Own B h k₁₁ [eBox r₁ (e_T_kitty_Corner.c a), eBox r₂ (e_T_kitty_Corner.c b), eSl e_T_kitty_Corner v₁ x, eSl eInt v₂ x4] := hO₁₀.call hW₆ rfl
    refine WD_v (a_mv (v := .i .i64 x5) rfl) ?_
    refine WD_v (a_mv (v := .i .i64 0) rfl) ?_
    refine WD_end ?_
    refine And.intro ?_ ?_
    · intro q hq
      simp only [List.mem_cons, List.not_mem_nil, or_false] at hq
      rcases hq with rfl | rfl | rfl
      · refine ap_cl rfl ?_
        · exact (fun r hm hc => hc (hW₅.base r (Nat.lt_of_lt_of_le (hO₈.ltAt 0 rfl _ (tch (v := V.p r₁ 0) (ld_el hm) g₂_4)) (Nat.le_trans (Nat.le_add_right _ _) fr₁.n))))
      · refine ap_cl rfl ?_
        · exact (fun r hm hc => hc (hW₅.base r (Nat.lt_of_lt_of_le (hO₈.ltAt 1 rfl _ (tch (v := V.p r₂ 0) (ld_el hm) g₂_5)) (Nat.le_trans (Nat.le_add_right _ _) fr₁.n))))
      · refine ap_ll ?_ ?_
        · exact (fun h => nomatch h)
        · exact (fun h => nomatch h)
    refine then_n ?_
    refine W_rt ?_
    refine Ret_r (rs_t (n := 6) (v := .i .i64 x5) rfl (rs_t (n := 7) (v := .i .i64 0) rfl rs_nil)) ?_
    have hp := Option.some.inj hp; subst hp
    exact (And.intro rfl (hO₁₁.pick [] rfl (by decide)))

theorem p_muntinref15_Rot.ok {h : Hp} {t : List Int} {a : T_muntinref15_Corner} {b : T_muntinref15_Corner} {v_t : V} (s_t : Sl eInt h v_t t) {r : Int} (hp : p_muntinref15_Rot t a b = some r) :
    ∃ u k', Is G 23 [v_t, .ag (e_T_muntinref15_Corner.c a), .ag (e_T_muntinref15_Corner.c b)] h u k' ∧ V.i .i64 r = u ∧ Own (fun r => r < h.n) h k' [] := by
  refine WC.is (WC_of G_F_muntinref15_Rot ?_)
  unfold p_muntinref15_Rot at hp
  let B : Nat → Prop := (fun r => r < h.n)
  have hO : Own B h h [] := Own.start0 h
  refine W_sq ?_
  refine W_rg ?_
  refine WO_x (hO.boxd (v := .ag (e_T_muntinref15_Corner.c a)) (cs := e_T_muntinref15_Corner.c a) hO.fr rfl rfl) ?_
  rintro _ k₁ ⟨r₁, rfl, n₁, f₁, hW⟩
  have hO₁ : Own B h k₁ [eBox r₁ (e_T_muntinref15_Corner.c a)] := hW
  refine WO_x (hO₁.boxd (v := .ag (e_T_muntinref15_Corner.c b)) (cs := e_T_muntinref15_Corner.c b) hO₁.fr rfl rfl) ?_
  rintro _ k₂ ⟨r₂, rfl, n₂, f₂, hW⟩
  have hO₂ : Own B h k₂ [eBox r₁ (e_T_muntinref15_Corner.c a), eBox r₂ (e_T_muntinref15_Corner.c b)] := hW
  refine WO_v (a_mv (v := .i .i64 0) rfl) ?_
  refine WO_end ?_
  refine then_n ?_
  refine W_sq ?_
  refine W_rg ?_
  refine WO_v (a_mv (v := .sn) rfl) ?_
  refine WO_end ?_
  refine then_n ?_
  refine W_sq ?_
  refine W_rg ?_
  refine WO_v (a_mv (v := .i .i64 0) rfl) ?_
  refine WO_end ?_
  refine then_n ?_
  refine W_sq ?_
  refine W_rg ?_
  refine WO_v (a_mv (v := .i .i64 0) rfl) ?_
  refine WO_end ?_
  refine then_n ?_
  refine W_sq ?_
  refine W_sq ?_
  refine W_rg ?_
  refine WO_v (a_mv (v := .i .i64 0) rfl) ?_
  refine WO_end ?_
  refine then_n ?_
  refine W_bl ?_
  obtain ⟨o₁, ho₁, hp⟩ := bd_some hp
  refine W.mono (Q := fun e fr k => match (generalizing := false) o₁ with
      | (single1, from_1, to_1) => e = (.exit 0) ∧ ∃ (v₂ : V), fr 7 = v₂ ∧ fr 8 = .i .i64 from_1 ∧ fr 9 = .i .i64 to_1 ∧ Own B h k [eSl eInt v₂ single1]) ?_ ?_
  · clear hp
    have hO₄ : Own B h k₂ [eBox r₁ (e_T_muntinref15_Corner.c a), eBox r₂ (e_T_muntinref15_Corner.c b), eSl eInt .sn ([] : List Int)] := hO₂.nil eInt
    refine W_loopF (fun st fr k => match st with | (single, from_, to_, i) => ∃ (v₁ : V), fr 0 = v_t ∧ fr 4 = .p r₁ 0 ∧ fr 5 = .p r₂ 0 ∧ fr 7 = v₁ ∧ fr 8 = .i .i64 from_ ∧ fr 9 = .i .i64 to_ ∧ fr 10 = .i .i64 i ∧ Own B h k [eBox r₁ (e_T_muntinref15_Corner.c a), eBox r₂ (e_T_muntinref15_Corner.c b), eSl eInt v₁ single]) ho₁ (s := (([] : List Int), 0, 0, 0)) (Exists.intro V.sn (And.intro (rfl) (And.intro (rfl) (And.intro (rfl) (And.intro (rfl) (And.intro (rfl) (And.intro (rfl) (And.intro (rfl) (hO₄.pick [0, 1, 2] rfl (by decide)))))))))) ?_
    rintro ⟨single, from_, to_, i⟩ q₂ k₄ ⟨v₁, q₂_0, q₂_4, q₂_5, q₂_7, q₂_8, q₂_9, q₂_10, hO₅⟩ o₂ hp
    dsimp only [p_muntinref15_Rot.s0] at hp
    refine W_sq ?_
    refine W_sq ?_
    refine W_rg ?_
    refine WO_v (a_mv (v := .i .i64 i) q₂_10) ?_
    refine WO_v (a_mv (v := v_t) q₂_0) ?_
    refine WO_v (a_len (hO₅.rd0 s_t.rd : Sl eInt k₄ v_t t) rfl) ?_
    refine WO_v (a_lss (a := i) (b := (t.length : Int)) rfl rfl) ?_
    refine WO_end ?_
    refine then_n ?_
    rcases if_some hp with ⟨b₁, hp⟩ | ⟨b₁, hp⟩
    · refine W_cT (t := (decide (i < (t.length : Int)))) rfl b₁ ?_
      refine W_sk ?_
      refine then_n ?_
      refine W_sq ?_
      refine W_bl ?_
      refine W_sq ?_
      refine W_sq ?_
      refine W_rg ?_
      refine WO_v (a_mv (v := .i .i64 i) q₂_10) ?_
      refine WO_v (a_fa (r := r₁) (o := 0) (o' := 0) q₂_4 rfl) ?_
      refine WO_v (a_ldb (cs := (e_T_muntinref15_Corner.c a)) (v := .i .i64 a.At) (hO₅.box 0 rfl) rfl rfl) ?_
      refine WO_v (a_eqI (a := i) (b := a.At) rfl rfl) ?_
      refine WO_end ?_
      refine then_n ?_
      obtain ⟨o₃, ho₂, hp⟩ := bd_some hp
      refine W.mono (Q := fun e fr k => match (generalizing := false) o₃ with
          | from_2 => e = .normal ∧ fr 0 = v_t ∧ fr 4 = .p r₁ 0 ∧ fr 5 = .p r₂ 0 ∧ fr 7 = v₁ ∧ fr 8 = .i .i64 from_2 ∧ fr 9 = .i .i64 to_ ∧ fr 10 = .i .i64 i ∧ Own B h k [eBox r₁ (e_T_muntinref15_Corner.c a), eBox r₂ (e_T_muntinref15_Corner.c b), eSl eInt v₁ single]) ?_ ?_
      · clear hp; have hp := ho₂; clear ho₂
        rcases if_some hp with ⟨b₂, hp⟩ | ⟨b₂, hp⟩
        · refine W_cT (t := (decide (i = a.At))) rfl b₂ ?_
          refine W_rg ?_
          refine WO_v (a_mv (v := v₁) q₂_7) ?_
          refine WO_v (a_len (hO₅.sl 2 rfl : Sl eInt k₄ v₁ single) rfl) ?_
          refine WO_v (a_fa (r := r₁) (o := 0) (o' := 1) q₂_4 rfl) ?_
          refine WO_v (a_ldb (cs := (e_T_muntinref15_Corner.c a)) (v := .i .i64 a.Part) (hO₅.box 0 rfl) rfl rfl) ?_
          obtain ⟨c₁, hp⟩ := ck_some hp
          refine WO_v (a_add (a := (single.length : Int)) (b := a.Part) rfl rfl c₁) ?_
          refine WO_v (a_mv (v := .i .i64 ((single.length : Int) + a.Part)) rfl) ?_
          refine WO_end ?_
          have hp := Option.some.inj hp; subst hp
          exact (And.intro rfl (And.intro (q₂_0) (And.intro (q₂_4) (And.intro (q₂_5) (And.intro (q₂_7) (And.intro (rfl) (And.intro (q₂_9) (And.intro (q₂_10) (hO₅.pick [0, 1, 2] rfl (by decide))))))))))
        · refine W_cF (t := (decide (i = a.At))) rfl b₂ ?_
          refine W_sk ?_
          have hp := Option.some.inj hp; subst hp
          exact (And.intro rfl (And.intro (q₂_0) (And.intro (q₂_4) (And.intro (q₂_5) (And.intro (q₂_7) (And.intro (q₂_8) (And.intro (q₂_9) (And.intro (q₂_10) (hO₅.pick [0, 1, 2] rfl (by decide))))))))))
      intro e₂ q₃ k₅ hJ₂
      obtain ⟨from_2, rfl⟩ : ∃ x, x = o₃ := ⟨_, rfl⟩
      obtain ⟨rfl, q₃_0, q₃_4, q₃_5, q₃_7, q₃_8, q₃_9, q₃_10, hO₆⟩ := hJ₂
      refine then_n ?_
      refine W_sq ?_
      refine W_sq ?_
      refine W_rg ?_
      refine WO_v (a_mv (v := .i .i64 i) q₃_10) ?_
      refine WO_v (a_fa (r := r₂) (o := 0) (o' := 0) q₃_5 rfl) ?_
      refine WO_v (a_ldb (cs := (e_T_muntinref15_Corner.c b)) (v := .i .i64 b.At) (hO₆.box 1 rfl) rfl rfl) ?_
      refine WO_v (a_eqI (a := i) (b := b.At) rfl rfl) ?_
      refine WO_end ?_
      refine then_n ?_
      obtain ⟨o₄, ho₃, hp⟩ := bd_some hp
      refine W.mono (Q := fun e fr k => match (generalizing := false) o₄ with
          | to_2 => e = .normal ∧ fr 0 = v_t ∧ fr 4 = .p r₁ 0 ∧ fr 5 = .p r₂ 0 ∧ fr 7 = v₁ ∧ fr 8 = .i .i64 from_2 ∧ fr 9 = .i .i64 to_2 ∧ fr 10 = .i .i64 i ∧ Own B h k [eBox r₁ (e_T_muntinref15_Corner.c a), eBox r₂ (e_T_muntinref15_Corner.c b), eSl eInt v₁ single]) ?_ ?_
      · clear hp; have hp := ho₃; clear ho₃
        rcases if_some hp with ⟨b₃, hp⟩ | ⟨b₃, hp⟩
        · refine W_cT (t := (decide (i = b.At))) rfl b₃ ?_
          refine W_rg ?_
          refine WO_v (a_mv (v := v₁) q₃_7) ?_
          refine WO_v (a_len (hO₆.sl 2 rfl : Sl eInt k₅ v₁ single) rfl) ?_
          refine WO_v (a_fa (r := r₂) (o := 0) (o' := 1) q₃_5 rfl) ?_
          refine WO_v (a_ldb (cs := (e_T_muntinref15_Corner.c b)) (v := .i .i64 b.Part) (hO₆.box 1 rfl) rfl rfl) ?_
          obtain ⟨c₂, hp⟩ := ck_some hp
          refine WO_v (a_add (a := (single.length : Int)) (b := b.Part) rfl rfl c₂) ?_
          refine WO_v (a_mv (v := .i .i64 ((single.length : Int) + b.Part)) rfl) ?_
          refine WO_end ?_
          have hp := Option.some.inj hp; subst hp
          exact (And.intro rfl (And.intro (q₃_0) (And.intro (q₃_4) (And.intro (q₃_5) (And.intro (q₃_7) (And.intro (q₃_8) (And.intro (rfl) (And.intro (q₃_10) (hO₆.pick [0, 1, 2] rfl (by decide))))))))))
        · refine W_cF (t := (decide (i = b.At))) rfl b₃ ?_
          refine W_sk ?_
          have hp := Option.some.inj hp; subst hp
          exact (And.intro rfl (And.intro (q₃_0) (And.intro (q₃_4) (And.intro (q₃_5) (And.intro (q₃_7) (And.intro (q₃_8) (And.intro (q₃_9) (And.intro (q₃_10) (hO₆.pick [0, 1, 2] rfl (by decide))))))))))
      intro e₃ q₄ k₆ hJ₃
      obtain ⟨to_2, rfl⟩ : ∃ x, x = o₄ := ⟨_, rfl⟩
      obtain ⟨rfl, q₄_0, q₄_4, q₄_5, q₄_7, q₄_8, q₄_9, q₄_10, hO₇⟩ := hJ₃
      refine then_n ?_
      refine W_sq ?_
      refine W_rg ?_
      refine WO_v (a_mv (v := v_t) q₄_0) ?_
      refine WO_v (a_mv (v := .i .i64 i) q₄_10) ?_
      obtain ⟨c₃, hp⟩ := ck_some hp
      refine WO_v (a_ixa (E := eInt) (z := i) (hO₇.rd0 s_t.rd : Sl eInt k₆ v_t t) rfl rfl c₃) ?_
      refine WO_v (a_ldE (w := .i .i64 (gi t (i : Int).toNat)) (hO₇.rd0 s_t.rd : Sl eInt k₆ v_t t) rfl (toNat_lt c₃) rfl) ?_
      refine WO_v (a_eqI (a := (gi t (i : Int).toNat)) (b := (-2)) rfl rfl) ?_
      refine WO_end ?_
      refine then_n ?_
      rcases if_some hp with ⟨b₄, hp⟩ | ⟨b₄, hp⟩
      · refine W_cT (t := (decide (gi t (i : Int).toNat = (-2)))) rfl b₄ ?_
        refine W_rg ?_
        refine WO_v (a_mv (v := v₁) q₄_7) ?_
        refine WO_x (hO₇.bsl (E := eInt) (l := [(-1), (-1)]) hO₇.fr (by rw [(ev_cons (v := .i .i64 (-1)) rfl (ev_cons (v := .i .i64 (-1)) rfl ev_nil))]; rfl) rfl) ?_
        rintro v₃ k₇ ⟨r₃, f₃, hW⟩
        have hO₈ : Own B h k₇ [eBox r₁ (e_T_muntinref15_Corner.c a), eBox r₂ (e_T_muntinref15_Corner.c b), eSl eInt v₁ single, eSl eInt v₃ [(-1), (-1)]] := hW
        obtain ⟨c₄, hp⟩ := ck_some hp
        refine WO_x (hO₈.app (E := eInt) (bytes := 8) 2 hO₈.fr rfl (hO₈.sl 3 rfl : Sl eInt k₇ v₃ [(-1), (-1)]) rfl rfl (fun _ => rfl) c₄ (by decide)) ?_
        rintro v₄ k₈ ⟨f₄, hW⟩
        have hO₉ : Own B h k₈ [eBox r₁ (e_T_muntinref15_Corner.c a), eBox r₂ (e_T_muntinref15_Corner.c b), eSl eInt v₄ (single ++ [(-1), (-1)]), eSl eInt v₃ [(-1), (-1)]] := hW
        refine WO_v (a_mv (v := v₄) rfl) ?_
        refine WO_end ?_
        refine blk_n ?_
        refine then_n ?_
        refine W_rg ?_
        refine WO_v (a_mv (v := .i .i64 i) q₄_10) ?_
        obtain ⟨c₅, hp⟩ := ck_some hp
        refine WO_v (a_add (a := i) (b := 1) rfl rfl c₅) ?_
        refine WO_v (a_mv (v := .i .i64 (i + 1)) rfl) ?_
        refine WO_end ?_
        have hp := Option.some.inj hp; subst hp
        exact (Or.inl (Exists.intro (single ++ [(-1), (-1)], from_2, to_2, i + 1) (And.intro rfl (And.intro rfl (Exists.intro v₄ (And.intro (q₄_0) (And.intro (q₄_4) (And.intro (q₄_5) (And.intro (rfl) (And.intro (q₄_8) (And.intro (q₄_9) (And.intro (rfl) (hO₉.pick [0, 1, 2] rfl (by decide))))))))))))))
      · refine W_cF (t := (decide (gi t (i : Int).toNat = (-2)))) rfl b₄ ?_
        refine W_rg ?_
        refine WO_v (a_mv (v := v₁) q₄_7) ?_
        refine WO_v (a_mv (v := v_t) q₄_0) ?_
        refine WO_v (a_mv (v := .i .i64 i) q₄_10) ?_
        refine WO_v (a_ixa (E := eInt) (z := i) (hO₇.rd0 s_t.rd : Sl eInt k₆ v_t t) rfl rfl c₃) ?_
        refine WO_v (a_ldE (w := .i .i64 (gi t (i : Int).toNat)) (hO₇.rd0 s_t.rd : Sl eInt k₆ v_t t) rfl (toNat_lt c₃) rfl) ?_
        refine WO_x (hO₇.bsl (E := eInt) (l := [gi t (i : Int).toNat]) hO₇.fr (by rw [(ev_cons (v := .i .i64 (gi t (i : Int).toNat)) rfl ev_nil)]; rfl) rfl) ?_
        rintro v₅ k₉ ⟨r₄, f₅, hW⟩
        have hO₁₀ : Own B h k₉ [eBox r₁ (e_T_muntinref15_Corner.c a), eBox r₂ (e_T_muntinref15_Corner.c b), eSl eInt v₁ single, eSl eInt v₅ [gi t (i : Int).toNat]] := hW
        obtain ⟨c₆, hp⟩ := ck_some hp
        refine WO_x (hO₁₀.app (E := eInt) (bytes := 8) 2 hO₁₀.fr rfl (hO₁₀.sl 3 rfl : Sl eInt k₉ v₅ [gi t (i : Int).toNat]) rfl rfl (fun _ => rfl) c₆ (by decide)) ?_
        rintro v₆ k₁₀ ⟨f₆, hW⟩
        have hO₁₁ : Own B h k₁₀ [eBox r₁ (e_T_muntinref15_Corner.c a), eBox r₂ (e_T_muntinref15_Corner.c b), eSl eInt v₆ (single ++ [gi t (i : Int).toNat]), eSl eInt v₅ [gi t (i : Int).toNat]] := hW
        refine WO_v (a_mv (v := v₆) rfl) ?_
        refine WO_end ?_
        refine blk_n ?_
        refine then_n ?_
        refine W_rg ?_
        refine WO_v (a_mv (v := .i .i64 i) q₄_10) ?_
        obtain ⟨c₇, hp⟩ := ck_some hp
        refine WO_v (a_add (a := i) (b := 1) rfl rfl c₇) ?_
        refine WO_v (a_mv (v := .i .i64 (i + 1)) rfl) ?_
        refine WO_end ?_
        have hp := Option.some.inj hp; subst hp
        exact (Or.inl (Exists.intro (single ++ [gi t (i : Int).toNat], from_2, to_2, i + 1) (And.intro rfl (And.intro rfl (Exists.intro v₆ (And.intro (q₄_0) (And.intro (q₄_4) (And.intro (q₄_5) (And.intro (rfl) (And.intro (q₄_8) (And.intro (q₄_9) (And.intro (rfl) (hO₁₁.pick [0, 1, 2] rfl (by decide))))))))))))))
    · refine W_cF (t := (decide (i < (t.length : Int)))) rfl b₁ ?_
      refine W_ex ?_
      refine then_e ?_
      have hp := Option.some.inj hp; subst hp
      refine (Or.inr (Exists.intro (single, from_, to_) (And.intro rfl (And.intro (fun h => nomatch h) (fun he => ?_)))))
      subst he; exact (And.intro rfl (Exists.intro v₁ (And.intro (q₂_7) (And.intro (q₂_8) (And.intro (q₂_9) (hO₅.pick [2] rfl (by decide)))))))
  intro e₁ q₁ k₃ hJ₁
  obtain ⟨single1, from_1, to_1⟩ := o₁
  obtain ⟨rfl, v₂, q₁_7, q₁_8, q₁_9, hO₃⟩ := hJ₁
  refine blk_i ?_
  refine then_n ?_
  refine W_sq ?_
  refine W_rg ?_
  refine WO_v (a_mv (v := .i .i64 0) rfl) ?_
  refine WO_end ?_
  refine then_n ?_
  refine W_sq ?_
  refine W_sq ?_
  refine W_rg ?_
  refine WO_v (a_mv (v := .i .i64 from_1) q₁_8) ?_
  refine WO_v (a_mv (v := .i .i64 from_1) rfl) ?_
  refine WO_end ?_
  refine then_n ?_
  refine W_bl ?_
  obtain ⟨o₅, ho₄, hp⟩ := bd_some hp
  refine W.mono (Q := fun e fr k => match (generalizing := false) o₅ with
      | sum1 => e = (.exit 2) ∧ fr 11 = .i .i64 sum1 ∧ Own B h k []) ?_ ?_
  · clear hp
    refine W_loopF (fun st fr k => match st with | (sum, k_) => fr 7 = v₂ ∧ fr 9 = .i .i64 to_1 ∧ fr 11 = .i .i64 sum ∧ fr 12 = .i .i64 k_ ∧ Own B h k [eSl eInt v₂ single1]) ho₄ (s := (0, from_1)) (And.intro (q₁_7) (And.intro (q₁_9) (And.intro (rfl) (And.intro (rfl) (hO₃.pick [0] rfl (by decide)))))) ?_
    rintro ⟨sum, k_⟩ q₆ k₁₂ ⟨q₆_7, q₆_9, q₆_11, q₆_12, hO₁₃⟩ o₆ hp
    dsimp only [p_muntinref15_Rot.s1] at hp
    refine W_sq ?_
    refine W_sq ?_
    refine W_rg ?_
    refine WO_v (a_mv (v := .i .i64 k_) q₆_12) ?_
    refine WO_v (a_mv (v := .i .i64 to_1) q₆_9) ?_
    refine WO_v (a_neI (a := k_) (b := to_1) rfl rfl) ?_
    refine WO_end ?_
    refine then_n ?_
    rcases if_some hp with ⟨b₅, hp⟩ | ⟨b₅, hp⟩
    · refine W_cT (t := (!(decide (k_ = to_1)))) rfl b₅ ?_
      refine W_sk ?_
      refine then_n ?_
      refine W_sq ?_
      refine W_bl ?_
      refine W_rg ?_
      refine WO_v (a_mv (v := .i .i64 sum) q₆_11) ?_
      refine WO_v (a_mv (v := v₂) q₆_7) ?_
      refine WO_v (a_mv (v := .i .i64 k_) q₆_12) ?_
      obtain ⟨c₈, hp⟩ := ck_some hp
      refine WO_v (a_ixa (E := eInt) (z := k_) (hO₁₃.sl 0 rfl : Sl eInt k₁₂ v₂ single1) rfl rfl c₈) ?_
      refine WO_v (a_ldE (w := .i .i64 (gi single1 (k_ : Int).toNat)) (hO₁₃.sl 0 rfl : Sl eInt k₁₂ v₂ single1) rfl (toNat_lt c₈) rfl) ?_
      obtain ⟨c₉, hp⟩ := ck_some hp
      refine WO_v (a_add (a := sum) (b := (gi single1 (k_ : Int).toNat)) rfl rfl c₉) ?_
      refine WO_v (a_mv (v := .i .i64 (sum + (gi single1 (k_ : Int).toNat))) rfl) ?_
      refine WO_end ?_
      refine blk_n ?_
      refine then_n ?_
      refine W_rg ?_
      refine WO_v (a_mv (v := .i .i64 k_) q₆_12) ?_
      obtain ⟨c₁₀, hp⟩ := ck_some hp
      refine WO_v (a_add (a := k_) (b := 1) rfl rfl c₁₀) ?_
      refine WO_v (a_mv (v := v₂) q₆_7) ?_
      refine WO_v (a_len (hO₁₃.sl 0 rfl : Sl eInt k₁₂ v₂ single1) rfl) ?_
      obtain ⟨c₁₁, hp⟩ := ck_some hp
      refine WO_v (a_rem (a := (k_ + 1)) (b := (single1.length : Int)) rfl rfl c₁₁) ?_
      refine WO_v (a_mv (v := .i .i64 ((k_ + 1).tmod (single1.length : Int))) rfl) ?_
      refine WO_end ?_
      have hp := Option.some.inj hp; subst hp
      exact (Or.inl (Exists.intro (sum + (gi single1 (k_ : Int).toNat), (k_ + 1).tmod (single1.length : Int)) (And.intro rfl (And.intro rfl (And.intro (q₆_7) (And.intro (q₆_9) (And.intro (rfl) (And.intro (rfl) (hO₁₃.pick [0] rfl (by decide))))))))))
    · refine W_cF (t := (!(decide (k_ = to_1)))) rfl b₅ ?_
      refine W_ex ?_
      refine then_e ?_
      have hp := Option.some.inj hp; subst hp
      refine (Or.inr (Exists.intro sum (And.intro rfl (And.intro (fun h => nomatch h) (fun he => ?_)))))
      subst he; exact (And.intro rfl (And.intro (q₆_11) (hO₁₃.pick [] rfl (by decide))))
  intro e₄ q₅ k₁₁ hJ₄
  obtain ⟨sum1, rfl⟩ : ∃ x, x = o₅ := ⟨_, rfl⟩
  obtain ⟨rfl, q₅_11, hO₁₂⟩ := hJ₄
  refine blk_i ?_
  refine then_n ?_
  refine W_sq ?_
  refine W_rg ?_
  refine WO_v (a_mv (v := .i .i64 sum1) q₅_11) ?_
  refine WO_v (a_mv (v := .i .i64 sum1) rfl) ?_
  refine WO_end ?_
  refine then_n ?_
  refine W_rt ?_
  refine Ret_r (rs_t (n := 6) (v := .i .i64 sum1) rfl rs_nil) ?_
  have hp := Option.some.inj hp; subst hp
  exact (And.intro rfl (hO₁₂.pick [] rfl (by decide)))

theorem p_kitty_Pair.ok {h : Hp} {turns : List Int} {v_turns : V} (s_turns : Sl eInt h v_turns turns) {r : T_kitty_Corner × T_kitty_Corner × Bool} (hp : p_kitty_Pair turns = some r) :
    ∃ u k', Is G 24 [v_turns] h u k' ∧ V.tu [.ag (e_T_kitty_Corner.c r.1), .ag (e_T_kitty_Corner.c r.2.1), .b r.2.2] = u ∧ Own (fun r => r < h.n) h k' [] := by
  refine WC.is (WC_of G_F_kitty_Pair ?_)
  unfold p_kitty_Pair at hp
  let B : Nat → Prop := (fun r => r < h.n)
  have hO : Own B h h [] := Own.start0 h
  refine W_sq ?_
  refine W_rg ?_
  refine WO_x (hO.alloc (cs := e_T_kitty_Corner.c (⟨0, 0⟩ : T_kitty_Corner)) hO.fr) ?_
  rintro _ k₁ ⟨r₁, rfl, n₁, f₁, hW⟩
  have hO₁ : Own B h k₁ [eBox r₁ (e_T_kitty_Corner.c (⟨0, 0⟩ : T_kitty_Corner))] := hW
  refine WO_x (hO₁.alloc (cs := e_T_kitty_Corner.c (⟨0, 0⟩ : T_kitty_Corner)) hO₁.fr) ?_
  rintro _ k₂ ⟨r₂, rfl, n₂, f₂, hW⟩
  have hO₂ : Own B h k₂ [eBox r₁ (e_T_kitty_Corner.c (⟨0, 0⟩ : T_kitty_Corner)), eBox r₂ (e_T_kitty_Corner.c (⟨0, 0⟩ : T_kitty_Corner))] := hW
  refine WO_v (a_mv (v := .b false) rfl) ?_
  refine WO_end ?_
  refine then_n ?_
  refine W_sq ?_
  refine W_sq ?_
  refine W_rg ?_
  refine WO_v (a_mv (v := v_turns) rfl) ?_
  obtain ⟨x, hx₁, hp⟩ := bd_some hp
  obtain ⟨u₁, k₃, ca₁, rfl, hW₁⟩ := p_kitty_right.ok (h := k₂)  (hO₂.rd0 s_turns.rd : Sl eInt k₂ v_turns turns) hx₁
  refine WO_c (id := 59) (caps := []) rfl (mp_cons (v := v_turns) rfl mp_nil) ca₁ ?_
  have hO₃ : Own B h k₃ [eBox r₁ (e_T_kitty_Corner.c (⟨0, 0⟩ : T_kitty_Corner)), eBox r₂ (e_T_kitty_Corner.c (⟨0, 0⟩ : T_kitty_Corner))] := hO₂.call hW₁ rfl
  refine WO_v (a_not (t := x) rfl) ?_
  refine WO_end ?_
  refine then_n ?_
  rcases if_some hp with ⟨b₁, hp⟩ | ⟨b₁, hp⟩
  · refine W_cT (t := (!x)) rfl b₁ ?_
    refine W_sq ?_
    refine W_rg ?_
    refine WO_v (a_build (cs := e_T_kitty_Corner.c (⟨(0 : Int), (0 : Int)⟩ : T_kitty_Corner)) (by rw [ev_nil]; rfl)) ?_
    refine WO_v (a_build (cs := e_T_kitty_Corner.c (⟨(0 : Int), (0 : Int)⟩ : T_kitty_Corner)) (by rw [ev_nil]; rfl)) ?_
    refine WO_x (hO₃.stb (ws := e_T_kitty_Corner.c (⟨(0 : Int), (0 : Int)⟩ : T_kitty_Corner)) (cs' := e_T_kitty_Corner.c (⟨(0 : Int), (0 : Int)⟩ : T_kitty_Corner)) (v := .ag (e_T_kitty_Corner.c (⟨(0 : Int), (0 : Int)⟩ : T_kitty_Corner))) 0 rfl rfl rfl rfl ⟨rfl, Nat.le_of_ble_eq_true rfl, rfl⟩ rfl) ?_
    rintro _ k₄ ⟨rfl, f₃, m₁, hW⟩
    have hO₄ : Own B h k₄ [eBox r₁ (e_T_kitty_Corner.c (⟨(0 : Int), (0 : Int)⟩ : T_kitty_Corner)), eBox r₂ (e_T_kitty_Corner.c (⟨0, 0⟩ : T_kitty_Corner))] := hW
    refine WO_x (hO₄.stb (ws := e_T_kitty_Corner.c (⟨(0 : Int), (0 : Int)⟩ : T_kitty_Corner)) (cs' := e_T_kitty_Corner.c (⟨(0 : Int), (0 : Int)⟩ : T_kitty_Corner)) (v := .ag (e_T_kitty_Corner.c (⟨(0 : Int), (0 : Int)⟩ : T_kitty_Corner))) 1 rfl rfl rfl rfl ⟨rfl, Nat.le_of_ble_eq_true rfl, rfl⟩ rfl) ?_
    rintro _ k₅ ⟨rfl, f₄, m₂, hW⟩
    have hO₅ : Own B h k₅ [eBox r₁ (e_T_kitty_Corner.c (⟨(0 : Int), (0 : Int)⟩ : T_kitty_Corner)), eBox r₂ (e_T_kitty_Corner.c (⟨(0 : Int), (0 : Int)⟩ : T_kitty_Corner))] := hW
    refine WO_v (a_mv (v := .b false) rfl) ?_
    refine WO_end ?_
    refine then_n ?_
    refine W_rt ?_
    refine then_r ?_
    refine Ret_r (rs_c (n := 2) (v := .ag (e_T_kitty_Corner.c (⟨(0 : Int), (0 : Int)⟩ : T_kitty_Corner))) (r := r₁) rfl (hO₅.box 0 rfl) rfl (rs_c (n := 3) (v := .ag (e_T_kitty_Corner.c (⟨(0 : Int), (0 : Int)⟩ : T_kitty_Corner))) (r := r₂) rfl (hO₅.box 1 rfl) rfl (rs_t (n := 4) (v := .b false) rfl rs_nil))) ?_
    have hp := Option.some.inj hp; subst hp
    exact (And.intro rfl (hO₅.pick [] rfl (by decide)))
  · refine W_cF (t := (!x)) rfl b₁ ?_
    refine W_sk ?_
    refine then_n ?_
    refine W_sq ?_
    refine W_rg ?_
    refine WO_v (a_mv (v := v_turns) rfl) ?_
    obtain ⟨x1, hx₂, hp⟩ := bd_some hp
    obtain ⟨u₂, k₆, ca₂, v₁, rfl, hW₂⟩ := p_kitty_Corners.ok (h := k₃)  (hO₃.rd0 s_turns.rd : Sl eInt k₃ v_turns turns) hx₂
    refine WO_c (id := 19) (caps := []) rfl (mp_cons (v := v_turns) rfl mp_nil) ca₂ ?_
    have hO₆ : Own B h k₆ [eBox r₁ (e_T_kitty_Corner.c (⟨0, 0⟩ : T_kitty_Corner)), eBox r₂ (e_T_kitty_Corner.c (⟨0, 0⟩ : T_kitty_Corner)), eSl e_T_kitty_Corner v₁ x1] := hO₃.call hW₂ rfl
    refine WO_v (a_mv (v := v_turns) rfl) ?_
    obtain ⟨x2, hx₃, hp⟩ := bd_some hp
    obtain ⟨u₃, k₇, ca₃, v₂, rfl, hW₃⟩ := p_kitty_sums.ok (h := k₆)  (hO₆.rd0 s_turns.rd : Sl eInt k₆ v_turns turns) hx₃
    refine WO_c (id := 62) (caps := []) rfl (mp_cons (v := v_turns) rfl mp_nil) ca₃ ?_
    have hO₇ : Own B h k₇ [eBox r₁ (e_T_kitty_Corner.c (⟨0, 0⟩ : T_kitty_Corner)), eBox r₂ (e_T_kitty_Corner.c (⟨0, 0⟩ : T_kitty_Corner)), eSl e_T_kitty_Corner v₁ x1, eSl eInt v₂ x2] := hO₆.call hW₃ rfl
    refine WO_v (a_mv (v := v₁) rfl) ?_
    refine WO_v (a_mv (v := v₂) rfl) ?_
    refine WO_end ?_
    refine then_n ?_
    refine W_sq ?_
    refine W_sq ?_
    refine W_rg ?_
    refine WO_v (a_mv (v := v₁) rfl) ?_
    refine WO_v (a_len (hO₇.sl 2 rfl : Sl e_T_kitty_Corner k₇ v₁ x1) rfl) ?_
    refine WO_v (a_mv (v := .i .i64 0) rfl) ?_
    refine WO_end ?_
    refine then_n ?_
    refine W_bl ?_
    obtain ⟨o₁, ho₁, hp⟩ := bd_some hp
    refine W.mono (Q := fun e fr k => match (generalizing := false) o₁ with
        | .inl _ => e = (.exit 0) ∧ fr 2 = .p r₁ 0 ∧ fr 3 = .p r₂ 0 ∧ Own B h k [eBox r₁ (e_T_kitty_Corner.c (⟨0, 0⟩ : T_kitty_Corner)), eBox r₂ (e_T_kitty_Corner.c (⟨0, 0⟩ : T_kitty_Corner))]
        | .inr (x4, x5) => e = .ret ∧ fr 2 = .p r₁ 0 ∧ fr 3 = .p r₂ 0 ∧ fr 4 = .b true ∧ Own B h k [eBox r₁ (e_T_kitty_Corner.c x4), eBox r₂ (e_T_kitty_Corner.c x5)]) ?_ ?_
    · clear hp
      refine W_loopF (fun st fr k => match st with | x3 => fr 2 = .p r₁ 0 ∧ fr 3 = .p r₂ 0 ∧ fr 5 = v₁ ∧ fr 6 = v₂ ∧ fr 20 = v₁ ∧ fr 21 = .i .i64 (x1.length : Int) ∧ fr 22 = .i .i64 x3 ∧ Own B h k [eBox r₁ (e_T_kitty_Corner.c (⟨0, 0⟩ : T_kitty_Corner)), eBox r₂ (e_T_kitty_Corner.c (⟨0, 0⟩ : T_kitty_Corner)), eSl e_T_kitty_Corner v₁ x1, eSl eInt v₂ x2]) ho₁ (s := 0) (And.intro (rfl) (And.intro (rfl) (And.intro (rfl) (And.intro (rfl) (And.intro (rfl) (And.intro (rfl) (And.intro (rfl) (hO₇.pick [0, 1, 2, 3] rfl (by decide))))))))) ?_
      rintro x3 q₂ k₉ ⟨q₂_2, q₂_3, q₂_5, q₂_6, q₂_20, q₂_21, q₂_22, hO₉⟩ o₂ hp
      dsimp only [p_kitty_Pair.s0] at hp
      refine W_sq ?_
      refine W_rg ?_
      refine WO_v (a_lss (a := x3) (b := (x1.length : Int)) q₂_22 q₂_21) ?_
      refine WO_end ?_
      refine then_n ?_
      refine W_sq ?_
      rcases if_some hp with ⟨b₂, hp⟩ | ⟨b₂, hp⟩
      · refine W_cT (t := (decide (x3 < (x1.length : Int)))) rfl b₂ ?_
        refine W_sk ?_
        refine then_n ?_
        refine W_sq ?_
        refine W_bl ?_
        refine W_sq ?_
        refine W_rg ?_
        obtain ⟨c₁, hp⟩ := ck_some hp
        refine WO_v (a_ixa (E := e_T_kitty_Corner) (z := x3) (hO₉.sl 2 rfl : Sl e_T_kitty_Corner k₉ v₁ x1) q₂_20 q₂_22 c₁) ?_
        refine WO_v (a_ldA (E := e_T_kitty_Corner) (hO₉.sl 2 rfl : Sl e_T_kitty_Corner k₉ v₁ x1) rfl (toNat_lt c₁)) ?_
        refine WO_x (hO₉.alloc (cs := e_T_kitty_Corner.c (⟨0, 0⟩ : T_kitty_Corner)) hO₉.fr) ?_
        rintro _ k₁₀ ⟨r₃, rfl, n₃, f₅, hW⟩
        have hO₁₀ : Own B h k₁₀ [eBox r₁ (e_T_kitty_Corner.c (⟨0, 0⟩ : T_kitty_Corner)), eBox r₂ (e_T_kitty_Corner.c (⟨0, 0⟩ : T_kitty_Corner)), eSl e_T_kitty_Corner v₁ x1, eSl eInt v₂ x2, eBox r₃ (e_T_kitty_Corner.c (⟨0, 0⟩ : T_kitty_Corner))] := hW
        refine WO_x (hO₁₀.stb (ws := e_T_kitty_Corner.c (gi x1 (x3 : Int).toNat)) (cs' := e_T_kitty_Corner.c (gi x1 (x3 : Int).toNat)) (v := .ag (e_T_kitty_Corner.c (gi x1 (x3 : Int).toNat))) 4 rfl rfl rfl rfl ⟨rfl, Nat.le_of_ble_eq_true rfl, rfl⟩ rfl) ?_
        rintro _ k₁₁ ⟨rfl, f₆, m₃, hW⟩
        have hO₁₁ : Own B h k₁₁ [eBox r₁ (e_T_kitty_Corner.c (⟨0, 0⟩ : T_kitty_Corner)), eBox r₂ (e_T_kitty_Corner.c (⟨0, 0⟩ : T_kitty_Corner)), eSl e_T_kitty_Corner v₁ x1, eSl eInt v₂ x2, eBox r₃ (e_T_kitty_Corner.c (gi x1 (x3 : Int).toNat))] := hW
        refine WO_end ?_
        refine then_n ?_
        refine W_sq ?_
        refine W_rg ?_
        refine WO_v (a_mv (v := v₁) q₂_5) ?_
        refine WO_v (a_len (hO₁₁.sl 2 rfl : Sl e_T_kitty_Corner k₁₁ v₁ x1) rfl) ?_
        refine WO_v (a_mv (v := .i .i64 0) rfl) ?_
        refine WO_end ?_
        refine then_n ?_
        refine W_bl ?_
        obtain ⟨o₃, ho₂, hp⟩ := bd_some hp
        refine W.mono (Q := fun e fr k => match (generalizing := false) o₃ with
            | .inl _ => e = (.exit 2) ∧ fr 2 = .p r₁ 0 ∧ fr 3 = .p r₂ 0 ∧ fr 5 = v₁ ∧ fr 6 = v₂ ∧ fr 20 = v₁ ∧ fr 21 = .i .i64 (x1.length : Int) ∧ fr 22 = .i .i64 x3 ∧ Own B h k [eBox r₁ (e_T_kitty_Corner.c (⟨0, 0⟩ : T_kitty_Corner)), eBox r₂ (e_T_kitty_Corner.c (⟨0, 0⟩ : T_kitty_Corner)), eSl e_T_kitty_Corner v₁ x1, eSl eInt v₂ x2]
            | .inr x7 => e = .ret ∧ fr 2 = .p r₁ 0 ∧ fr 3 = .p r₂ 0 ∧ fr 4 = .b true ∧ Own B h k [eBox r₁ (e_T_kitty_Corner.c (gi x1 (x3 : Int).toNat)), eBox r₂ (e_T_kitty_Corner.c x7)]) ?_ ?_
        · clear hp
          refine W_loopF (fun st fr k => match st with | x6 => fr 2 = .p r₁ 0 ∧ fr 3 = .p r₂ 0 ∧ fr 5 = v₁ ∧ fr 6 = v₂ ∧ fr 8 = .p r₃ 0 ∧ fr 20 = v₁ ∧ fr 21 = .i .i64 (x1.length : Int) ∧ fr 22 = .i .i64 x3 ∧ fr 26 = v₁ ∧ fr 27 = .i .i64 (x1.length : Int) ∧ fr 28 = .i .i64 x6 ∧ Own B h k [eBox r₁ (e_T_kitty_Corner.c (⟨0, 0⟩ : T_kitty_Corner)), eBox r₂ (e_T_kitty_Corner.c (⟨0, 0⟩ : T_kitty_Corner)), eSl e_T_kitty_Corner v₁ x1, eSl eInt v₂ x2, eBox r₃ (e_T_kitty_Corner.c (gi x1 (x3 : Int).toNat))]) ho₂ (s := 0) (And.intro (q₂_2) (And.intro (q₂_3) (And.intro (q₂_5) (And.intro (q₂_6) (And.intro (rfl) (And.intro (q₂_20) (And.intro (q₂_21) (And.intro (q₂_22) (And.intro (rfl) (And.intro (rfl) (And.intro (rfl) (hO₁₁.pick [0, 1, 2, 3, 4] rfl (by decide))))))))))))) ?_
          rintro x6 q₄ k₁₃ ⟨q₄_2, q₄_3, q₄_5, q₄_6, q₄_8, q₄_20, q₄_21, q₄_22, q₄_26, q₄_27, q₄_28, hO₁₃⟩ o₄ hp
          dsimp only [p_kitty_Pair.s1] at hp
          refine W_sq ?_
          refine W_rg ?_
          refine WO_v (a_lss (a := x6) (b := (x1.length : Int)) q₄_28 q₄_27) ?_
          refine WO_end ?_
          refine then_n ?_
          refine W_sq ?_
          rcases if_some hp with ⟨b₃, hp⟩ | ⟨b₃, hp⟩
          · refine W_cT (t := (decide (x6 < (x1.length : Int)))) rfl b₃ ?_
            refine W_sk ?_
            refine then_n ?_
            refine W_sq ?_
            refine W_bl ?_
            refine W_sq ?_
            refine W_rg ?_
            obtain ⟨c₂, hp⟩ := ck_some hp
            refine WO_v (a_ixa (E := e_T_kitty_Corner) (z := x6) (hO₁₃.sl 2 rfl : Sl e_T_kitty_Corner k₁₃ v₁ x1) q₄_26 q₄_28 c₂) ?_
            refine WO_v (a_ldA (E := e_T_kitty_Corner) (hO₁₃.sl 2 rfl : Sl e_T_kitty_Corner k₁₃ v₁ x1) rfl (toNat_lt c₂)) ?_
            refine WO_x (hO₁₃.alloc (cs := e_T_kitty_Corner.c (⟨0, 0⟩ : T_kitty_Corner)) hO₁₃.fr) ?_
            rintro _ k₁₄ ⟨r₄, rfl, n₄, f₇, hW⟩
            have hO₁₄ : Own B h k₁₄ [eBox r₁ (e_T_kitty_Corner.c (⟨0, 0⟩ : T_kitty_Corner)), eBox r₂ (e_T_kitty_Corner.c (⟨0, 0⟩ : T_kitty_Corner)), eSl e_T_kitty_Corner v₁ x1, eSl eInt v₂ x2, eBox r₃ (e_T_kitty_Corner.c (gi x1 (x3 : Int).toNat)), eBox r₄ (e_T_kitty_Corner.c (⟨0, 0⟩ : T_kitty_Corner))] := hW
            refine WO_x (hO₁₄.stb (ws := e_T_kitty_Corner.c (gi x1 (x6 : Int).toNat)) (cs' := e_T_kitty_Corner.c (gi x1 (x6 : Int).toNat)) (v := .ag (e_T_kitty_Corner.c (gi x1 (x6 : Int).toNat))) 5 rfl rfl rfl rfl ⟨rfl, Nat.le_of_ble_eq_true rfl, rfl⟩ rfl) ?_
            rintro _ k₁₅ ⟨rfl, f₈, m₄, hW⟩
            have hO₁₅ : Own B h k₁₅ [eBox r₁ (e_T_kitty_Corner.c (⟨0, 0⟩ : T_kitty_Corner)), eBox r₂ (e_T_kitty_Corner.c (⟨0, 0⟩ : T_kitty_Corner)), eSl e_T_kitty_Corner v₁ x1, eSl eInt v₂ x2, eBox r₃ (e_T_kitty_Corner.c (gi x1 (x3 : Int).toNat)), eBox r₄ (e_T_kitty_Corner.c (gi x1 (x6 : Int).toNat))] := hW
            refine WO_end ?_
            refine then_n ?_
            refine W_sq ?_
            refine W_rg ?_
            refine WO_v (a_mv (v := v₂) q₄_6) ?_
            refine WO_v (a_ldbA (cs := (e_T_kitty_Corner.c (gi x1 (x3 : Int).toNat))) (ws := e_T_kitty_Corner.c (gi x1 (x3 : Int).toNat)) (hO₁₅.box 4 rfl) q₄_8 rfl) ?_
            refine WO_v (a_ldbA (cs := (e_T_kitty_Corner.c (gi x1 (x6 : Int).toNat))) (ws := e_T_kitty_Corner.c (gi x1 (x6 : Int).toNat)) (hO₁₅.box 5 rfl) rfl rfl) ?_
            obtain ⟨x8, hx₄, hp⟩ := bd_some hp
            obtain ⟨u₄, k₁₆, ca₄, rfl, hW₄⟩ := p_kitty_rot.ok (h := k₁₅)  (hO₁₅.sl 3 rfl : Sl eInt k₁₅ v₂ x2) hx₄
            refine WO_c (id := 61) (caps := []) rfl (mp_cons (v := v₂) rfl (mp_cons (v := .ag (e_T_kitty_Corner.c (gi x1 (x3 : Int).toNat))) rfl (mp_cons (v := .ag (e_T_kitty_Corner.c (gi x1 (x6 : Int).toNat))) rfl mp_nil))) ca₄ ?_
            have hO₁₆ : Own B h k₁₆ [eBox r₁ (e_T_kitty_Corner.c (⟨0, 0⟩ : T_kitty_Corner)), eBox r₂ (e_T_kitty_Corner.c (⟨0, 0⟩ : T_kitty_Corner)), eSl e_T_kitty_Corner v₁ x1, eSl eInt v₂ x2, eBox r₃ (e_T_kitty_Corner.c (gi x1 (x3 : Int).toNat)), eBox r₄ (e_T_kitty_Corner.c (gi x1 (x6 : Int).toNat))] := hO₁₅.call hW₄ rfl
            refine WO_v (a_eqI (a := x8) (b := 2) rfl rfl) ?_
            refine WO_end ?_
            refine then_n ?_
            rcases if_some hp with ⟨b₄, hp⟩ | ⟨b₄, hp⟩
            · refine W_cT (t := (decide (x8 = 2))) rfl b₄ ?_
              refine W_sq ?_
              refine W_dr ?_
              have hW := hO₁₆.bump 5
              have fr₁ := Fresh.start k₁₆ 5
              have nb₁ : ∀ {i : Nat}, h.n ≤ k₁₆.n + i := Nat.le_trans hO₁₆.n (Nat.le_add_right _ _)
              have hO₁₇ : Own B h (k₁₆.bump 5) [eBox r₁ (e_T_kitty_Corner.c (⟨0, 0⟩ : T_kitty_Corner)), eBox r₂ (e_T_kitty_Corner.c (⟨0, 0⟩ : T_kitty_Corner)), eSl e_T_kitty_Corner v₁ x1, eSl eInt v₂ x2, eBox r₃ (e_T_kitty_Corner.c (gi x1 (x3 : Int).toNat)), eBox r₄ (e_T_kitty_Corner.c (gi x1 (x6 : Int).toNat))] := hW
              refine WD_v (a_ldbA (cs := (e_T_kitty_Corner.c (gi x1 (x3 : Int).toNat))) (ws := e_T_kitty_Corner.c (gi x1 (x3 : Int).toNat)) (hO₁₇.box 4 rfl) q₄_8 rfl) ?_
              refine WD_v (a_ldbA (cs := (e_T_kitty_Corner.c (gi x1 (x6 : Int).toNat))) (ws := e_T_kitty_Corner.c (gi x1 (x6 : Int).toNat)) (hO₁₇.box 5 rfl) rfl rfl) ?_
              refine WD_x (hO₁₇.stb (ws := e_T_kitty_Corner.c (gi x1 (x3 : Int).toNat)) (cs' := e_T_kitty_Corner.c (gi x1 (x3 : Int).toNat)) (v := .ag (e_T_kitty_Corner.c (gi x1 (x3 : Int).toNat))) 0 rfl q₄_2 rfl rfl ⟨rfl, Nat.le_of_ble_eq_true rfl, rfl⟩ rfl) ?_
              rintro _ k₁₈ z₁ ⟨rfl, f₉, m₅, hW⟩
              have fr₂ := fr₁.kept f₉ (by decide)
              have hO₁₈ : Own B h k₁₈ [eBox r₁ (e_T_kitty_Corner.c (gi x1 (x3 : Int).toNat)), eBox r₂ (e_T_kitty_Corner.c (⟨0, 0⟩ : T_kitty_Corner)), eSl e_T_kitty_Corner v₁ x1, eSl eInt v₂ x2, eBox r₃ (e_T_kitty_Corner.c (gi x1 (x3 : Int).toNat)), eBox r₄ (e_T_kitty_Corner.c (gi x1 (x6 : Int).toNat))] := hW
              refine WD_x (hO₁₈.stb (ws := e_T_kitty_Corner.c (gi x1 (x6 : Int).toNat)) (cs' := e_T_kitty_Corner.c (gi x1 (x6 : Int).toNat)) (v := .ag (e_T_kitty_Corner.c (gi x1 (x6 : Int).toNat))) 1 rfl q₄_3 rfl rfl ⟨rfl, Nat.le_of_ble_eq_true rfl, rfl⟩ rfl) ?_
              rintro _ k₁₉ z₂ ⟨rfl, f₁₀, m₆, hW⟩
              have fr₃ := fr₂.kept f₁₀ (by decide)
              have hO₁₉ : Own B h k₁₉ [eBox r₁ (e_T_kitty_Corner.c (gi x1 (x3 : Int).toNat)), eBox r₂ (e_T_kitty_Corner.c (gi x1 (x6 : Int).toNat)), eSl e_T_kitty_Corner v₁ x1, eSl eInt v₂ x2, eBox r₃ (e_T_kitty_Corner.c (gi x1 (x3 : Int).toNat)), eBox r₄ (e_T_kitty_Corner.c (gi x1 (x6 : Int).toNat))] := hW
              refine WD_v (a_mv (v := .b true) rfl) ?_
              refine WD_end ?_
              refine And.intro ?_ ?_
              · intro q hq
                simp only [List.mem_cons, List.not_mem_nil, or_false] at hq
                rcases hq with rfl | rfl
                · refine ap_ll ?_ ?_
                  · exact (fun h => nomatch h)
                  · exact (fun h => nomatch h)
                · refine ap_oo ?_ ?_ ?_
                  · exact (fun r h1 h2 => hO₁₆.apartAt (i := 5) (j := 0) rfl rfl (by decide) r (tch (v := V.p r₄ 0) (ld_el h1) rfl) (tch (v := V.p r₁ 0) (st_el h2) q₄_2))
                  · exact (fun h => nomatch h)
                  · exact (fun _ hm => Nat.lt_irrefl _ (Nat.lt_of_lt_of_le (hO₁₆.ltAt 5 rfl _ (tch (v := V.p r₄ 0) (ld_el hm) rfl)) (Nat.le_add_right _ _)))
              refine then_n ?_
              refine W_rt ?_
              refine blk_r ?_
              refine then_r ?_
              have hp := Option.some.inj hp; subst hp
              refine (Or.inr (Exists.intro (.inr (gi x1 (x6 : Int).toNat)) (And.intro rfl (And.intro (fun h => nomatch h) (fun he => ?_)))))
              subst he; exact (And.intro rfl (And.intro (q₄_2) (And.intro (q₄_3) (And.intro (rfl) (hO₁₉.pick [0, 1] rfl (by decide))))))
            · refine W_cF (t := (decide (x8 = 2))) rfl b₄ ?_
              refine W_sk ?_
              refine blk_n ?_
              refine then_n ?_
              refine W_rg ?_
              obtain ⟨c₃, hp⟩ := ck_some hp
              refine WO_v (a_add (a := x6) (b := 1) q₄_28 rfl c₃) ?_
              refine WO_v (a_mv (v := .i .i64 (x6 + 1)) rfl) ?_
              refine WO_end ?_
              have hp := Option.some.inj hp; subst hp
              exact (Or.inl (Exists.intro (x6 + 1) (And.intro rfl (And.intro rfl (And.intro (q₄_2) (And.intro (q₄_3) (And.intro (q₄_5) (And.intro (q₄_6) (And.intro (q₄_8) (And.intro (q₄_20) (And.intro (q₄_21) (And.intro (q₄_22) (And.intro (q₄_26) (And.intro (q₄_27) (And.intro (rfl) (hO₁₆.pick [0, 1, 2, 3, 4] rfl (by decide)))))))))))))))))
          · refine W_cF (t := (decide (x6 < (x1.length : Int)))) rfl b₃ ?_
            refine W_ex ?_
            refine then_e ?_
            have hp := Option.some.inj hp; subst hp
            refine (Or.inr (Exists.intro (.inl ()) (And.intro rfl (And.intro (fun h => nomatch h) (fun he => ?_)))))
            subst he; exact (And.intro rfl (And.intro (q₄_2) (And.intro (q₄_3) (And.intro (q₄_5) (And.intro (q₄_6) (And.intro (q₄_20) (And.intro (q₄_21) (And.intro (q₄_22) (hO₁₃.pick [0, 1, 2, 3] rfl (by decide))))))))))
        intro e₂ q₃ k₁₂ hJ₂
        rcases o₃ with _ | x7
        · obtain ⟨rfl, q₃_2, q₃_3, q₃_5, q₃_6, q₃_20, q₃_21, q₃_22, hO₁₂⟩ := hJ₂
          refine blk_i ?_
          refine blk_n ?_
          refine then_n ?_
          refine W_rg ?_
          obtain ⟨c₄, hp⟩ := ck_some hp
          refine WO_v (a_add (a := x3) (b := 1) q₃_22 rfl c₄) ?_
          refine WO_v (a_mv (v := .i .i64 (x3 + 1)) rfl) ?_
          refine WO_end ?_
          have hp := Option.some.inj hp; subst hp
          exact (Or.inl (Exists.intro (x3 + 1) (And.intro rfl (And.intro rfl (And.intro (q₃_2) (And.intro (q₃_3) (And.intro (q₃_5) (And.intro (q₃_6) (And.intro (q₃_20) (And.intro (q₃_21) (And.intro (rfl) (hO₁₂.pick [0, 1, 2, 3] rfl (by decide)))))))))))))
        · obtain ⟨rfl, q₃_2, q₃_3, q₃_4, hO₁₂⟩ := hJ₂
          refine blk_r ?_
          refine blk_r ?_
          refine then_r ?_
          have hp := Option.some.inj hp; subst hp
          refine (Or.inr (Exists.intro (.inr (gi x1 (x3 : Int).toNat, x7)) (And.intro rfl (And.intro (fun h => nomatch h) (fun he => ?_)))))
          subst he; exact (And.intro rfl (And.intro (q₃_2) (And.intro (q₃_3) (And.intro (q₃_4) (hO₁₂.pick [0, 1] rfl (by decide))))))
      · refine W_cF (t := (decide (x3 < (x1.length : Int)))) rfl b₂ ?_
        refine W_ex ?_
        refine then_e ?_
        have hp := Option.some.inj hp; subst hp
        refine (Or.inr (Exists.intro (.inl ()) (And.intro rfl (And.intro (fun h => nomatch h) (fun he => ?_)))))
        subst he; exact (And.intro rfl (And.intro (q₂_2) (And.intro (q₂_3) (hO₉.pick [0, 1] rfl (by decide)))))
    intro e₁ q₁ k₈ hJ₁
    rcases o₁ with _ | ⟨x4, x5⟩
    · obtain ⟨rfl, q₁_2, q₁_3, hO₈⟩ := hJ₁
      refine blk_i ?_
      refine then_n ?_
      refine W_sq ?_
      refine W_rg ?_
      refine WO_v (a_build (cs := e_T_kitty_Corner.c (⟨(0 : Int), (0 : Int)⟩ : T_kitty_Corner)) (by rw [ev_nil]; rfl)) ?_
      refine WO_v (a_build (cs := e_T_kitty_Corner.c (⟨(0 : Int), (0 : Int)⟩ : T_kitty_Corner)) (by rw [ev_nil]; rfl)) ?_
      refine WO_x (hO₈.stb (ws := e_T_kitty_Corner.c (⟨(0 : Int), (0 : Int)⟩ : T_kitty_Corner)) (cs' := e_T_kitty_Corner.c (⟨(0 : Int), (0 : Int)⟩ : T_kitty_Corner)) (v := .ag (e_T_kitty_Corner.c (⟨(0 : Int), (0 : Int)⟩ : T_kitty_Corner))) 0 rfl q₁_2 rfl rfl ⟨rfl, Nat.le_of_ble_eq_true rfl, rfl⟩ rfl) ?_
      rintro _ k₂₀ ⟨rfl, f₁₁, m₇, hW⟩
      have hO₂₀ : Own B h k₂₀ [eBox r₁ (e_T_kitty_Corner.c (⟨(0 : Int), (0 : Int)⟩ : T_kitty_Corner)), eBox r₂ (e_T_kitty_Corner.c (⟨0, 0⟩ : T_kitty_Corner))] := hW
      refine WO_x (hO₂₀.stb (ws := e_T_kitty_Corner.c (⟨(0 : Int), (0 : Int)⟩ : T_kitty_Corner)) (cs' := e_T_kitty_Corner.c (⟨(0 : Int), (0 : Int)⟩ : T_kitty_Corner)) (v := .ag (e_T_kitty_Corner.c (⟨(0 : Int), (0 : Int)⟩ : T_kitty_Corner))) 1 rfl q₁_3 rfl rfl ⟨rfl, Nat.le_of_ble_eq_true rfl, rfl⟩ rfl) ?_
      rintro _ k₂₁ ⟨rfl, f₁₂, m₈, hW⟩
      have hO₂₁ : Own B h k₂₁ [eBox r₁ (e_T_kitty_Corner.c (⟨(0 : Int), (0 : Int)⟩ : T_kitty_Corner)), eBox r₂ (e_T_kitty_Corner.c (⟨(0 : Int), (0 : Int)⟩ : T_kitty_Corner))] := hW
      refine WO_v (a_mv (v := .b false) rfl) ?_
      refine WO_end ?_
      refine then_n ?_
      refine W_rt ?_
      refine Ret_r (rs_c (n := 2) (v := .ag (e_T_kitty_Corner.c (⟨(0 : Int), (0 : Int)⟩ : T_kitty_Corner))) (r := r₁) q₁_2 (hO₂₁.box 0 rfl) rfl (rs_c (n := 3) (v := .ag (e_T_kitty_Corner.c (⟨(0 : Int), (0 : Int)⟩ : T_kitty_Corner))) (r := r₂) q₁_3 (hO₂₁.box 1 rfl) rfl (rs_t (n := 4) (v := .b false) rfl rs_nil))) ?_
      have hp := Option.some.inj hp; subst hp
      exact (And.intro rfl (hO₂₁.pick [] rfl (by decide)))
    · obtain ⟨rfl, q₁_2, q₁_3, q₁_4, hO₈⟩ := hJ₁
      refine blk_r ?_
      refine then_r ?_
      refine Ret_r (rs_c (n := 2) (v := .ag (e_T_kitty_Corner.c x4)) (r := r₁) q₁_2 (hO₈.box 0 rfl) rfl (rs_c (n := 3) (v := .ag (e_T_kitty_Corner.c x5)) (r := r₂) q₁_3 (hO₈.box 1 rfl) rfl (rs_t (n := 4) (v := .b true) q₁_4 rs_nil))) ?_
      have hp := Option.some.inj hp; subst hp
      exact (And.intro rfl (hO₈.pick [] rfl (by decide)))

theorem p_muntinref15_Pair.ok {h : Hp} {t : List Int} {v_t : V} (s_t : Sl eInt h v_t t) {r : T_muntinref15_Corner × T_muntinref15_Corner × Bool} (hp : p_muntinref15_Pair t = some r) :
    ∃ u k', Is G 25 [v_t] h u k' ∧ V.tu [.ag (e_T_muntinref15_Corner.c r.1), .ag (e_T_muntinref15_Corner.c r.2.1), .b r.2.2] = u ∧ Own (fun r => r < h.n) h k' [] := by
  refine WC.is (WC_of G_F_muntinref15_Pair ?_)
  unfold p_muntinref15_Pair at hp
  let B : Nat → Prop := (fun r => r < h.n)
  have hO : Own B h h [] := Own.start0 h
  refine W_sq ?_
  refine W_rg ?_
  refine WO_x (hO.alloc (cs := e_T_muntinref15_Corner.c (⟨0, 0⟩ : T_muntinref15_Corner)) hO.fr) ?_
  rintro _ k₁ ⟨r₁, rfl, n₁, f₁, hW⟩
  have hO₁ : Own B h k₁ [eBox r₁ (e_T_muntinref15_Corner.c (⟨0, 0⟩ : T_muntinref15_Corner))] := hW
  refine WO_x (hO₁.alloc (cs := e_T_muntinref15_Corner.c (⟨0, 0⟩ : T_muntinref15_Corner)) hO₁.fr) ?_
  rintro _ k₂ ⟨r₂, rfl, n₂, f₂, hW⟩
  have hO₂ : Own B h k₂ [eBox r₁ (e_T_muntinref15_Corner.c (⟨0, 0⟩ : T_muntinref15_Corner)), eBox r₂ (e_T_muntinref15_Corner.c (⟨0, 0⟩ : T_muntinref15_Corner))] := hW
  refine WO_v (a_mv (v := .b false) rfl) ?_
  refine WO_end ?_
  refine then_n ?_
  refine W_sq ?_
  refine W_rg ?_
  refine WO_v (a_mv (v := v_t) rfl) ?_
  obtain ⟨x, hx₁, hp⟩ := bd_some hp
  obtain ⟨u₁, k₃, ca₁, v₁, rfl, hW₁⟩ := p_muntinref15_Corners.ok (h := k₂)  (hO₂.rd0 s_t.rd : Sl eInt k₂ v_t t) hx₁
  refine WO_c (id := 20) (caps := []) rfl (mp_cons (v := v_t) rfl mp_nil) ca₁ ?_
  have hO₃ : Own B h k₃ [eBox r₁ (e_T_muntinref15_Corner.c (⟨0, 0⟩ : T_muntinref15_Corner)), eBox r₂ (e_T_muntinref15_Corner.c (⟨0, 0⟩ : T_muntinref15_Corner)), eSl e_T_muntinref15_Corner v₁ x] := hO₂.call hW₁ rfl
  refine WO_v (a_mv (v := v₁) rfl) ?_
  refine WO_end ?_
  refine then_n ?_
  refine W_sq ?_
  refine W_sq ?_
  refine W_rg ?_
  refine WO_v (a_mv (v := .i .i64 0) rfl) ?_
  refine WO_end ?_
  refine then_n ?_
  refine W_bl ?_
  obtain ⟨o₁, ho₁, hp⟩ := bd_some hp
  refine W.mono (Q := fun e fr k => match (generalizing := false) o₁ with
      | .inl _ => e = (.exit 0) ∧ fr 2 = .p r₁ 0 ∧ fr 3 = .p r₂ 0 ∧ Own B h k [eBox r₁ (e_T_muntinref15_Corner.c (⟨0, 0⟩ : T_muntinref15_Corner)), eBox r₂ (e_T_muntinref15_Corner.c (⟨0, 0⟩ : T_muntinref15_Corner))]
      | .inr (x1, x2) => e = .ret ∧ fr 2 = .p r₁ 0 ∧ fr 3 = .p r₂ 0 ∧ fr 4 = .b true ∧ Own B h k [eBox r₁ (e_T_muntinref15_Corner.c x1), eBox r₂ (e_T_muntinref15_Corner.c x2)]) ?_ ?_
  · clear hp
    refine W_loopF (fun st fr k => match st with | i => fr 0 = v_t ∧ fr 2 = .p r₁ 0 ∧ fr 3 = .p r₂ 0 ∧ fr 5 = v₁ ∧ fr 6 = .i .i64 i ∧ Own B h k [eBox r₁ (e_T_muntinref15_Corner.c (⟨0, 0⟩ : T_muntinref15_Corner)), eBox r₂ (e_T_muntinref15_Corner.c (⟨0, 0⟩ : T_muntinref15_Corner)), eSl e_T_muntinref15_Corner v₁ x]) ho₁ (s := 0) (And.intro (rfl) (And.intro (rfl) (And.intro (rfl) (And.intro (rfl) (And.intro (rfl) (hO₃.pick [0, 1, 2] rfl (by decide))))))) ?_
    rintro i q₂ k₅ ⟨q₂_0, q₂_2, q₂_3, q₂_5, q₂_6, hO₅⟩ o₂ hp
    dsimp only [p_muntinref15_Pair.s0] at hp
    refine W_sq ?_
    refine W_sq ?_
    refine W_rg ?_
    refine WO_v (a_mv (v := .i .i64 i) q₂_6) ?_
    refine WO_v (a_mv (v := v₁) q₂_5) ?_
    refine WO_v (a_len (hO₅.sl 2 rfl : Sl e_T_muntinref15_Corner k₅ v₁ x) rfl) ?_
    refine WO_v (a_lss (a := i) (b := (x.length : Int)) rfl rfl) ?_
    refine WO_end ?_
    refine then_n ?_
    rcases if_some hp with ⟨b₁, hp⟩ | ⟨b₁, hp⟩
    · refine W_cT (t := (decide (i < (x.length : Int)))) rfl b₁ ?_
      refine W_sk ?_
      refine then_n ?_
      refine W_sq ?_
      refine W_bl ?_
      refine W_sq ?_
      refine W_rg ?_
      refine WO_v (a_mv (v := .i .i64 0) rfl) ?_
      refine WO_end ?_
      refine then_n ?_
      refine W_bl ?_
      obtain ⟨o₃, ho₂, hp⟩ := bd_some hp
      refine W.mono (Q := fun e fr k => match (generalizing := false) o₃ with
          | .inl _ => e = (.exit 2) ∧ fr 0 = v_t ∧ fr 2 = .p r₁ 0 ∧ fr 3 = .p r₂ 0 ∧ fr 5 = v₁ ∧ fr 6 = .i .i64 i ∧ Own B h k [eBox r₁ (e_T_muntinref15_Corner.c (⟨0, 0⟩ : T_muntinref15_Corner)), eBox r₂ (e_T_muntinref15_Corner.c (⟨0, 0⟩ : T_muntinref15_Corner)), eSl e_T_muntinref15_Corner v₁ x]
          | .inr x3 => e = .ret ∧ fr 2 = .p r₁ 0 ∧ fr 3 = .p r₂ 0 ∧ fr 4 = .b true ∧ Own B h k [eBox r₁ (e_T_muntinref15_Corner.c (gi x (i : Int).toNat)), eBox r₂ (e_T_muntinref15_Corner.c x3)]) ?_ ?_
      · clear hp
        refine W_loopF (fun st fr k => match st with | k_ => fr 0 = v_t ∧ fr 2 = .p r₁ 0 ∧ fr 3 = .p r₂ 0 ∧ fr 5 = v₁ ∧ fr 6 = .i .i64 i ∧ fr 7 = .i .i64 k_ ∧ Own B h k [eBox r₁ (e_T_muntinref15_Corner.c (⟨0, 0⟩ : T_muntinref15_Corner)), eBox r₂ (e_T_muntinref15_Corner.c (⟨0, 0⟩ : T_muntinref15_Corner)), eSl e_T_muntinref15_Corner v₁ x]) ho₂ (s := 0) (And.intro (q₂_0) (And.intro (q₂_2) (And.intro (q₂_3) (And.intro (q₂_5) (And.intro (q₂_6) (And.intro (rfl) (hO₅.pick [0, 1, 2] rfl (by decide)))))))) ?_
        rintro k_ q₄ k₇ ⟨q₄_0, q₄_2, q₄_3, q₄_5, q₄_6, q₄_7, hO₇⟩ o₄ hp
        dsimp only [p_muntinref15_Pair.s1] at hp
        refine W_sq ?_
        refine W_sq ?_
        refine W_rg ?_
        refine WO_v (a_mv (v := .i .i64 k_) q₄_7) ?_
        refine WO_v (a_mv (v := v₁) q₄_5) ?_
        refine WO_v (a_len (hO₇.sl 2 rfl : Sl e_T_muntinref15_Corner k₇ v₁ x) rfl) ?_
        refine WO_v (a_lss (a := k_) (b := (x.length : Int)) rfl rfl) ?_
        refine WO_end ?_
        refine then_n ?_
        rcases if_some hp with ⟨b₂, hp⟩ | ⟨b₂, hp⟩
        · refine W_cT (t := (decide (k_ < (x.length : Int)))) rfl b₂ ?_
          refine W_sk ?_
          refine then_n ?_
          refine W_sq ?_
          refine W_bl ?_
          refine W_sq ?_
          refine W_dr ?_
          have hW := hO₇.bump 11
          have fr₁ := Fresh.start k₇ 11
          have nb₁ : ∀ {i : Nat}, h.n ≤ k₇.n + i := Nat.le_trans hO₇.n (Nat.le_add_right _ _)
          have hO₈ : Own B h (k₇.bump 11) [eBox r₁ (e_T_muntinref15_Corner.c (⟨0, 0⟩ : T_muntinref15_Corner)), eBox r₂ (e_T_muntinref15_Corner.c (⟨0, 0⟩ : T_muntinref15_Corner)), eSl e_T_muntinref15_Corner v₁ x] := hW
          refine WD_v (a_mv (v := v_t) q₄_0) ?_
          refine WD_v (a_mv (v := v₁) q₄_5) ?_
          refine WD_v (a_mv (v := .i .i64 i) q₄_6) ?_
          obtain ⟨c₁, hp⟩ := ck_some hp
          refine WD_v (a_ixa (E := e_T_muntinref15_Corner) (z := i) (hO₈.sl 2 rfl : Sl e_T_muntinref15_Corner (k₇.bump 11) v₁ x) rfl rfl c₁) ?_
          refine WD_v (a_ldA (E := e_T_muntinref15_Corner) (hO₈.sl 2 rfl : Sl e_T_muntinref15_Corner (k₇.bump 11) v₁ x) rfl (toNat_lt c₁)) ?_
          refine WD_v (a_mv (v := v₁) q₄_5) ?_
          refine WD_v (a_mv (v := .i .i64 k_) q₄_7) ?_
          obtain ⟨c₂, hp⟩ := ck_some hp
          refine WD_v (a_ixa (E := e_T_muntinref15_Corner) (z := k_) (hO₈.sl 2 rfl : Sl e_T_muntinref15_Corner (k₇.bump 11) v₁ x) rfl rfl c₂) ?_
          refine WD_v (a_ldA (E := e_T_muntinref15_Corner) (hO₈.sl 2 rfl : Sl e_T_muntinref15_Corner (k₇.bump 11) v₁ x) rfl (toNat_lt c₂)) ?_
          obtain ⟨x4, hx₂, hp⟩ := bd_some hp
          obtain ⟨u₂, k₉, ca₂, rfl, hW₂⟩ := p_muntinref15_Rot.ok (h := (k₇.bump 11))  (hO₈.rd0 s_t.rd : Sl eInt (k₇.bump 11) v_t t) hx₂
          refine WD_c (id := 23) (caps := []) rfl (mp_cons (v := v_t) rfl (mp_cons (v := .ag (e_T_muntinref15_Corner.c (gi x (i : Int).toNat))) rfl (mp_cons (v := .ag (e_T_muntinref15_Corner.c (gi x (k_ : Int).toNat))) rfl mp_nil))) ca₂ ?_
          have fr₂ := fr₁.call hW₂
          have hO₉ : Own B h k₉ [eBox r₁ (e_T_muntinref15_Corner.c (⟨0, 0⟩ : T_muntinref15_Corner)), eBox r₂ (e_T_muntinref15_Corner.c (⟨0, 0⟩ : T_muntinref15_Corner)), eSl e_T_muntinref15_Corner v₁ x] := hO₈.call hW₂ rfl
          refine WD_v (a_mv (v := .i .i64 x4) rfl) ?_
          refine WD_end ?_
          refine And.intro ?_ ?_
          · intro q hq
            simp only [List.mem_cons, List.not_mem_nil, or_false] at hq
            rcases hq with rfl
            · refine ap_ll ?_ ?_
              · exact (fun h => nomatch h)
              · exact (fun h => nomatch h)
          refine then_n ?_
          refine W_sq ?_
          refine W_rg ?_
          refine WO_v (a_mv (v := .i .i64 x4) rfl) ?_
          refine WO_v (a_eqI (a := x4) (b := 2) rfl rfl) ?_
          refine WO_end ?_
          refine then_n ?_
          rcases if_some hp with ⟨b₃, hp⟩ | ⟨b₃, hp⟩
          · refine W_cT (t := (decide (x4 = 2))) rfl b₃ ?_
            refine W_sq ?_
            refine W_dr ?_
            have hW := hO₉.bump 11
            have fr₃ := Fresh.start k₉ 11
            have nb₂ : ∀ {i : Nat}, h.n ≤ k₉.n + i := Nat.le_trans hO₉.n (Nat.le_add_right _ _)
            have hO₁₀ : Own B h (k₉.bump 11) [eBox r₁ (e_T_muntinref15_Corner.c (⟨0, 0⟩ : T_muntinref15_Corner)), eBox r₂ (e_T_muntinref15_Corner.c (⟨0, 0⟩ : T_muntinref15_Corner)), eSl e_T_muntinref15_Corner v₁ x] := hW
            refine WD_v (a_mv (v := v₁) q₄_5) ?_
            refine WD_v (a_mv (v := .i .i64 i) q₄_6) ?_
            refine WD_v (a_ixa (E := e_T_muntinref15_Corner) (z := i) (hO₁₀.sl 2 rfl : Sl e_T_muntinref15_Corner (k₉.bump 11) v₁ x) rfl rfl c₁) ?_
            refine WD_v (a_ldA (E := e_T_muntinref15_Corner) (hO₁₀.sl 2 rfl : Sl e_T_muntinref15_Corner (k₉.bump 11) v₁ x) rfl (toNat_lt c₁)) ?_
            refine WD_v (a_mv (v := v₁) q₄_5) ?_
            refine WD_v (a_mv (v := .i .i64 k_) q₄_7) ?_
            refine WD_v (a_ixa (E := e_T_muntinref15_Corner) (z := k_) (hO₁₀.sl 2 rfl : Sl e_T_muntinref15_Corner (k₉.bump 11) v₁ x) rfl rfl c₂) ?_
            refine WD_v (a_ldA (E := e_T_muntinref15_Corner) (hO₁₀.sl 2 rfl : Sl e_T_muntinref15_Corner (k₉.bump 11) v₁ x) rfl (toNat_lt c₂)) ?_
            refine WD_x (hO₁₀.stb (ws := e_T_muntinref15_Corner.c (gi x (i : Int).toNat)) (cs' := e_T_muntinref15_Corner.c (gi x (i : Int).toNat)) (v := .ag (e_T_muntinref15_Corner.c (gi x (i : Int).toNat))) 0 rfl q₄_2 rfl rfl ⟨rfl, Nat.le_of_ble_eq_true rfl, rfl⟩ rfl) ?_
            rintro _ k₁₁ z₁ ⟨rfl, f₃, m₁, hW⟩
            have fr₄ := fr₃.kept f₃ (by decide)
            have hO₁₁ : Own B h k₁₁ [eBox r₁ (e_T_muntinref15_Corner.c (gi x (i : Int).toNat)), eBox r₂ (e_T_muntinref15_Corner.c (⟨0, 0⟩ : T_muntinref15_Corner)), eSl e_T_muntinref15_Corner v₁ x] := hW
            refine WD_x (hO₁₁.stb (ws := e_T_muntinref15_Corner.c (gi x (k_ : Int).toNat)) (cs' := e_T_muntinref15_Corner.c (gi x (k_ : Int).toNat)) (v := .ag (e_T_muntinref15_Corner.c (gi x (k_ : Int).toNat))) 1 rfl q₄_3 rfl rfl ⟨rfl, Nat.le_of_ble_eq_true rfl, rfl⟩ rfl) ?_
            rintro _ k₁₂ z₂ ⟨rfl, f₄, m₂, hW⟩
            have fr₅ := fr₄.kept f₄ (by decide)
            have hO₁₂ : Own B h k₁₂ [eBox r₁ (e_T_muntinref15_Corner.c (gi x (i : Int).toNat)), eBox r₂ (e_T_muntinref15_Corner.c (gi x (k_ : Int).toNat)), eSl e_T_muntinref15_Corner v₁ x] := hW
            refine WD_v (a_mv (v := .b true) rfl) ?_
            refine WD_end ?_
            refine And.intro ?_ ?_
            · intro q hq
              simp only [List.mem_cons, List.not_mem_nil, or_false] at hq
              rcases hq with rfl | rfl
              · refine ap_ll ?_ ?_
                · exact (fun h => nomatch h)
                · exact (fun h => nomatch h)
              · refine ap_oo ?_ ?_ ?_
                · exact (fun r h1 h2 => hO₉.apartAt (i := 2) (j := 0) rfl rfl (by decide) r (refs_elt (tch (v := V.elt v₁ (k_ : Int).toNat 0) (ld_el h1) rfl)) (tch (v := V.p r₁ 0) (st_el h2) q₄_2))
                · exact (fun h => nomatch h)
                · exact (fun _ hm => Nat.lt_irrefl _ (Nat.lt_of_lt_of_le (hO₉.ltAt 2 rfl _ (refs_elt (tch (v := V.elt v₁ (k_ : Int).toNat 0) (ld_el hm) rfl))) (Nat.le_add_right _ _)))
            refine then_n ?_
            refine W_rt ?_
            refine blk_r ?_
            refine then_r ?_
            have hp := Option.some.inj hp; subst hp
            refine (Or.inr (Exists.intro (.inr (gi x (k_ : Int).toNat)) (And.intro rfl (And.intro (fun h => nomatch h) (fun he => ?_)))))
            subst he; exact (And.intro rfl (And.intro (q₄_2) (And.intro (q₄_3) (And.intro (rfl) (hO₁₂.pick [0, 1] rfl (by decide))))))
          · refine W_cF (t := (decide (x4 = 2))) rfl b₃ ?_
            refine W_sk ?_
            refine blk_n ?_
            refine then_n ?_
            refine W_rg ?_
            refine WO_v (a_mv (v := .i .i64 k_) q₄_7) ?_
            obtain ⟨c₃, hp⟩ := ck_some hp
            refine WO_v (a_add (a := k_) (b := 1) rfl rfl c₃) ?_
            refine WO_v (a_mv (v := .i .i64 (k_ + 1)) rfl) ?_
            refine WO_end ?_
            have hp := Option.some.inj hp; subst hp
            exact (Or.inl (Exists.intro (k_ + 1) (And.intro rfl (And.intro rfl (And.intro (q₄_0) (And.intro (q₄_2) (And.intro (q₄_3) (And.intro (q₄_5) (And.intro (q₄_6) (And.intro (rfl) (hO₉.pick [0, 1, 2] rfl (by decide))))))))))))
        · refine W_cF (t := (decide (k_ < (x.length : Int)))) rfl b₂ ?_
          refine W_ex ?_
          refine then_e ?_
          have hp := Option.some.inj hp; subst hp
          refine (Or.inr (Exists.intro (.inl ()) (And.intro rfl (And.intro (fun h => nomatch h) (fun he => ?_)))))
          subst he; exact (And.intro rfl (And.intro (q₄_0) (And.intro (q₄_2) (And.intro (q₄_3) (And.intro (q₄_5) (And.intro (q₄_6) (hO₇.pick [0, 1, 2] rfl (by decide))))))))
      intro e₂ q₃ k₆ hJ₂
      rcases o₃ with _ | x3
      · obtain ⟨rfl, q₃_0, q₃_2, q₃_3, q₃_5, q₃_6, hO₆⟩ := hJ₂
        refine blk_i ?_
        refine blk_n ?_
        refine then_n ?_
        refine W_rg ?_
        refine WO_v (a_mv (v := .i .i64 i) q₃_6) ?_
        obtain ⟨c₄, hp⟩ := ck_some hp
        refine WO_v (a_add (a := i) (b := 1) rfl rfl c₄) ?_
        refine WO_v (a_mv (v := .i .i64 (i + 1)) rfl) ?_
        refine WO_end ?_
        have hp := Option.some.inj hp; subst hp
        exact (Or.inl (Exists.intro (i + 1) (And.intro rfl (And.intro rfl (And.intro (q₃_0) (And.intro (q₃_2) (And.intro (q₃_3) (And.intro (q₃_5) (And.intro (rfl) (hO₆.pick [0, 1, 2] rfl (by decide)))))))))))
      · obtain ⟨rfl, q₃_2, q₃_3, q₃_4, hO₆⟩ := hJ₂
        refine blk_r ?_
        refine blk_r ?_
        refine then_r ?_
        have hp := Option.some.inj hp; subst hp
        refine (Or.inr (Exists.intro (.inr (gi x (i : Int).toNat, x3)) (And.intro rfl (And.intro (fun h => nomatch h) (fun he => ?_)))))
        subst he; exact (And.intro rfl (And.intro (q₃_2) (And.intro (q₃_3) (And.intro (q₃_4) (hO₆.pick [0, 1] rfl (by decide))))))
    · refine W_cF (t := (decide (i < (x.length : Int)))) rfl b₁ ?_
      refine W_ex ?_
      refine then_e ?_
      have hp := Option.some.inj hp; subst hp
      refine (Or.inr (Exists.intro (.inl ()) (And.intro rfl (And.intro (fun h => nomatch h) (fun he => ?_)))))
      subst he; exact (And.intro rfl (And.intro (q₂_2) (And.intro (q₂_3) (hO₅.pick [0, 1] rfl (by decide)))))
  intro e₁ q₁ k₄ hJ₁
  rcases o₁ with _ | ⟨x1, x2⟩
  · obtain ⟨rfl, q₁_2, q₁_3, hO₄⟩ := hJ₁
    refine blk_i ?_
    refine then_n ?_
    refine W_sq ?_
    refine W_rg ?_
    refine WO_v (a_build (cs := e_T_muntinref15_Corner.c (⟨(0 : Int), (0 : Int)⟩ : T_muntinref15_Corner)) (by rw [ev_nil]; rfl)) ?_
    refine WO_v (a_build (cs := e_T_muntinref15_Corner.c (⟨(0 : Int), (0 : Int)⟩ : T_muntinref15_Corner)) (by rw [ev_nil]; rfl)) ?_
    refine WO_x (hO₄.stb (ws := e_T_muntinref15_Corner.c (⟨(0 : Int), (0 : Int)⟩ : T_muntinref15_Corner)) (cs' := e_T_muntinref15_Corner.c (⟨(0 : Int), (0 : Int)⟩ : T_muntinref15_Corner)) (v := .ag (e_T_muntinref15_Corner.c (⟨(0 : Int), (0 : Int)⟩ : T_muntinref15_Corner))) 0 rfl q₁_2 rfl rfl ⟨rfl, Nat.le_of_ble_eq_true rfl, rfl⟩ rfl) ?_
    rintro _ k₁₃ ⟨rfl, f₅, m₃, hW⟩
    have hO₁₃ : Own B h k₁₃ [eBox r₁ (e_T_muntinref15_Corner.c (⟨(0 : Int), (0 : Int)⟩ : T_muntinref15_Corner)), eBox r₂ (e_T_muntinref15_Corner.c (⟨0, 0⟩ : T_muntinref15_Corner))] := hW
    refine WO_x (hO₁₃.stb (ws := e_T_muntinref15_Corner.c (⟨(0 : Int), (0 : Int)⟩ : T_muntinref15_Corner)) (cs' := e_T_muntinref15_Corner.c (⟨(0 : Int), (0 : Int)⟩ : T_muntinref15_Corner)) (v := .ag (e_T_muntinref15_Corner.c (⟨(0 : Int), (0 : Int)⟩ : T_muntinref15_Corner))) 1 rfl q₁_3 rfl rfl ⟨rfl, Nat.le_of_ble_eq_true rfl, rfl⟩ rfl) ?_
    rintro _ k₁₄ ⟨rfl, f₆, m₄, hW⟩
    have hO₁₄ : Own B h k₁₄ [eBox r₁ (e_T_muntinref15_Corner.c (⟨(0 : Int), (0 : Int)⟩ : T_muntinref15_Corner)), eBox r₂ (e_T_muntinref15_Corner.c (⟨(0 : Int), (0 : Int)⟩ : T_muntinref15_Corner))] := hW
    refine WO_v (a_mv (v := .b false) rfl) ?_
    refine WO_end ?_
    refine then_n ?_
    refine W_rt ?_
    refine Ret_r (rs_c (n := 2) (v := .ag (e_T_muntinref15_Corner.c (⟨(0 : Int), (0 : Int)⟩ : T_muntinref15_Corner))) (r := r₁) q₁_2 (hO₁₄.box 0 rfl) rfl (rs_c (n := 3) (v := .ag (e_T_muntinref15_Corner.c (⟨(0 : Int), (0 : Int)⟩ : T_muntinref15_Corner))) (r := r₂) q₁_3 (hO₁₄.box 1 rfl) rfl (rs_t (n := 4) (v := .b false) rfl rs_nil))) ?_
    have hp := Option.some.inj hp; subst hp
    exact (And.intro rfl (hO₁₄.pick [] rfl (by decide)))
  · obtain ⟨rfl, q₁_2, q₁_3, q₁_4, hO₄⟩ := hJ₁
    refine blk_r ?_
    refine then_r ?_
    refine Ret_r (rs_c (n := 2) (v := .ag (e_T_muntinref15_Corner.c x1)) (r := r₁) q₁_2 (hO₄.box 0 rfl) rfl (rs_c (n := 3) (v := .ag (e_T_muntinref15_Corner.c x2)) (r := r₂) q₁_3 (hO₄.box 1 rfl) rfl (rs_t (n := 4) (v := .b true) q₁_4 rs_nil))) ?_
    have hp := Option.some.inj hp; subst hp
    exact (And.intro rfl (hO₄.pick [] rfl (by decide)))

theorem p_muntinref15_In.ok {h : Hp} {t : List Int} {c : T_muntinref15_Corner} {v_t : V} (s_t : Sl eInt h v_t t) {r : Bool} (hp : p_muntinref15_In t c = some r) :
    ∃ u k', Is G 26 [v_t, .ag (e_T_muntinref15_Corner.c c)] h u k' ∧ V.b r = u ∧ Own (fun r => r < h.n) h k' [] := by
  refine WC.is (WC_of G_F_muntinref15_In ?_)
  unfold p_muntinref15_In at hp
  let B : Nat → Prop := (fun r => r < h.n)
  have hO : Own B h h [] := Own.start0 h
  refine W_sq ?_
  refine W_rg ?_
  refine WO_x (hO.boxd (v := .ag (e_T_muntinref15_Corner.c c)) (cs := e_T_muntinref15_Corner.c c) hO.fr rfl rfl) ?_
  rintro _ k₁ ⟨r₁, rfl, n₁, f₁, hW⟩
  have hO₁ : Own B h k₁ [eBox r₁ (e_T_muntinref15_Corner.c c)] := hW
  refine WO_v (a_mv (v := .b false) rfl) ?_
  refine WO_end ?_
  refine then_n ?_
  refine W_sq ?_
  refine W_rg ?_
  refine WO_v (a_mv (v := v_t) rfl) ?_
  obtain ⟨x, hx₁, hp⟩ := bd_some hp
  obtain ⟨u₁, k₂, ca₁, v₁, rfl, hW₁⟩ := p_muntinref15_Corners.ok (h := k₁)  (hO₁.rd0 s_t.rd : Sl eInt k₁ v_t t) hx₁
  refine WO_c (id := 20) (caps := []) rfl (mp_cons (v := v_t) rfl mp_nil) ca₁ ?_
  have hO₂ : Own B h k₂ [eBox r₁ (e_T_muntinref15_Corner.c c), eSl e_T_muntinref15_Corner v₁ x] := hO₁.call hW₁ rfl
  refine WO_v (a_mv (v := v₁) rfl) ?_
  refine WO_end ?_
  refine then_n ?_
  refine W_sq ?_
  refine W_sq ?_
  refine W_rg ?_
  refine WO_v (a_mv (v := .i .i64 0) rfl) ?_
  refine WO_end ?_
  refine then_n ?_
  refine W_bl ?_
  obtain ⟨o₁, ho₁, hp⟩ := bd_some hp
  refine W.mono (Q := fun e fr k => match (generalizing := false) o₁ with
      | .inl _ => e = (.exit 0) ∧ Own B h k []
      | .inr _ => e = .ret ∧ fr 4 = .b true ∧ Own B h k []) ?_ ?_
  · clear hp
    refine W_loopF (fun st fr k => match st with | i => fr 3 = .p r₁ 0 ∧ fr 5 = v₁ ∧ fr 6 = .i .i64 i ∧ Own B h k [eBox r₁ (e_T_muntinref15_Corner.c c), eSl e_T_muntinref15_Corner v₁ x]) ho₁ (s := 0) (And.intro (rfl) (And.intro (rfl) (And.intro (rfl) (hO₂.pick [0, 1] rfl (by decide))))) ?_
    rintro i q₂ k₄ ⟨q₂_3, q₂_5, q₂_6, hO₄⟩ o₂ hp
    dsimp only [p_muntinref15_In.s0] at hp
    refine W_sq ?_
    refine W_sq ?_
    refine W_rg ?_
    refine WO_v (a_mv (v := .i .i64 i) q₂_6) ?_
    refine WO_v (a_mv (v := v₁) q₂_5) ?_
    refine WO_v (a_len (hO₄.sl 1 rfl : Sl e_T_muntinref15_Corner k₄ v₁ x) rfl) ?_
    refine WO_v (a_lss (a := i) (b := (x.length : Int)) rfl rfl) ?_
    refine WO_end ?_
    refine then_n ?_
    rcases if_some hp with ⟨b₁, hp⟩ | ⟨b₁, hp⟩
    · refine W_cT (t := (decide (i < (x.length : Int)))) rfl b₁ ?_
      refine W_sk ?_
      refine then_n ?_
      refine W_sq ?_
      refine W_bl ?_
      refine W_sq ?_
      refine W_qd ?_
      have hW := hO₄.bump 6
      have hO₅ : Own B h (k₄.bump 6) [eBox r₁ (e_T_muntinref15_Corner.c c), eSl e_T_muntinref15_Corner v₁ x] := hW
      refine WQ_v rfl (a_mv (v := v₁) q₂_5) ?_
      refine WQ_v rfl (a_mv (v := .i .i64 i) q₂_6) ?_
      obtain ⟨c₁, hp⟩ := ck_some hp
      refine WQ_v rfl (a_ixa (E := e_T_muntinref15_Corner) (z := i) (hO₅.sl 1 rfl : Sl e_T_muntinref15_Corner (k₄.bump 6) v₁ x) rfl rfl c₁) ?_
      refine WQ_v rfl (a_ldA (E := e_T_muntinref15_Corner) (hO₅.sl 1 rfl : Sl e_T_muntinref15_Corner (k₄.bump 6) v₁ x) rfl (toNat_lt c₁)) ?_
      refine WQ_v rfl (a_ldbA (cs := (e_T_muntinref15_Corner.c c)) (ws := e_T_muntinref15_Corner.c c) (hO₅.box 0 rfl) q₂_3 rfl) ?_
      refine WQ_v rfl (a_eqA (as := e_T_muntinref15_Corner.c (gi x (i : Int).toNat)) (bs := e_T_muntinref15_Corner.c c) rfl rfl (Mu.e_T_muntinref15_Corner.same _ _)) ?_
      refine WQ_end ?_
      refine then_n ?_
      rcases if_some hp with ⟨b₂, hp⟩ | ⟨b₂, hp⟩
      · refine W_cT (t := (decide (gi x (i : Int).toNat = c))) rfl b₂ ?_
        refine W_sq ?_
        refine W_rg ?_
        refine WO_v (a_mv (v := .b true) rfl) ?_
        refine WO_end ?_
        refine then_n ?_
        refine W_rt ?_
        refine blk_r ?_
        refine then_r ?_
        have hp := Option.some.inj hp; subst hp
        refine (Or.inr (Exists.intro (.inr ()) (And.intro rfl (And.intro (fun h => nomatch h) (fun he => ?_)))))
        subst he; exact (And.intro rfl (And.intro (rfl) (hO₅.pick [] rfl (by decide))))
      · refine W_cF (t := (decide (gi x (i : Int).toNat = c))) rfl b₂ ?_
        refine W_sk ?_
        refine blk_n ?_
        refine then_n ?_
        refine W_rg ?_
        refine WO_v (a_mv (v := .i .i64 i) q₂_6) ?_
        obtain ⟨c₂, hp⟩ := ck_some hp
        refine WO_v (a_add (a := i) (b := 1) rfl rfl c₂) ?_
        refine WO_v (a_mv (v := .i .i64 (i + 1)) rfl) ?_
        refine WO_end ?_
        have hp := Option.some.inj hp; subst hp
        exact (Or.inl (Exists.intro (i + 1) (And.intro rfl (And.intro rfl (And.intro (q₂_3) (And.intro (q₂_5) (And.intro (rfl) (hO₅.pick [0, 1] rfl (by decide)))))))))
    · refine W_cF (t := (decide (i < (x.length : Int)))) rfl b₁ ?_
      refine W_ex ?_
      refine then_e ?_
      have hp := Option.some.inj hp; subst hp
      refine (Or.inr (Exists.intro (.inl ()) (And.intro rfl (And.intro (fun h => nomatch h) (fun he => ?_)))))
      subst he; exact (And.intro rfl (hO₄.pick [] rfl (by decide)))
  intro e₁ q₁ k₃ hJ₁
  rcases o₁ with _ | _
  · obtain ⟨rfl, hO₃⟩ := hJ₁
    refine blk_i ?_
    refine then_n ?_
    refine W_sq ?_
    refine W_rg ?_
    refine WO_v (a_mv (v := .b false) rfl) ?_
    refine WO_end ?_
    refine then_n ?_
    refine W_rt ?_
    refine Ret_r (rs_t (n := 4) (v := .b false) rfl rs_nil) ?_
    have hp := Option.some.inj hp; subst hp
    exact (And.intro rfl (hO₃.pick [] rfl (by decide)))
  · obtain ⟨rfl, q₁_4, hO₃⟩ := hJ₁
    refine blk_r ?_
    refine then_r ?_
    refine Ret_r (rs_t (n := 4) (v := .b true) q₁_4 rs_nil) ?_
    have hp := Option.some.inj hp; subst hp
    exact (And.intro rfl (hO₃.pick [] rfl (by decide)))

theorem p_muntinlaw15_wakes.ok {h : Hp}    {r : Bool} (hp : p_muntinlaw15_wakes  = some r) :
    ∃ u k', Is G 27 [] h u k' ∧ V.b r = u ∧ Own (fun r => r < h.n) h k' [] := by
  refine WC.is (WC_of G_F_muntinlaw15_wakes ?_)
  unfold p_muntinlaw15_wakes at hp
  let B : Nat → Prop := (fun r => r < h.n)
  have hO : Own B h h [] := Own.start0 h
  refine W_sq ?_
  refine W_rg ?_
  refine WO_v (a_mv (v := .b false) rfl) ?_
  refine WO_end ?_
  refine then_n ?_
  refine W_sq ?_
  refine W_rg ?_
  refine WO_x (hO.bsl (E := eInt) (l := [(-1), 1, 1, (-1), 1, 1, (-1), 1, 1, (-1), 1, 1]) hO.fr (by rw [(ev_cons (v := .i .i64 (-1)) rfl (ev_cons (v := .i .i64 1) rfl (ev_cons (v := .i .i64 1) rfl (ev_cons (v := .i .i64 (-1)) rfl (ev_cons (v := .i .i64 1) rfl (ev_cons (v := .i .i64 1) rfl (ev_cons (v := .i .i64 (-1)) rfl (ev_cons (v := .i .i64 1) rfl (ev_cons (v := .i .i64 1) rfl (ev_cons (v := .i .i64 (-1)) rfl (ev_cons (v := .i .i64 1) rfl (ev_cons (v := .i .i64 1) rfl ev_nil))))))))))))]; rfl) rfl) ?_
  rintro v₁ k₁ ⟨r₁, f₁, hW⟩
  have hO₁ : Own B h k₁ [eSl eInt v₁ [(-1), 1, 1, (-1), 1, 1, (-1), 1, 1, (-1), 1, 1]] := hW
  obtain ⟨⟨x, x1, x2⟩, hx₁, hp⟩ := bd_some hp
  obtain ⟨u₁, k₂, ca₁, rfl, hW₁⟩ := p_kitty_Pair.ok (h := k₁)  (hO₁.sl 0 rfl : Sl eInt k₁ v₁ [(-1), 1, 1, (-1), 1, 1, (-1), 1, 1, (-1), 1, 1]) hx₁
  refine WO_c (id := 24) (caps := []) rfl (mp_cons (v := v₁) rfl mp_nil) ca₁ ?_
  have hO₂ : Own B h k₂ [eSl eInt v₁ [(-1), 1, 1, (-1), 1, 1, (-1), 1, 1, (-1), 1, 1]] := hO₁.call hW₁ rfl
  refine WO_v (a_mv (v := .tu [.ag (e_T_kitty_Corner.c x), .ag (e_T_kitty_Corner.c x1), .b x2]) rfl) ?_
  refine WO_v (a_ext (vs := [.ag (e_T_kitty_Corner.c x), .ag (e_T_kitty_Corner.c x1), .b x2]) (v := .ag (e_T_kitty_Corner.c x)) rfl rfl) ?_
  refine WO_v (a_ext (vs := [.ag (e_T_kitty_Corner.c x), .ag (e_T_kitty_Corner.c x1), .b x2]) (v := .ag (e_T_kitty_Corner.c x1)) rfl rfl) ?_
  refine WO_v (a_ext (vs := [.ag (e_T_kitty_Corner.c x), .ag (e_T_kitty_Corner.c x1), .b x2]) (v := .b x2) rfl rfl) ?_
  refine WO_x (hO₂.alloc (cs := e_T_kitty_Corner.c (⟨0, 0⟩ : T_kitty_Corner)) hO₂.fr) ?_
  rintro _ k₃ ⟨r₂, rfl, n₁, f₂, hW⟩
  have hO₃ : Own B h k₃ [eSl eInt v₁ [(-1), 1, 1, (-1), 1, 1, (-1), 1, 1, (-1), 1, 1], eBox r₂ (e_T_kitty_Corner.c (⟨0, 0⟩ : T_kitty_Corner))] := hW
  refine WO_x (hO₃.alloc (cs := e_T_kitty_Corner.c (⟨0, 0⟩ : T_kitty_Corner)) hO₃.fr) ?_
  rintro _ k₄ ⟨r₃, rfl, n₂, f₃, hW⟩
  have hO₄ : Own B h k₄ [eSl eInt v₁ [(-1), 1, 1, (-1), 1, 1, (-1), 1, 1, (-1), 1, 1], eBox r₂ (e_T_kitty_Corner.c (⟨0, 0⟩ : T_kitty_Corner)), eBox r₃ (e_T_kitty_Corner.c (⟨0, 0⟩ : T_kitty_Corner))] := hW
  refine WO_x (hO₄.stb (ws := e_T_kitty_Corner.c x) (cs' := e_T_kitty_Corner.c x) (v := .ag (e_T_kitty_Corner.c x)) 1 rfl rfl rfl rfl ⟨rfl, Nat.le_of_ble_eq_true rfl, rfl⟩ rfl) ?_
  rintro _ k₅ ⟨rfl, f₄, m₁, hW⟩
  have hO₅ : Own B h k₅ [eSl eInt v₁ [(-1), 1, 1, (-1), 1, 1, (-1), 1, 1, (-1), 1, 1], eBox r₂ (e_T_kitty_Corner.c x), eBox r₃ (e_T_kitty_Corner.c (⟨0, 0⟩ : T_kitty_Corner))] := hW
  refine WO_x (hO₅.stb (ws := e_T_kitty_Corner.c x1) (cs' := e_T_kitty_Corner.c x1) (v := .ag (e_T_kitty_Corner.c x1)) 2 rfl rfl rfl rfl ⟨rfl, Nat.le_of_ble_eq_true rfl, rfl⟩ rfl) ?_
  rintro _ k₆ ⟨rfl, f₅, m₂, hW⟩
  have hO₆ : Own B h k₆ [eSl eInt v₁ [(-1), 1, 1, (-1), 1, 1, (-1), 1, 1, (-1), 1, 1], eBox r₂ (e_T_kitty_Corner.c x), eBox r₃ (e_T_kitty_Corner.c x1)] := hW
  refine WO_v (a_mv (v := .b x2) rfl) ?_
  refine WO_end ?_
  refine then_n ?_
  refine W_sq ?_
  refine W_rg ?_
  refine WO_x (hO₆.bsl (E := eInt) (l := [(-2), (-2)]) hO₆.fr (by rw [(ev_cons (v := .i .i64 (-2)) rfl (ev_cons (v := .i .i64 (-2)) rfl ev_nil))]; rfl) rfl) ?_
  rintro v₂ k₇ ⟨r₄, f₆, hW⟩
  have hO₇ : Own B h k₇ [eSl eInt v₁ [(-1), 1, 1, (-1), 1, 1, (-1), 1, 1, (-1), 1, 1], eBox r₂ (e_T_kitty_Corner.c x), eBox r₃ (e_T_kitty_Corner.c x1), eSl eInt v₂ [(-2), (-2)]] := hW
  refine WO_v (a_build (cs := e_T_kitty_Corner.c (⟨(0 : Int), (0 : Int)⟩ : T_kitty_Corner)) (by rw [ev_nil]; rfl)) ?_
  refine WO_v (a_build (cs := e_T_kitty_Corner.c (⟨1, (0 : Int)⟩ : T_kitty_Corner)) (by rw [(ev_cons (v := .i .i64 1) rfl ev_nil)]; rfl)) ?_
  obtain ⟨⟨x3, x4⟩, hx₂, hp⟩ := bd_some hp
  obtain ⟨u₂, k₈, ca₂, rfl, hW₂⟩ := p_kitty_Rot.ok (h := k₇)  (hO₇.sl 3 rfl : Sl eInt k₇ v₂ [(-2), (-2)]) hx₂
  refine WO_c (id := 22) (caps := []) rfl (mp_cons (v := v₂) rfl (mp_cons (v := .ag (e_T_kitty_Corner.c (⟨(0 : Int), (0 : Int)⟩ : T_kitty_Corner))) rfl (mp_cons (v := .ag (e_T_kitty_Corner.c (⟨1, (0 : Int)⟩ : T_kitty_Corner))) rfl mp_nil))) ca₂ ?_
  have hO₈ : Own B h k₈ [eSl eInt v₁ [(-1), 1, 1, (-1), 1, 1, (-1), 1, 1, (-1), 1, 1], eBox r₂ (e_T_kitty_Corner.c x), eBox r₃ (e_T_kitty_Corner.c x1), eSl eInt v₂ [(-2), (-2)]] := hO₇.call hW₂ rfl
  refine WO_v (a_mv (v := .tu [.i .i64 x3, .i .i64 x4]) rfl) ?_
  refine WO_v (a_ext (vs := [.i .i64 x3, .i .i64 x4]) (v := .i .i64 x3) rfl rfl) ?_
  refine WO_v (a_ext (vs := [.i .i64 x3, .i .i64 x4]) (v := .i .i64 x4) rfl rfl) ?_
  refine WO_v (a_mv (v := .i .i64 x3) rfl) ?_
  refine WO_v (a_mv (v := .i .i64 x4) rfl) ?_
  refine WO_end ?_
  refine then_n ?_
  refine W_sq ?_
  refine W_rg ?_
  refine WO_x (hO₈.bsl (E := eInt) (l := [1]) hO₈.fr (by rw [(ev_cons (v := .i .i64 1) rfl ev_nil)]; rfl) rfl) ?_
  rintro v₃ k₉ ⟨r₅, f₇, hW⟩
  have hO₉ : Own B h k₉ [eSl eInt v₁ [(-1), 1, 1, (-1), 1, 1, (-1), 1, 1, (-1), 1, 1], eBox r₂ (e_T_kitty_Corner.c x), eBox r₃ (e_T_kitty_Corner.c x1), eSl eInt v₂ [(-2), (-2)], eSl eInt v₃ [1]] := hW
  refine WO_v (a_build (cs := e_T_kitty_Corner.c (⟨(0 : Int), (0 : Int)⟩ : T_kitty_Corner)) (by rw [ev_nil]; rfl)) ?_
  refine WO_v (a_build (cs := e_T_kitty_Corner.c (⟨(0 : Int), (0 : Int)⟩ : T_kitty_Corner)) (by rw [ev_nil]; rfl)) ?_
  obtain ⟨⟨x5, x6⟩, hx₃, hp⟩ := bd_some hp
  obtain ⟨u₃, k₁₀, ca₃, rfl, hW₃⟩ := p_kitty_Rot.ok (h := k₉)  (hO₉.sl 4 rfl : Sl eInt k₉ v₃ [1]) hx₃
  refine WO_c (id := 22) (caps := []) rfl (mp_cons (v := v₃) rfl (mp_cons (v := .ag (e_T_kitty_Corner.c (⟨(0 : Int), (0 : Int)⟩ : T_kitty_Corner))) rfl (mp_cons (v := .ag (e_T_kitty_Corner.c (⟨(0 : Int), (0 : Int)⟩ : T_kitty_Corner))) rfl mp_nil))) ca₃ ?_
  have hO₁₀ : Own B h k₁₀ [eSl eInt v₁ [(-1), 1, 1, (-1), 1, 1, (-1), 1, 1, (-1), 1, 1], eBox r₂ (e_T_kitty_Corner.c x), eBox r₃ (e_T_kitty_Corner.c x1), eSl eInt v₂ [(-2), (-2)], eSl eInt v₃ [1]] := hO₉.call hW₃ rfl
  refine WO_v (a_mv (v := .tu [.i .i64 x5, .i .i64 x6]) rfl) ?_
  refine WO_v (a_ext (vs := [.i .i64 x5, .i .i64 x6]) (v := .i .i64 x5) rfl rfl) ?_
  refine WO_v (a_ext (vs := [.i .i64 x5, .i .i64 x6]) (v := .i .i64 x6) rfl rfl) ?_
  refine WO_v (a_mv (v := .i .i64 x5) rfl) ?_
  refine WO_v (a_mv (v := .i .i64 x6) rfl) ?_
  refine WO_end ?_
  refine then_n ?_
  refine W_sq ?_
  refine W_rg ?_
  refine WO_x (hO₁₀.bsl (E := eInt) (l := [(-1), 1, 1, 1, 1, 1]) hO₁₀.fr (by rw [(ev_cons (v := .i .i64 (-1)) rfl (ev_cons (v := .i .i64 1) rfl (ev_cons (v := .i .i64 1) rfl (ev_cons (v := .i .i64 1) rfl (ev_cons (v := .i .i64 1) rfl (ev_cons (v := .i .i64 1) rfl ev_nil))))))]; rfl) rfl) ?_
  rintro v₄ k₁₁ ⟨r₆, f₈, hW⟩
  have hO₁₁ : Own B h k₁₁ [eSl eInt v₁ [(-1), 1, 1, (-1), 1, 1, (-1), 1, 1, (-1), 1, 1], eBox r₂ (e_T_kitty_Corner.c x), eBox r₃ (e_T_kitty_Corner.c x1), eSl eInt v₂ [(-2), (-2)], eSl eInt v₃ [1], eSl eInt v₄ [(-1), 1, 1, 1, 1, 1]] := hW
  obtain ⟨⟨x7, x8, x9⟩, hx₄, hp⟩ := bd_some hp
  obtain ⟨u₄, k₁₂, ca₄, rfl, hW₄⟩ := p_kitty_Pair.ok (h := k₁₁)  (hO₁₁.sl 5 rfl : Sl eInt k₁₁ v₄ [(-1), 1, 1, 1, 1, 1]) hx₄
  refine WO_c (id := 24) (caps := []) rfl (mp_cons (v := v₄) rfl mp_nil) ca₄ ?_
  have hO₁₂ : Own B h k₁₂ [eSl eInt v₁ [(-1), 1, 1, (-1), 1, 1, (-1), 1, 1, (-1), 1, 1], eBox r₂ (e_T_kitty_Corner.c x), eBox r₃ (e_T_kitty_Corner.c x1), eSl eInt v₂ [(-2), (-2)], eSl eInt v₃ [1], eSl eInt v₄ [(-1), 1, 1, 1, 1, 1]] := hO₁₁.call hW₄ rfl
  refine WO_v (a_mv (v := .tu [.ag (e_T_kitty_Corner.c x7), .ag (e_T_kitty_Corner.c x8), .b x9]) rfl) ?_
  refine WO_v (a_ext (vs := [.ag (e_T_kitty_Corner.c x7), .ag (e_T_kitty_Corner.c x8), .b x9]) (v := .ag (e_T_kitty_Corner.c x7)) rfl rfl) ?_
  refine WO_v (a_ext (vs := [.ag (e_T_kitty_Corner.c x7), .ag (e_T_kitty_Corner.c x8), .b x9]) (v := .ag (e_T_kitty_Corner.c x8)) rfl rfl) ?_
  refine WO_v (a_ext (vs := [.ag (e_T_kitty_Corner.c x7), .ag (e_T_kitty_Corner.c x8), .b x9]) (v := .b x9) rfl rfl) ?_
  refine WO_x (hO₁₂.alloc (cs := e_T_kitty_Corner.c (⟨0, 0⟩ : T_kitty_Corner)) hO₁₂.fr) ?_
  rintro _ k₁₃ ⟨r₇, rfl, n₃, f₉, hW⟩
  have hO₁₃ : Own B h k₁₃ [eSl eInt v₁ [(-1), 1, 1, (-1), 1, 1, (-1), 1, 1, (-1), 1, 1], eBox r₂ (e_T_kitty_Corner.c x), eBox r₃ (e_T_kitty_Corner.c x1), eSl eInt v₂ [(-2), (-2)], eSl eInt v₃ [1], eSl eInt v₄ [(-1), 1, 1, 1, 1, 1], eBox r₇ (e_T_kitty_Corner.c (⟨0, 0⟩ : T_kitty_Corner))] := hW
  refine WO_x (hO₁₃.alloc (cs := e_T_kitty_Corner.c (⟨0, 0⟩ : T_kitty_Corner)) hO₁₃.fr) ?_
  rintro _ k₁₄ ⟨r₈, rfl, n₄, f₁₀, hW⟩
  have hO₁₄ : Own B h k₁₄ [eSl eInt v₁ [(-1), 1, 1, (-1), 1, 1, (-1), 1, 1, (-1), 1, 1], eBox r₂ (e_T_kitty_Corner.c x), eBox r₃ (e_T_kitty_Corner.c x1), eSl eInt v₂ [(-2), (-2)], eSl eInt v₃ [1], eSl eInt v₄ [(-1), 1, 1, 1, 1, 1], eBox r₇ (e_T_kitty_Corner.c (⟨0, 0⟩ : T_kitty_Corner)), eBox r₈ (e_T_kitty_Corner.c (⟨0, 0⟩ : T_kitty_Corner))] := hW
  refine WO_x (hO₁₄.stb (ws := e_T_kitty_Corner.c x7) (cs' := e_T_kitty_Corner.c x7) (v := .ag (e_T_kitty_Corner.c x7)) 6 rfl rfl rfl rfl ⟨rfl, Nat.le_of_ble_eq_true rfl, rfl⟩ rfl) ?_
  rintro _ k₁₅ ⟨rfl, f₁₁, m₃, hW⟩
  have hO₁₅ : Own B h k₁₅ [eSl eInt v₁ [(-1), 1, 1, (-1), 1, 1, (-1), 1, 1, (-1), 1, 1], eBox r₂ (e_T_kitty_Corner.c x), eBox r₃ (e_T_kitty_Corner.c x1), eSl eInt v₂ [(-2), (-2)], eSl eInt v₃ [1], eSl eInt v₄ [(-1), 1, 1, 1, 1, 1], eBox r₇ (e_T_kitty_Corner.c x7), eBox r₈ (e_T_kitty_Corner.c (⟨0, 0⟩ : T_kitty_Corner))] := hW
  refine WO_x (hO₁₅.stb (ws := e_T_kitty_Corner.c x8) (cs' := e_T_kitty_Corner.c x8) (v := .ag (e_T_kitty_Corner.c x8)) 7 rfl rfl rfl rfl ⟨rfl, Nat.le_of_ble_eq_true rfl, rfl⟩ rfl) ?_
  rintro _ k₁₆ ⟨rfl, f₁₂, m₄, hW⟩
  have hO₁₆ : Own B h k₁₆ [eSl eInt v₁ [(-1), 1, 1, (-1), 1, 1, (-1), 1, 1, (-1), 1, 1], eBox r₂ (e_T_kitty_Corner.c x), eBox r₃ (e_T_kitty_Corner.c x1), eSl eInt v₂ [(-2), (-2)], eSl eInt v₃ [1], eSl eInt v₄ [(-1), 1, 1, 1, 1, 1], eBox r₇ (e_T_kitty_Corner.c x7), eBox r₈ (e_T_kitty_Corner.c x8)] := hW
  refine WO_v (a_mv (v := .b x9) rfl) ?_
  refine WO_end ?_
  refine then_n ?_
  refine W_sq ?_
  refine W_rg ?_
  refine WO_v (a_ldbA (cs := (e_T_kitty_Corner.c x)) (ws := e_T_kitty_Corner.c x) (hO₁₆.box 1 rfl) rfl rfl) ?_
  refine WO_v (a_build (cs := e_T_kitty_Corner.c (⟨(0 : Int), (0 : Int)⟩ : T_kitty_Corner)) (by rw [ev_nil]; rfl)) ?_
  refine WO_v (a_eqA (as := e_T_kitty_Corner.c x) (bs := e_T_kitty_Corner.c (⟨(0 : Int), (0 : Int)⟩ : T_kitty_Corner)) rfl rfl (Mu.e_T_kitty_Corner.same _ _)) ?_
  refine WO_v (a_mv (v := .b (decide (x = (⟨(0 : Int), (0 : Int)⟩ : T_kitty_Corner)))) rfl) ?_
  refine WO_cut 4 (fun fr' k' => k₁₆ = k' ∧ fr' 44 = .b ((decide (x = (⟨(0 : Int), (0 : Int)⟩ : T_kitty_Corner))) && (decide (x1 = (⟨6, (0 : Int)⟩ : T_kitty_Corner)))) ∧ fr' 10 = .b x9 ∧ fr' 3 = .b x2 ∧ fr' 4 = .i .i64 x3 ∧ fr' 5 = .i .i64 x4 ∧ fr' 7 = .i .i64 x6) ?_ ?_
  · rcases bc (decide (x = (⟨(0 : Int), (0 : Int)⟩ : T_kitty_Corner))) with b₁ | b₁
    · skip
      refine WO_on rfl b₁ ?_
      refine WO_v (a_ldbA (cs := (e_T_kitty_Corner.c x1)) (ws := e_T_kitty_Corner.c x1) (hO₁₆.box 2 rfl) rfl rfl) ?_
      refine WO_on rfl b₁ ?_
      refine WO_v (a_build (cs := e_T_kitty_Corner.c (⟨6, (0 : Int)⟩ : T_kitty_Corner)) (by rw [(ev_cons (v := .i .i64 6) rfl ev_nil)]; rfl)) ?_
      refine WO_on rfl b₁ ?_
      refine WO_v (a_eqA (as := e_T_kitty_Corner.c x1) (bs := e_T_kitty_Corner.c (⟨6, (0 : Int)⟩ : T_kitty_Corner)) rfl rfl (Mu.e_T_kitty_Corner.same _ _)) ?_
      refine WO_v (a_pickT (t := (decide (x = (⟨(0 : Int), (0 : Int)⟩ : T_kitty_Corner)))) (v := .b ((decide (x = (⟨(0 : Int), (0 : Int)⟩ : T_kitty_Corner))) && (decide (x1 = (⟨6, (0 : Int)⟩ : T_kitty_Corner))))) rfl b₁ (Eq.trans (b := V.b (decide (x1 = (⟨6, (0 : Int)⟩ : T_kitty_Corner)))) rfl (and_on b₁))) ?_
      refine WO_end ?_
      exact ⟨rfl, rfl, rfl, rfl, rfl, rfl, rfl⟩
    · skip
      refine WO_off rfl b₁ ?_
      refine WO_off rfl b₁ ?_
      refine WO_off rfl b₁ ?_
      refine WO_v (a_pickF (t := (decide (x = (⟨(0 : Int), (0 : Int)⟩ : T_kitty_Corner)))) (v := .b ((decide (x = (⟨(0 : Int), (0 : Int)⟩ : T_kitty_Corner))) && (decide (x1 = (⟨6, (0 : Int)⟩ : T_kitty_Corner))))) rfl b₁ (Eq.trans (b := V.b false) rfl (and_off b₁))) ?_
      refine WO_end ?_
      exact ⟨rfl, rfl, rfl, rfl, rfl, rfl, rfl⟩
  rintro frg₁ _ ⟨rfl, g₁_44, g₁_10, g₁_3, g₁_4, g₁_5, g₁_7⟩
  refine WO_v (a_mv (v := .b ((decide (x = (⟨(0 : Int), (0 : Int)⟩ : T_kitty_Corner))) && (decide (x1 = (⟨6, (0 : Int)⟩ : T_kitty_Corner))))) g₁_44) ?_
  refine WO_cut 2 (fun fr' k' => k₁₆ = k' ∧ fr' 47 = .b (((decide (x = (⟨(0 : Int), (0 : Int)⟩ : T_kitty_Corner))) && (decide (x1 = (⟨6, (0 : Int)⟩ : T_kitty_Corner)))) && x2) ∧ fr' 10 = .b x9 ∧ fr' 4 = .i .i64 x3 ∧ fr' 5 = .i .i64 x4 ∧ fr' 7 = .i .i64 x6) ?_ ?_
  · rcases bc ((decide (x = (⟨(0 : Int), (0 : Int)⟩ : T_kitty_Corner))) && (decide (x1 = (⟨6, (0 : Int)⟩ : T_kitty_Corner)))) with b₂ | b₂
    · skip
      refine WO_on rfl b₂ ?_
      refine WO_v (a_mv (v := .b x2) g₁_3) ?_
      refine WO_v (a_pickT (t := ((decide (x = (⟨(0 : Int), (0 : Int)⟩ : T_kitty_Corner))) && (decide (x1 = (⟨6, (0 : Int)⟩ : T_kitty_Corner))))) (v := .b (((decide (x = (⟨(0 : Int), (0 : Int)⟩ : T_kitty_Corner))) && (decide (x1 = (⟨6, (0 : Int)⟩ : T_kitty_Corner)))) && x2)) rfl b₂ (Eq.trans (b := V.b x2) rfl (and_on b₂))) ?_
      refine WO_end ?_
      exact ⟨rfl, rfl, g₁_10, g₁_4, g₁_5, g₁_7⟩
    · skip
      refine WO_off rfl b₂ ?_
      refine WO_v (a_pickF (t := ((decide (x = (⟨(0 : Int), (0 : Int)⟩ : T_kitty_Corner))) && (decide (x1 = (⟨6, (0 : Int)⟩ : T_kitty_Corner))))) (v := .b (((decide (x = (⟨(0 : Int), (0 : Int)⟩ : T_kitty_Corner))) && (decide (x1 = (⟨6, (0 : Int)⟩ : T_kitty_Corner)))) && x2)) rfl b₂ (Eq.trans (b := V.b false) rfl (and_off b₂))) ?_
      refine WO_end ?_
      exact ⟨rfl, rfl, g₁_10, g₁_4, g₁_5, g₁_7⟩
  rintro frg₂ _ ⟨rfl, g₂_47, g₂_10, g₂_4, g₂_5, g₂_7⟩
  refine WO_v (a_mv (v := .b (((decide (x = (⟨(0 : Int), (0 : Int)⟩ : T_kitty_Corner))) && (decide (x1 = (⟨6, (0 : Int)⟩ : T_kitty_Corner)))) && x2)) g₂_47) ?_
  refine WO_cut 3 (fun fr' k' => k₁₆ = k' ∧ fr' 51 = .b ((((decide (x = (⟨(0 : Int), (0 : Int)⟩ : T_kitty_Corner))) && (decide (x1 = (⟨6, (0 : Int)⟩ : T_kitty_Corner)))) && x2) && (decide (x3 = (-2)))) ∧ fr' 10 = .b x9 ∧ fr' 5 = .i .i64 x4 ∧ fr' 7 = .i .i64 x6) ?_ ?_
  · rcases bc (((decide (x = (⟨(0 : Int), (0 : Int)⟩ : T_kitty_Corner))) && (decide (x1 = (⟨6, (0 : Int)⟩ : T_kitty_Corner)))) && x2) with b₃ | b₃
    · skip
      refine WO_on rfl b₃ ?_
      refine WO_v (a_mv (v := .i .i64 x3) g₂_4) ?_
      refine WO_on rfl b₃ ?_
      refine WO_v (a_eqI (a := x3) (b := (-2)) rfl rfl) ?_
      refine WO_v (a_pickT (t := (((decide (x = (⟨(0 : Int), (0 : Int)⟩ : T_kitty_Corner))) && (decide (x1 = (⟨6, (0 : Int)⟩ : T_kitty_Corner)))) && x2)) (v := .b ((((decide (x = (⟨(0 : Int), (0 : Int)⟩ : T_kitty_Corner))) && (decide (x1 = (⟨6, (0 : Int)⟩ : T_kitty_Corner)))) && x2) && (decide (x3 = (-2))))) rfl b₃ (Eq.trans (b := V.b (decide (x3 = (-2)))) rfl (and_on b₃))) ?_
      refine WO_end ?_
      exact ⟨rfl, rfl, g₂_10, g₂_5, g₂_7⟩
    · skip
      refine WO_off rfl b₃ ?_
      refine WO_off rfl b₃ ?_
      refine WO_v (a_pickF (t := (((decide (x = (⟨(0 : Int), (0 : Int)⟩ : T_kitty_Corner))) && (decide (x1 = (⟨6, (0 : Int)⟩ : T_kitty_Corner)))) && x2)) (v := .b ((((decide (x = (⟨(0 : Int), (0 : Int)⟩ : T_kitty_Corner))) && (decide (x1 = (⟨6, (0 : Int)⟩ : T_kitty_Corner)))) && x2) && (decide (x3 = (-2))))) rfl b₃ (Eq.trans (b := V.b false) rfl (and_off b₃))) ?_
      refine WO_end ?_
      exact ⟨rfl, rfl, g₂_10, g₂_5, g₂_7⟩
  rintro frg₃ _ ⟨rfl, g₃_51, g₃_10, g₃_5, g₃_7⟩
  refine WO_v (a_mv (v := .b ((((decide (x = (⟨(0 : Int), (0 : Int)⟩ : T_kitty_Corner))) && (decide (x1 = (⟨6, (0 : Int)⟩ : T_kitty_Corner)))) && x2) && (decide (x3 = (-2))))) g₃_51) ?_
  refine WO_cut 3 (fun fr' k' => k₁₆ = k' ∧ fr' 55 = .b (((((decide (x = (⟨(0 : Int), (0 : Int)⟩ : T_kitty_Corner))) && (decide (x1 = (⟨6, (0 : Int)⟩ : T_kitty_Corner)))) && x2) && (decide (x3 = (-2)))) && (decide (x4 = 0))) ∧ fr' 10 = .b x9 ∧ fr' 7 = .i .i64 x6) ?_ ?_
  · rcases bc ((((decide (x = (⟨(0 : Int), (0 : Int)⟩ : T_kitty_Corner))) && (decide (x1 = (⟨6, (0 : Int)⟩ : T_kitty_Corner)))) && x2) && (decide (x3 = (-2)))) with b₄ | b₄
    · skip
      refine WO_on rfl b₄ ?_
      refine WO_v (a_mv (v := .i .i64 x4) g₃_5) ?_
      refine WO_on rfl b₄ ?_
      refine WO_v (a_eqI (a := x4) (b := 0) rfl rfl) ?_
      refine WO_v (a_pickT (t := ((((decide (x = (⟨(0 : Int), (0 : Int)⟩ : T_kitty_Corner))) && (decide (x1 = (⟨6, (0 : Int)⟩ : T_kitty_Corner)))) && x2) && (decide (x3 = (-2))))) (v := .b (((((decide (x = (⟨(0 : Int), (0 : Int)⟩ : T_kitty_Corner))) && (decide (x1 = (⟨6, (0 : Int)⟩ : T_kitty_Corner)))) && x2) && (decide (x3 = (-2)))) && (decide (x4 = 0)))) rfl b₄ (Eq.trans (b := V.b (decide (x4 = 0))) rfl (and_on b₄))) ?_
      refine WO_end ?_
      exact ⟨rfl, rfl, g₃_10, g₃_7⟩
    · skip
      refine WO_off rfl b₄ ?_
      refine WO_off rfl b₄ ?_
      refine WO_v (a_pickF (t := ((((decide (x = (⟨(0 : Int), (0 : Int)⟩ : T_kitty_Corner))) && (decide (x1 = (⟨6, (0 : Int)⟩ : T_kitty_Corner)))) && x2) && (decide (x3 = (-2))))) (v := .b (((((decide (x = (⟨(0 : Int), (0 : Int)⟩ : T_kitty_Corner))) && (decide (x1 = (⟨6, (0 : Int)⟩ : T_kitty_Corner)))) && x2) && (decide (x3 = (-2)))) && (decide (x4 = 0)))) rfl b₄ (Eq.trans (b := V.b false) rfl (and_off b₄))) ?_
      refine WO_end ?_
      exact ⟨rfl, rfl, g₃_10, g₃_7⟩
  rintro frg₄ _ ⟨rfl, g₄_55, g₄_10, g₄_7⟩
  refine WO_v (a_mv (v := .b (((((decide (x = (⟨(0 : Int), (0 : Int)⟩ : T_kitty_Corner))) && (decide (x1 = (⟨6, (0 : Int)⟩ : T_kitty_Corner)))) && x2) && (decide (x3 = (-2)))) && (decide (x4 = 0)))) g₄_55) ?_
  refine WO_cut 3 (fun fr' k' => k₁₆ = k' ∧ fr' 59 = .b ((((((decide (x = (⟨(0 : Int), (0 : Int)⟩ : T_kitty_Corner))) && (decide (x1 = (⟨6, (0 : Int)⟩ : T_kitty_Corner)))) && x2) && (decide (x3 = (-2)))) && (decide (x4 = 0))) && (decide (x6 = 2))) ∧ fr' 10 = .b x9) ?_ ?_
  · rcases bc (((((decide (x = (⟨(0 : Int), (0 : Int)⟩ : T_kitty_Corner))) && (decide (x1 = (⟨6, (0 : Int)⟩ : T_kitty_Corner)))) && x2) && (decide (x3 = (-2)))) && (decide (x4 = 0))) with b₅ | b₅
    · skip
      refine WO_on rfl b₅ ?_
      refine WO_v (a_mv (v := .i .i64 x6) g₄_7) ?_
      refine WO_on rfl b₅ ?_
      refine WO_v (a_eqI (a := x6) (b := 2) rfl rfl) ?_
      refine WO_v (a_pickT (t := (((((decide (x = (⟨(0 : Int), (0 : Int)⟩ : T_kitty_Corner))) && (decide (x1 = (⟨6, (0 : Int)⟩ : T_kitty_Corner)))) && x2) && (decide (x3 = (-2)))) && (decide (x4 = 0)))) (v := .b ((((((decide (x = (⟨(0 : Int), (0 : Int)⟩ : T_kitty_Corner))) && (decide (x1 = (⟨6, (0 : Int)⟩ : T_kitty_Corner)))) && x2) && (decide (x3 = (-2)))) && (decide (x4 = 0))) && (decide (x6 = 2)))) rfl b₅ (Eq.trans (b := V.b (decide (x6 = 2))) rfl (and_on b₅))) ?_
      refine WO_end ?_
      exact ⟨rfl, rfl, g₄_10⟩
    · skip
      refine WO_off rfl b₅ ?_
      refine WO_off rfl b₅ ?_
      refine WO_v (a_pickF (t := (((((decide (x = (⟨(0 : Int), (0 : Int)⟩ : T_kitty_Corner))) && (decide (x1 = (⟨6, (0 : Int)⟩ : T_kitty_Corner)))) && x2) && (decide (x3 = (-2)))) && (decide (x4 = 0)))) (v := .b ((((((decide (x = (⟨(0 : Int), (0 : Int)⟩ : T_kitty_Corner))) && (decide (x1 = (⟨6, (0 : Int)⟩ : T_kitty_Corner)))) && x2) && (decide (x3 = (-2)))) && (decide (x4 = 0))) && (decide (x6 = 2)))) rfl b₅ (Eq.trans (b := V.b false) rfl (and_off b₅))) ?_
      refine WO_end ?_
      exact ⟨rfl, rfl, g₄_10⟩
  rintro frg₅ _ ⟨rfl, g₅_59, g₅_10⟩
  refine WO_v (a_mv (v := .b ((((((decide (x = (⟨(0 : Int), (0 : Int)⟩ : T_kitty_Corner))) && (decide (x1 = (⟨6, (0 : Int)⟩ : T_kitty_Corner)))) && x2) && (decide (x3 = (-2)))) && (decide (x4 = 0))) && (decide (x6 = 2)))) g₅_59) ?_
  refine WO_cut 3 (fun fr' k' => k₁₆ = k' ∧ fr' 63 = .b (((((((decide (x = (⟨(0 : Int), (0 : Int)⟩ : T_kitty_Corner))) && (decide (x1 = (⟨6, (0 : Int)⟩ : T_kitty_Corner)))) && x2) && (decide (x3 = (-2)))) && (decide (x4 = 0))) && (decide (x6 = 2))) && (!x9))) ?_ ?_
  · rcases bc ((((((decide (x = (⟨(0 : Int), (0 : Int)⟩ : T_kitty_Corner))) && (decide (x1 = (⟨6, (0 : Int)⟩ : T_kitty_Corner)))) && x2) && (decide (x3 = (-2)))) && (decide (x4 = 0))) && (decide (x6 = 2))) with b₆ | b₆
    · skip
      refine WO_on rfl b₆ ?_
      refine WO_v (a_mv (v := .b x9) g₅_10) ?_
      refine WO_on rfl b₆ ?_
      refine WO_v (a_not (t := x9) rfl) ?_
      refine WO_v (a_pickT (t := ((((((decide (x = (⟨(0 : Int), (0 : Int)⟩ : T_kitty_Corner))) && (decide (x1 = (⟨6, (0 : Int)⟩ : T_kitty_Corner)))) && x2) && (decide (x3 = (-2)))) && (decide (x4 = 0))) && (decide (x6 = 2)))) (v := .b (((((((decide (x = (⟨(0 : Int), (0 : Int)⟩ : T_kitty_Corner))) && (decide (x1 = (⟨6, (0 : Int)⟩ : T_kitty_Corner)))) && x2) && (decide (x3 = (-2)))) && (decide (x4 = 0))) && (decide (x6 = 2))) && (!x9))) rfl b₆ (Eq.trans (b := V.b (!x9)) rfl (and_on b₆))) ?_
      refine WO_end ?_
      exact ⟨rfl, rfl⟩
    · skip
      refine WO_off rfl b₆ ?_
      refine WO_off rfl b₆ ?_
      refine WO_v (a_pickF (t := ((((((decide (x = (⟨(0 : Int), (0 : Int)⟩ : T_kitty_Corner))) && (decide (x1 = (⟨6, (0 : Int)⟩ : T_kitty_Corner)))) && x2) && (decide (x3 = (-2)))) && (decide (x4 = 0))) && (decide (x6 = 2)))) (v := .b (((((((decide (x = (⟨(0 : Int), (0 : Int)⟩ : T_kitty_Corner))) && (decide (x1 = (⟨6, (0 : Int)⟩ : T_kitty_Corner)))) && x2) && (decide (x3 = (-2)))) && (decide (x4 = 0))) && (decide (x6 = 2))) && (!x9))) rfl b₆ (Eq.trans (b := V.b false) rfl (and_off b₆))) ?_
      refine WO_end ?_
      exact ⟨rfl, rfl⟩
  rintro frg₆ _ ⟨rfl, g₆_63⟩
  refine WO_v (a_mv (v := .b (((((((decide (x = (⟨(0 : Int), (0 : Int)⟩ : T_kitty_Corner))) && (decide (x1 = (⟨6, (0 : Int)⟩ : T_kitty_Corner)))) && x2) && (decide (x3 = (-2)))) && (decide (x4 = 0))) && (decide (x6 = 2))) && (!x9))) g₆_63) ?_
  refine WO_end ?_
  refine then_n ?_
  refine W_rt ?_
  refine Ret_r (rs_t (n := 0) (v := .b (((((((decide (x = (⟨(0 : Int), (0 : Int)⟩ : T_kitty_Corner))) && (decide (x1 = (⟨6, (0 : Int)⟩ : T_kitty_Corner)))) && x2) && (decide (x3 = (-2)))) && (decide (x4 = 0))) && (decide (x6 = 2))) && (!x9))) rfl rs_nil) ?_
  have hp := Option.some.inj hp; subst hp
  exact (And.intro rfl (hO₁₆.pick [] rfl (by decide)))

end Mu
