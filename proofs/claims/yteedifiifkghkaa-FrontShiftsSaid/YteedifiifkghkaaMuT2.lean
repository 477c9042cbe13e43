/- More statements of layer 20. -/
import Derived.Test.YteedifiifkghkaaMuT1
set_option linter.unusedSimpArgs false
namespace Mu
open Go (IntKind BinOp UnOp)

/-! Sums. -/
theorem gi_turns (l : List Int) (j : Nat) : -2 ≤ gi (turnsL l false) j ∧ gi (turnsL l false) j ≤ 1 := by
  by_cases hj : j < (turnsL l false).length
  · rw [gi_eq hj]
    simp only [turnsL, List.getElem_map, turnOf, Bool.false_eq_true, if_false]
    omega
  · simp [gi, hj]

theorem good_of {l : List Int} (h : ∀ j, -2 ≤ gi l j ∧ gi l j ≤ 1) : l.any bad = false := by
  rw [List.any_eq_false]
  intro x hx
  obtain ⟨j, hj, rfl⟩ := List.getElem_of_mem hx
  have := h j
  rw [gi_eq hj] at this
  simp [bad]
  omega
theorem good_turns (l : List Int) : (turnsL l false).any bad = false := good_of (gi_turns l)

/-- All ahead of a place. -/
def pre (t : List Int) : Nat → Int
  | 0 => 0
  | j + 1 => pre t j + gi t j
theorem sums_pre {t : List Int} {i : Nat} (hi : i < t.length) (c : Nat) (h : c ≤ t.length) : sums t i c = if i + c ≤ t.length then pre t (i + c) - pre t i else pre t t.length - pre t i + pre t (i + c - t.length) := by
  induction c with
  | zero =>
    have : i + 0 ≤ t.length := by omega
    simp only [sums, if_pos this, Nat.add_zero]
    omega
  | succ c ih =>
    rw [sums, ih (by omega)]
    by_cases h1 : i + c < t.length
    · have ha : i + c ≤ t.length := by omega
      have hb : i + (c + 1) ≤ t.length := by omega
      have hc : pre t (i + (c + 1)) = pre t (i + c) + gi t (i + c) := rfl
      rw [Nat.mod_eq_of_lt h1, if_pos ha, if_pos hb, hc]
      omega
    · have hm : (i + c) % t.length = i + c - t.length := by
        rw [Nat.mod_eq_sub_mod (by omega), Nat.mod_eq_of_lt (by omega)]
      have hb : ¬i + (c + 1) ≤ t.length := by omega
      have hc : pre t (i + (c + 1) - t.length) = pre t (i + c - t.length) + gi t (i + c - t.length) := by
        rw [show i + (c + 1) - t.length = (i + c - t.length) + 1 by omega]
        rfl
      rw [if_neg hb, hm, hc]
      by_cases h2 : i + c = t.length
      · have ha : i + c ≤ t.length := by omega
        rw [if_pos ha, h2, Nat.sub_self]
        simp only [pre]
        omega
      · have ha : ¬i + c ≤ t.length := by omega
        rw [if_neg ha]
        omega

theorem find1_some {t : List Int} {i : Nat} : ∀ (n c : Nat), (∃ q, c < q ∧ q ≤ c + n ∧ sums t i q = 1) → (find1 t i n c).isSome = true
  | 0, c, ⟨q, h1, h2, _⟩ => by omega
  | n + 1, c, ⟨q, h1, h2, h3⟩ => by
    rw [find1]
    by_cases hx : sums t i (c + 1) = 1
    · simp [hx]
    · rw [if_neg (by simpa using hx)]
      refine find1_some n (c + 1) ⟨q, ?_, by omega, h3⟩
      refine Nat.lt_of_le_of_ne (by omega) ?_
      rintro rfl
      exact hx h3
theorem find1_lt {t : List Int} {i : Nat} (ht : 0 < t.length) : ∀ (n c : Nat) {k : Nat}, find1 t i n c = some k → k < t.length
  | 0, c, k, h => by simp [find1] at h
  | n + 1, c, k, h => by
    rw [find1] at h
    split at h
    · simp at h
      subst h
      exact Nat.mod_lt _ ht
    · exact find1_lt ht n _ h
theorem find1_none {t : List Int} {i : Nat} : ∀ (n c : Nat), (∀ q, c < q → q ≤ c + n → sums t i q ≠ 1) → find1 t i n c = none
  | 0, c, _ => rfl
  | n + 1, c, h => by
    rw [find1, if_neg (by simpa using h (c + 1) (by omega) (by omega))]
    exact find1_none n (c + 1) fun q h1 h2 => h q (by omega) (by omega)

/-- Sums that go up by no more than 1 come by 1. -/
theorem sums_hit {t : List Int} (hb : ∀ j, gi t j ≤ 1) {i : Nat} : ∀ (c : Nat), 1 ≤ sums t i c → ∃ q, 0 < q ∧ q ≤ c ∧ sums t i q = 1
  | 0, h => by simp [sums] at h
  | c + 1, h => by
    by_cases h1 : sums t i (c + 1) = 1
    · exact ⟨c + 1, by omega, by omega, h1⟩
    · have := hb ((i + c) % t.length)
      rw [sums] at h h1
      obtain ⟨q, a, b, e⟩ := sums_hit (i := i) hb c (by omega)
      exact ⟨q, a, by omega, e⟩

theorem front_some {t : List Int} (hb : ∀ j, -2 ≤ gi t j ∧ gi t j ≤ 1) (hs : pre t t.length = 4) {i : Nat} (hi : i < t.length) : (front t i).isSome = decide (gi t i < 0) ∧ 0 ≤ on0 (front t i) ∧ on0 (front t i) < t.length := by
  unfold front
  rw [good_of hb]
  have h2 : decide ((i : Int) < 0) = false := decide_eq_false (by omega)
  have h3 : decide ((t.length : Int) ≤ i) = false := by simp; omega
  simp only [h2, h3, Bool.false_eq_true, if_false, Int.toNat_natCast]
  by_cases h4 : 0 ≤ gi t i
  · have : ¬gi t i < 0 := by omega
    simp [h4, this, on0]
    try omega
  · have h5 : gi t i < 0 := by omega
    have hsum : sums t i t.length = 4 := by
      rw [sums_pre hi _ (Nat.le_refl _)]
      split
      · have : i = 0 := by omega
        subst this
        simp [pre, hs]
      · rw [hs, show i + t.length - t.length = i by omega]
        omega
    obtain ⟨q, a, b, e⟩ := sums_hit (fun j => (hb j).2) t.length (by rw [hsum]; omega)
    have hf := find1_some (t := t) (i := i) t.length 0 ⟨q, a, by omega, e⟩
    simp only [h4, decide_false, Bool.false_eq_true, if_false, h5, decide_true]
    refine ⟨hf, ?_⟩
    obtain ⟨k, hk⟩ := Option.isSome_iff_exists.1 hf
    have := find1_lt (by omega) _ _ hk
    rw [hk]
    simp only [on0]
    omega

/-- The last place of the greatest. -/
theorem top (f : Nat → Int) : ∀ n, 0 < n → ∃ i, i < n ∧ (∀ j, j < n → f j ≤ f i) ∧ ∀ j, i < j → j < n → f j < f i
  | 0, h => by omega
  | 1, _ => ⟨0, by omega, fun j hj => by rw [show j = 0 by omega]; exact Int.le_refl _, fun j h1 h2 => by omega⟩
  | n + 2, _ => by
    obtain ⟨i, hi, h1, h2⟩ := top f (n + 1) (by omega)
    by_cases h : f i ≤ f (n + 1)
    · refine ⟨n + 1, by omega, fun j hj => ?_, fun j h3 h4 => by omega⟩
      by_cases hj1 : j = n + 1
      · subst hj1; exact Int.le_refl _
      · exact Int.le_trans (h1 j (by omega)) h
    · refine ⟨i, by omega, fun j hj => ?_, fun j h3 h4 => ?_⟩
      · by_cases hj1 : j = n + 1
        · subst hj1; omega
        · exact h1 j (by omega)
      · by_cases hj1 : j = n + 1
        · subst hj1; omega
        · exact h2 j h3 (by omega)

theorem openF_some {t : List Int} : ∀ (n c : Nat), (∃ q, c ≤ q ∧ q < c + n ∧ gi t q < 0 ∧ front t q = none) → ∃ i, openF t n c = some i ∧ c ≤ i ∧ i < c + n ∧ gi t i < 0 ∧ front t i = none
  | 0, c, ⟨q, h1, h2, _⟩ => by omega
  | n + 1, c, ⟨q, h1, h2, h3, h4⟩ => by
    rw [openF]
    by_cases hx : gi t c < 0 ∧ front t c = none
    · rw [hx.2, if_pos (by simp [hx.1])]
      exact ⟨c, rfl, by omega, by omega, hx.1, hx.2⟩
    · rw [if_neg (by simpa using hx)]
      have : q ≠ c := by
        rintro rfl
        exact hx ⟨h3, h4⟩
      obtain ⟨i, a, b, d, e, f⟩ := openF_some n (c + 1) ⟨q, by omega, by omega, h3, h4⟩
      exact ⟨i, a, by omega, by omega, e, f⟩

theorem open_some {t : List Int} (hb : ∀ j, -2 ≤ gi t j ∧ gi t j ≤ 1) (hs : pre t t.length = -4) : ∃ i, openL t = some i ∧ i < t.length ∧ gi t i < 0 ∧ front t i = none := by
  have hpos : 0 < t.length := by
    refine Nat.pos_of_ne_zero fun h => ?_
    rw [h] at hs
    simp [pre] at hs
  obtain ⟨i, hi, h1, h2⟩ := top (pre t) t.length hpos
  have hsum : ∀ c, 0 < c → c ≤ t.length → sums t i c < 0 := by
    intro c hc hc'
    rw [sums_pre hi c hc']
    split
    · rename_i hle
      by_cases he : i + c = t.length
      · rw [he, hs]
        have := h1 0 hpos
        simp only [pre] at this
        omega
      · have := h2 (i + c) (by omega) (by omega)
        omega
    · have := h1 (i + c - t.length) (by omega)
      omega
  have hneg : gi t i < 0 := by
    have := hsum 1 (by omega) (by omega)
    simp only [sums, Nat.add_zero, Nat.mod_eq_of_lt hi] at this
    omega
  have hno : front t i = none := by
    unfold front
    rw [good_of hb]
    have h2' : decide ((i : Int) < 0) = false := decide_eq_false (by omega)
    have h3 : decide ((t.length : Int) ≤ i) = false := by simp; omega
    have h4 : decide (0 ≤ gi t i) = false := by simp; omega
    simp only [h2', h3, h4, Bool.false_eq_true, if_false, Int.toNat_natCast]
    exact find1_none _ _ fun q a b => by have := hsum q a (by omega); omega
  unfold openL
  rw [good_of hb]
  obtain ⟨k, a, b, d, e, f⟩ := openF_some (t := t) t.length 0 ⟨i, by omega, by omega, hneg, hno⟩
  exact ⟨k, by simpa using a, by omega, e, f⟩

theorem pre_snoc {t : List Int} {x : Int} : pre (t ++ [x]) (t ++ [x]).length = pre t t.length + x := by
  have h : ∀ j, j ≤ t.length → pre (t ++ [x]) j = pre t j := by
    intro j hj
    induction j with
    | zero => rfl
    | succ j ih =>
      rw [pre, pre, ih (by omega)]
      congr 1
      simp [gi, List.getElem?_append, show j < t.length by omega]
  rw [List.length_append, List.length_singleton, pre, h _ (Nat.le_refl _)]
  simp [gi]
theorem gi_snoc {t : List Int} {x : Int} (ht : ∀ j, -2 ≤ gi t j ∧ gi t j ≤ 1) (hx : -2 ≤ x ∧ x ≤ 1) (j : Nat) : -2 ≤ gi (t ++ [x]) j ∧ gi (t ++ [x]) j ≤ 1 := by
  by_cases hj : j < t.length
  · have := ht j
    rw [gi_eq hj] at this
    rw [gi_eq (by simp; omega), List.getElem_append_left hj]
    exact this
  · by_cases hj2 : j = t.length
    · subst hj2
      simp [gi]
      exact hx
    · rw [show gi (t ++ [x]) j = 0 by
        unfold gi
        rw [List.getD_eq_getElem?_getD, List.getElem?_eq_none (by simp; omega)]
        rfl]
      omega
theorem pre_le {t : List Int} (hb : ∀ j, -2 ≤ gi t j ∧ gi t j ≤ 1) : ∀ n : Nat, -2 * (n : Int) ≤ pre t n ∧ pre t n ≤ n
  | 0 => by simp [pre]
  | n + 1 => by
    have := pre_le hb n
    have := hb n
    simp only [pre]
    omega

/-- One more. -/
theorem WA_one {nr b : Nat} {h : Hp} {x : V} {l : List Int} {z : Int} {K : V → List (Nat × Obj) → Prop} (hx : SlN eInt b h x l) (hb : b ≤ h.n) (hl : l.length < 1000000) (hnr : nr = h.n + 1)
    (hk : ∀ v up, SlN eInt b ((h.put h.n (.cells true [.i .i64 z])).puts up) v (l ++ [z]) → Ext b h ((h.put h.n (.cells true [.i .i64 z])).puts up) → K v up) : WA (appA (h.put h.n (.cells true [.i .i64 z])).m nr 1 8 x (.sl 1 h.n 0 1 1 true)) K := by
  subst hnr
  refine WA_app (E := eInt) (b := b) (l := l) (m := [z]) hx.put (by rw [← Hp.put_new]; exact Hp.fresh) (by simpa using Sl.new (E := eInt) (h := h) (l := [z]) rfl) (by omega) (fun _ => rfl) (by simp; omega) fun v up h1 h2 => hk v up h1 ?_
  exact (Ext.put hb).trans h2 (Nat.le_refl _)

theorem S_FrontAlways {h : Hp} {v : V} {l : List Int} (hs : Sl eI8 h v l) (hr : ∀ x ∈ l, -128 ≤ x ∧ x ≤ 127) : WC G 1 [v] h fun u _ => u = .b true := by
  refine WC_of G_F_muntinlaw20_FrontAlways ?_
  obtain ⟨v1, k1, c1, o1, e1⟩ := S_turns (odd := false) hs hr
  have hb1 := gi_turns l
  have hl1 : (turnsL l false).length ≤ 30 := by simp [turnsL]; omega
  generalize turnsL l false = tl at o1 hb1 hl1
  have hp1 := pre_le hb1
  simp (disch := first | omega | decide) only [here_eq, W_seq, W_region, W_block, W_skip, W_exit, W_ret, W_cond', WB_b, WO_cons, WO_wait, WO_nil, WS, W_draw0, W_draw1, numb_nil, numb_cons, WD_cons, WD_wait, WD_nil, WDS, List.length_cons, List.length_nil, Hp.bump_n, Nat.zero_add,  WA_some, WA_none, Ex.then_normal, Ex.then_exit, Ex.then_ret, Ex.blk_normal, Ex.blk_exit, Ex.blk_ret, wantB_is, V.is_b, Fr.put_some, Fr.put_none, Fr.set_at, Fr.ev_t, Fr.ev_c, Fr.start_at, Hp.puts_nil, Hp.puts_cons, opt_some, opt_none, pickV_b, convV_i, extV_tu, act_mv, act_cst, act_pick, act_alloc, act_box, act_bin, act_un, act_conv, act_eq, act_ixa, act_ld, act_len, act_ext, act_clo, act_fa, act_app, act_bsl, act_slc, act_mn, act_mx, mnV_i, mxV_i, Hp.put_new, Option.map_some, Option.map_none, eInt_sz, eInt_c, eI8_sz, eI8_c, eV_sz, eV_c, evs_nil, evs_cons, bsl_i1, bsl_i2, bsl_i3, bsl_i4, bsl_i6, bsl_i12, bin_add, bin_sub, bin_rem, bin_lss, bin_leq, bin_gtr, bin_geq, eqV_sc, eqV_bl, un_not, un_neg, Ret, resOfs, resOf, resV, List.map_cons, List.map_nil, List.cons_append, List.nil_append, List.append_nil, List.getElem?_cons_zero, List.getElem?_cons_succ, List.getElem?_nil, Option.getD_some, Option.getD_none, ↓reduceIte, Nat.reduceEqDiff, Nat.reduceAdd, Nat.zero_ne_one, Nat.one_ne_zero, Nat.succ_ne_zero, if_true, if_false, Bool.false_eq_true, beq_self_eq_true, Bool.not_true, Bool.not_false, bne_self_eq_false, Bool.true_beq, Bool.false_beq, beq_true, beq_false, F_muntinlaw20_FrontAlways, F_muntinlaw20_FrontAlways.r0, F_muntinlaw20_FrontAlways.r1, F_muntinlaw20_FrontAlways.r2, F_muntinlaw20_FrontAlways.r3, F_muntinlaw20_FrontAlways.r4, F_muntinlaw20_FrontAlways.r5, F_muntinlaw20_FrontAlways.r6, F_muntinlaw20_FrontAlways.r7, F_muntinlaw20_FrontAlways.r8, F_muntinlaw20_FrontAlways.r9, F_muntinlaw20_FrontAlways.r10, F_muntinlaw20_FrontAlways.r11, F_muntinlaw20_FrontAlways.r12, F_muntinlaw20_FrontAlways.r13, F_muntinlaw20_FrontAlways.r14, F_muntinlaw20_FrontAlways.r15, F_muntinlaw20_FrontAlways.r16, F_muntinlaw20_FrontAlways.r17, F_muntinlaw20_FrontAlways.r18, F_muntinlaw20_FrontAlways.r19, F_muntinlaw20_FrontAlways.r20, F_muntinlaw20_FrontAlways.r21, F_muntinlaw20_FrontAlways.r22, F_muntinlaw20_FrontAlways.r23, F_muntinlaw20_FrontAlways.r24, F_muntinlaw20_FrontAlways.r25, F_muntinlaw20_FrontAlways.r26, F_muntinlaw20_FrontAlways.r27, F_muntinlaw20_FrontAlways.r28, F_muntinlaw20_FrontAlways.code, c1 _, o1.to.len]
  refine W_rounds (fun (j : Nat) fr k => fr 3 = v1 ∧ fr 4 = .n (pre tl j) ∧ fr 17 = v1 ∧ fr 18 = .n tl.length ∧ fr 19 = .n j ∧ j ≤ tl.length ∧ k = k1) (fun j => tl.length - j) (s := 0) ?_ ?_
  · simp [Fr.set, Fr.start, pre]
  rintro j fr k ⟨h3, h4, h17, h18, h19, hj, rfl⟩
  by_cases hjl : j < tl.length
  · have hd : decide ((j : Int) < (tl.length : Int)) = true := by simp; omega
    have := hb1 j
    have := hp1 j
    simp (disch := first | omega | decide) only [here_eq, W_seq, W_region, W_block, W_skip, W_exit, W_ret, W_cond', WB_b, WO_cons, WO_wait, WO_nil, WS, W_draw0, W_draw1, numb_nil, numb_cons, WD_cons, WD_wait, WD_nil, WDS, List.length_cons, List.length_nil, Hp.bump_n, Nat.zero_add,  WA_some, WA_none, Ex.then_normal, Ex.then_exit, Ex.then_ret, Ex.blk_normal, Ex.blk_exit, Ex.blk_ret, wantB_is, V.is_b, Fr.put_some, Fr.put_none, Fr.set_at, Fr.ev_t, Fr.ev_c, Fr.start_at, Hp.puts_nil, Hp.puts_cons, opt_some, opt_none, pickV_b, convV_i, extV_tu, act_mv, act_cst, act_pick, act_alloc, act_box, act_bin, act_un, act_conv, act_eq, act_ixa, act_ld, act_len, act_ext, act_clo, act_fa, act_app, act_bsl, act_slc, act_mn, act_mx, mnV_i, mxV_i, Hp.put_new, Option.map_some, Option.map_none, eInt_sz, eInt_c, eI8_sz, eI8_c, eV_sz, eV_c, evs_nil, evs_cons, bsl_i1, bsl_i2, bsl_i3, bsl_i4, bsl_i6, bsl_i12, bin_add, bin_sub, bin_rem, bin_lss, bin_leq, bin_gtr, bin_geq, eqV_sc, eqV_bl, un_not, un_neg, Ret, resOfs, resOf, resV, List.map_cons, List.map_nil, List.cons_append, List.nil_append, List.append_nil, List.getElem?_cons_zero, List.getElem?_cons_succ, List.getElem?_nil, Option.getD_some, Option.getD_none, ↓reduceIte, Nat.reduceEqDiff, Nat.reduceAdd, Nat.zero_ne_one, Nat.one_ne_zero, Nat.succ_ne_zero, if_true, if_false, Bool.false_eq_true, beq_self_eq_true, Bool.not_true, Bool.not_false, bne_self_eq_false, Bool.true_beq, Bool.false_beq, beq_true, beq_false, F_muntinlaw20_FrontAlways.l0, F_muntinlaw20_FrontAlways, F_muntinlaw20_FrontAlways.r0, F_muntinlaw20_FrontAlways.r1, F_muntinlaw20_FrontAlways.r2, F_muntinlaw20_FrontAlways.r3, F_muntinlaw20_FrontAlways.r4, F_muntinlaw20_FrontAlways.r5, F_muntinlaw20_FrontAlways.r6, F_muntinlaw20_FrontAlways.r7, F_muntinlaw20_FrontAlways.r8, F_muntinlaw20_FrontAlways.r9, F_muntinlaw20_FrontAlways.r10, F_muntinlaw20_FrontAlways.r11, F_muntinlaw20_FrontAlways.r12, F_muntinlaw20_FrontAlways.r13, F_muntinlaw20_FrontAlways.r14, F_muntinlaw20_FrontAlways.r15, F_muntinlaw20_FrontAlways.r16, F_muntinlaw20_FrontAlways.r17, F_muntinlaw20_FrontAlways.r18, F_muntinlaw20_FrontAlways.r19, F_muntinlaw20_FrontAlways.r20, F_muntinlaw20_FrontAlways.r21, F_muntinlaw20_FrontAlways.r22, F_muntinlaw20_FrontAlways.r23, F_muntinlaw20_FrontAlways.r24, F_muntinlaw20_FrontAlways.r25, F_muntinlaw20_FrontAlways.r26, F_muntinlaw20_FrontAlways.r27, F_muntinlaw20_FrontAlways.r28, F_muntinlaw20_FrontAlways.code, h3, h4, h17, h18, h19, hd, o1.to.at, o1.to.ld, Int.toNat_natCast]
    exact ⟨j + 1, by omega, (by first | trivial | rfl | omega | assumption | (simp; done)), (by first | trivial | rfl | omega | assumption | (simp; done)), (by first | trivial | rfl | omega | assumption | (simp; done)), (by first | trivial | rfl | omega | assumption | (simp; done)), (by first | trivial | rfl | omega | assumption | (simp; done)), by omega, (by first | trivial | rfl | omega | assumption | (simp; done))⟩
  have hd : decide ((j : Int) < (tl.length : Int)) = false := by simp; omega
  obtain rfl : j = tl.length := by omega
  simp (disch := first | omega | decide) only [here_eq, W_seq, W_region, W_block, W_skip, W_exit, W_ret, W_cond', WB_b, WO_cons, WO_wait, WO_nil, WS, W_draw0, W_draw1, numb_nil, numb_cons, WD_cons, WD_wait, WD_nil, WDS, List.length_cons, List.length_nil, Hp.bump_n, Nat.zero_add,  WA_some, WA_none, Ex.then_normal, Ex.then_exit, Ex.then_ret, Ex.blk_normal, Ex.blk_exit, Ex.blk_ret, wantB_is, V.is_b, Fr.put_some, Fr.put_none, Fr.set_at, Fr.ev_t, Fr.ev_c, Fr.start_at, Hp.puts_nil, Hp.puts_cons, opt_some, opt_none, pickV_b, convV_i, extV_tu, act_mv, act_cst, act_pick, act_alloc, act_box, act_bin, act_un, act_conv, act_eq, act_ixa, act_ld, act_len, act_ext, act_clo, act_fa, act_app, act_bsl, act_slc, act_mn, act_mx, mnV_i, mxV_i, Hp.put_new, Option.map_some, Option.map_none, eInt_sz, eInt_c, eI8_sz, eI8_c, eV_sz, eV_c, evs_nil, evs_cons, bsl_i1, bsl_i2, bsl_i3, bsl_i4, bsl_i6, bsl_i12, bin_add, bin_sub, bin_rem, bin_lss, bin_leq, bin_gtr, bin_geq, eqV_sc, eqV_bl, un_not, un_neg, Ret, resOfs, resOf, resV, List.map_cons, List.map_nil, List.cons_append, List.nil_append, List.append_nil, List.getElem?_cons_zero, List.getElem?_cons_succ, List.getElem?_nil, Option.getD_some, Option.getD_none, ↓reduceIte, Nat.reduceEqDiff, Nat.reduceAdd, Nat.zero_ne_one, Nat.one_ne_zero, Nat.succ_ne_zero, if_true, if_false, Bool.false_eq_true, beq_self_eq_true, Bool.not_true, Bool.not_false, bne_self_eq_false, Bool.true_beq, Bool.false_beq, beq_true, beq_false, F_muntinlaw20_FrontAlways.l0, F_muntinlaw20_FrontAlways, F_muntinlaw20_FrontAlways.r0, F_muntinlaw20_FrontAlways.r1, F_muntinlaw20_FrontAlways.r2, F_muntinlaw20_FrontAlways.r3, F_muntinlaw20_FrontAlways.r4, F_muntinlaw20_FrontAlways.r5, F_muntinlaw20_FrontAlways.r6, F_muntinlaw20_FrontAlways.r7, F_muntinlaw20_FrontAlways.r8, F_muntinlaw20_FrontAlways.r9, F_muntinlaw20_FrontAlways.r10, F_muntinlaw20_FrontAlways.r11, F_muntinlaw20_FrontAlways.r12, F_muntinlaw20_FrontAlways.r13, F_muntinlaw20_FrontAlways.r14, F_muntinlaw20_FrontAlways.r15, F_muntinlaw20_FrontAlways.r16, F_muntinlaw20_FrontAlways.r17, F_muntinlaw20_FrontAlways.r18, F_muntinlaw20_FrontAlways.r19, F_muntinlaw20_FrontAlways.r20, F_muntinlaw20_FrontAlways.r21, F_muntinlaw20_FrontAlways.r22, F_muntinlaw20_FrontAlways.r23, F_muntinlaw20_FrontAlways.r24, F_muntinlaw20_FrontAlways.r25, F_muntinlaw20_FrontAlways.r26, F_muntinlaw20_FrontAlways.r27, F_muntinlaw20_FrontAlways.r28, F_muntinlaw20_FrontAlways.code, h3, h4, h17, h18, h19, hd]
  have hp := hp1 tl.length
  refine W_rounds (fun (t : List Int) fr k' => ∃ u, fr 3 = u ∧ fr 4 = .n (pre t t.length) ∧ SlN eInt h.n k' u t ∧ Ext h.n h k' ∧ (∀ j, -2 ≤ gi t j ∧ gi t j ≤ 1) ∧ (t.length : Int) - pre t t.length ≤ 90 ∧ (pre t t.length ≤ 30)) (fun t => (4 - pre t t.length).toNat) (s := tl) ?_ ?_
  · exact ⟨v1, by simp [Fr.set, h3], by simp [Fr.set, h4], o1, e1, hb1, by omega, by omega⟩
  rintro t fr k' ⟨u, h3, h4, hu, he, hbt, hlt, hpt⟩
  by_cases hs4 : pre t t.length < 4
  · have hd : decide (pre t t.length < 4) = true := by simp; omega
    have hple := pre_le hbt t.length
    simp (disch := first | omega | decide) only [here_eq, W_seq, W_region, W_block, W_skip, W_exit, W_ret, W_cond', WB_b, WO_cons, WO_wait, WO_nil, WS, W_draw0, W_draw1, numb_nil, numb_cons, WD_cons, WD_wait, WD_nil, WDS, List.length_cons, List.length_nil, Hp.bump_n, Nat.zero_add,  WA_some, WA_none, Ex.then_normal, Ex.then_exit, Ex.then_ret, Ex.blk_normal, Ex.blk_exit, Ex.blk_ret, wantB_is, V.is_b, Fr.put_some, Fr.put_none, Fr.set_at, Fr.ev_t, Fr.ev_c, Fr.start_at, Hp.puts_nil, Hp.puts_cons, opt_some, opt_none, pickV_b, convV_i, extV_tu, act_mv, act_cst, act_pick, act_alloc, act_box, act_bin, act_un, act_conv, act_eq, act_ixa, act_ld, act_len, act_ext, act_clo, act_fa, act_app, act_bsl, act_slc, act_mn, act_mx, mnV_i, mxV_i, Hp.put_new, Option.map_some, Option.map_none, eInt_sz, eInt_c, eI8_sz, eI8_c, eV_sz, eV_c, evs_nil, evs_cons, bsl_i1, bsl_i2, bsl_i3, bsl_i4, bsl_i6, bsl_i12, bin_add, bin_sub, bin_rem, bin_lss, bin_leq, bin_gtr, bin_geq, eqV_sc, eqV_bl, un_not, un_neg, Ret, resOfs, resOf, resV, List.map_cons, List.map_nil, List.cons_append, List.nil_append, List.append_nil, List.getElem?_cons_zero, List.getElem?_cons_succ, List.getElem?_nil, Option.getD_some, Option.getD_none, ↓reduceIte, Nat.reduceEqDiff, Nat.reduceAdd, Nat.zero_ne_one, Nat.one_ne_zero, Nat.succ_ne_zero, if_true, if_false, Bool.false_eq_true, beq_self_eq_true, Bool.not_true, Bool.not_false, bne_self_eq_false, Bool.true_beq, Bool.false_beq, beq_true, beq_false, F_muntinlaw20_FrontAlways.l1, F_muntinlaw20_FrontAlways, F_muntinlaw20_FrontAlways.r0, F_muntinlaw20_FrontAlways.r1, F_muntinlaw20_FrontAlways.r2, F_muntinlaw20_FrontAlways.r3, F_muntinlaw20_FrontAlways.r4, F_muntinlaw20_FrontAlways.r5, F_muntinlaw20_FrontAlways.r6, F_muntinlaw20_FrontAlways.r7, F_muntinlaw20_FrontAlways.r8, F_muntinlaw20_FrontAlways.r9, F_muntinlaw20_FrontAlways.r10, F_muntinlaw20_FrontAlways.r11, F_muntinlaw20_FrontAlways.r12, F_muntinlaw20_FrontAlways.r13, F_muntinlaw20_FrontAlways.r14, F_muntinlaw20_FrontAlways.r15, F_muntinlaw20_FrontAlways.r16, F_muntinlaw20_FrontAlways.r17, F_muntinlaw20_FrontAlways.r18, F_muntinlaw20_FrontAlways.r19, F_muntinlaw20_FrontAlways.r20, F_muntinlaw20_FrontAlways.r21, F_muntinlaw20_FrontAlways.r22, F_muntinlaw20_FrontAlways.r23, F_muntinlaw20_FrontAlways.r24, F_muntinlaw20_FrontAlways.r25, F_muntinlaw20_FrontAlways.r26, F_muntinlaw20_FrontAlways.r27, F_muntinlaw20_FrontAlways.r28, F_muntinlaw20_FrontAlways.code, h3, h4, hd]
    refine WA_one hu he.1 (by omega) rfl fun v' up ho' he' => ?_
    generalize Hp.puts _ up = k2 at ho' he'
    simp (disch := first | omega | decide) only [here_eq, W_seq, W_region, W_block, W_skip, W_exit, W_ret, W_cond', WB_b, WO_cons, WO_wait, WO_nil, WS, W_draw0, W_draw1, numb_nil, numb_cons, WD_cons, WD_wait, WD_nil, WDS, List.length_cons, List.length_nil, Hp.bump_n, Nat.zero_add,  WA_some, WA_none, Ex.then_normal, Ex.then_exit, Ex.then_ret, Ex.blk_normal, Ex.blk_exit, Ex.blk_ret, wantB_is, V.is_b, Fr.put_some, Fr.put_none, Fr.set_at, Fr.ev_t, Fr.ev_c, Fr.start_at, Hp.puts_nil, Hp.puts_cons, opt_some, opt_none, pickV_b, convV_i, extV_tu, act_mv, act_cst, act_pick, act_alloc, act_box, act_bin, act_un, act_conv, act_eq, act_ixa, act_ld, act_len, act_ext, act_clo, act_fa, act_app, act_bsl, act_slc, act_mn, act_mx, mnV_i, mxV_i, Hp.put_new, Option.map_some, Option.map_none, eInt_sz, eInt_c, eI8_sz, eI8_c, eV_sz, eV_c, evs_nil, evs_cons, bsl_i1, bsl_i2, bsl_i3, bsl_i4, bsl_i6, bsl_i12, bin_add, bin_sub, bin_rem, bin_lss, bin_leq, bin_gtr, bin_geq, eqV_sc, eqV_bl, un_not, un_neg, Ret, resOfs, resOf, resV, List.map_cons, List.map_nil, List.cons_append, List.nil_append, List.append_nil, List.getElem?_cons_zero, List.getElem?_cons_succ, List.getElem?_nil, Option.getD_some, Option.getD_none, ↓reduceIte, Nat.reduceEqDiff, Nat.reduceAdd, Nat.zero_ne_one, Nat.one_ne_zero, Nat.succ_ne_zero, if_true, if_false, Bool.false_eq_true, beq_self_eq_true, Bool.not_true, Bool.not_false, bne_self_eq_false, Bool.true_beq, Bool.false_beq, beq_true, beq_false, F_muntinlaw20_FrontAlways, F_muntinlaw20_FrontAlways.r0, F_muntinlaw20_FrontAlways.r1, F_muntinlaw20_FrontAlways.r2, F_muntinlaw20_FrontAlways.r3, F_muntinlaw20_FrontAlways.r4, F_muntinlaw20_FrontAlways.r5, F_muntinlaw20_FrontAlways.r6, F_muntinlaw20_FrontAlways.r7, F_muntinlaw20_FrontAlways.r8, F_muntinlaw20_FrontAlways.r9, F_muntinlaw20_FrontAlways.r10, F_muntinlaw20_FrontAlways.r11, F_muntinlaw20_FrontAlways.r12, F_muntinlaw20_FrontAlways.r13, F_muntinlaw20_FrontAlways.r14, F_muntinlaw20_FrontAlways.r15, F_muntinlaw20_FrontAlways.r16, F_muntinlaw20_FrontAlways.r17, F_muntinlaw20_FrontAlways.r18, F_muntinlaw20_FrontAlways.r19, F_muntinlaw20_FrontAlways.r20, F_muntinlaw20_FrontAlways.r21, F_muntinlaw20_FrontAlways.r22, F_muntinlaw20_FrontAlways.r23, F_muntinlaw20_FrontAlways.r24, F_muntinlaw20_FrontAlways.r25, F_muntinlaw20_FrontAlways.r26, F_muntinlaw20_FrontAlways.r27, F_muntinlaw20_FrontAlways.r28, F_muntinlaw20_FrontAlways.code, h3, h4]
    refine ⟨t ++ [1], ?_, v', rfl, ?_, ho', he.trans he' (Nat.le_refl _), gi_snoc hbt (by omega), ?_, ?_⟩
    all_goals rw [pre_snoc]
    all_goals try simp only [List.length_append, List.length_singleton]
    all_goals first | rfl | omega
  have hd : decide (pre t t.length < 4) = false := by simp; omega
  simp (disch := first | omega | decide) only [here_eq, W_seq, W_region, W_block, W_skip, W_exit, W_ret, W_cond', WB_b, WO_cons, WO_wait, WO_nil, WS, W_draw0, W_draw1, numb_nil, numb_cons, WD_cons, WD_wait, WD_nil, WDS, List.length_cons, List.length_nil, Hp.bump_n, Nat.zero_add,  WA_some, WA_none, Ex.then_normal, Ex.then_exit, Ex.then_ret, Ex.blk_normal, Ex.blk_exit, Ex.blk_ret, wantB_is, V.is_b, Fr.put_some, Fr.put_none, Fr.set_at, Fr.ev_t, Fr.ev_c, Fr.start_at, Hp.puts_nil, Hp.puts_cons, opt_some, opt_none, pickV_b, convV_i, extV_tu, act_mv, act_cst, act_pick, act_alloc, act_box, act_bin, act_un, act_conv, act_eq, act_ixa, act_ld, act_len, act_ext, act_clo, act_fa, act_app, act_bsl, act_slc, act_mn, act_mx, mnV_i, mxV_i, Hp.put_new, Option.map_some, Option.map_none, eInt_sz, eInt_c, eI8_sz, eI8_c, eV_sz, eV_c, evs_nil, evs_cons, bsl_i1, bsl_i2, bsl_i3, bsl_i4, bsl_i6, bsl_i12, bin_add, bin_sub, bin_rem, bin_lss, bin_leq, bin_gtr, bin_geq, eqV_sc, eqV_bl, un_not, un_neg, Ret, resOfs, resOf, resV, List.map_cons, List.map_nil, List.cons_append, List.nil_append, List.append_nil, List.getElem?_cons_zero, List.getElem?_cons_succ, List.getElem?_nil, Option.getD_some, Option.getD_none, ↓reduceIte, Nat.reduceEqDiff, Nat.reduceAdd, Nat.zero_ne_one, Nat.one_ne_zero, Nat.succ_ne_zero, if_true, if_false, Bool.false_eq_true, beq_self_eq_true, Bool.not_true, Bool.not_false, bne_self_eq_false, Bool.true_beq, Bool.false_beq, beq_true, beq_false, F_muntinlaw20_FrontAlways.l1, F_muntinlaw20_FrontAlways, F_muntinlaw20_FrontAlways.r0, F_muntinlaw20_FrontAlways.r1, F_muntinlaw20_FrontAlways.r2, F_muntinlaw20_FrontAlways.r3, F_muntinlaw20_FrontAlways.r4, F_muntinlaw20_FrontAlways.r5, F_muntinlaw20_FrontAlways.r6, F_muntinlaw20_FrontAlways.r7, F_muntinlaw20_FrontAlways.r8, F_muntinlaw20_FrontAlways.r9, F_muntinlaw20_FrontAlways.r10, F_muntinlaw20_FrontAlways.r11, F_muntinlaw20_FrontAlways.r12, F_muntinlaw20_FrontAlways.r13, F_muntinlaw20_FrontAlways.r14, F_muntinlaw20_FrontAlways.r15, F_muntinlaw20_FrontAlways.r16, F_muntinlaw20_FrontAlways.r17, F_muntinlaw20_FrontAlways.r18, F_muntinlaw20_FrontAlways.r19, F_muntinlaw20_FrontAlways.r20, F_muntinlaw20_FrontAlways.r21, F_muntinlaw20_FrontAlways.r22, F_muntinlaw20_FrontAlways.r23, F_muntinlaw20_FrontAlways.r24, F_muntinlaw20_FrontAlways.r25, F_muntinlaw20_FrontAlways.r26, F_muntinlaw20_FrontAlways.r27, F_muntinlaw20_FrontAlways.r28, F_muntinlaw20_FrontAlways.code, h3, h4, hd]
  refine W_rounds (fun (t : List Int) fr k' => ∃ u, fr 3 = u ∧ fr 4 = .n (pre t t.length) ∧ SlN eInt h.n k' u t ∧ Ext h.n h k' ∧ (∀ j, -2 ≤ gi t j ∧ gi t j ≤ 1) ∧ (t.length : Int) + pre t t.length ≤ 150 ∧ (4 ≤ pre t t.length)) (fun t => (pre t t.length - 4).toNat) (s := t) ?_ ?_
  · exact ⟨u, by simp [Fr.set, h3], by simp [Fr.set, h4], hu, he, hbt, by omega, by omega⟩
  clear hu he hbt hlt hpt hs4 hd h3 h4
  rintro t fr k' ⟨u, h3, h4, hu, he, hbt, hlt, hpt⟩
  by_cases hs4 : 4 < pre t t.length
  · have hd : decide (4 < pre t t.length) = true := by simp; omega
    have hple := pre_le hbt t.length
    simp (disch := first | omega | decide) only [here_eq, W_seq, W_region, W_block, W_skip, W_exit, W_ret, W_cond', WB_b, WO_cons, WO_wait, WO_nil, WS, W_draw0, W_draw1, numb_nil, numb_cons, WD_cons, WD_wait, WD_nil, WDS, List.length_cons, List.length_nil, Hp.bump_n, Nat.zero_add,  WA_some, WA_none, Ex.then_normal, Ex.then_exit, Ex.then_ret, Ex.blk_normal, Ex.blk_exit, Ex.blk_ret, wantB_is, V.is_b, Fr.put_some, Fr.put_none, Fr.set_at, Fr.ev_t, Fr.ev_c, Fr.start_at, Hp.puts_nil, Hp.puts_cons, opt_some, opt_none, pickV_b, convV_i, extV_tu, act_mv, act_cst, act_pick, act_alloc, act_box, act_bin, act_un, act_conv, act_eq, act_ixa, act_ld, act_len, act_ext, act_clo, act_fa, act_app, act_bsl, act_slc, act_mn, act_mx, mnV_i, mxV_i, Hp.put_new, Option.map_some, Option.map_none, eInt_sz, eInt_c, eI8_sz, eI8_c, eV_sz, eV_c, evs_nil, evs_cons, bsl_i1, bsl_i2, bsl_i3, bsl_i4, bsl_i6, bsl_i12, bin_add, bin_sub, bin_rem, bin_lss, bin_leq, bin_gtr, bin_geq, eqV_sc, eqV_bl, un_not, un_neg, Ret, resOfs, resOf, resV, List.map_cons, List.map_nil, List.cons_append, List.nil_append, List.append_nil, List.getElem?_cons_zero, List.getElem?_cons_succ, List.getElem?_nil, Option.getD_some, Option.getD_none, ↓reduceIte, Nat.reduceEqDiff, Nat.reduceAdd, Nat.zero_ne_one, Nat.one_ne_zero, Nat.succ_ne_zero, if_true, if_false, Bool.false_eq_true, beq_self_eq_true, Bool.not_true, Bool.not_false, bne_self_eq_false, Bool.true_beq, Bool.false_beq, beq_true, beq_false, F_muntinlaw20_FrontAlways.l2, F_muntinlaw20_FrontAlways, F_muntinlaw20_FrontAlways.r0, F_muntinlaw20_FrontAlways.r1, F_muntinlaw20_FrontAlways.r2, F_muntinlaw20_FrontAlways.r3, F_muntinlaw20_FrontAlways.r4, F_muntinlaw20_FrontAlways.r5, F_muntinlaw20_FrontAlways.r6, F_muntinlaw20_FrontAlways.r7, F_muntinlaw20_FrontAlways.r8, F_muntinlaw20_FrontAlways.r9, F_muntinlaw20_FrontAlways.r10, F_muntinlaw20_FrontAlways.r11, F_muntinlaw20_FrontAlways.r12, F_muntinlaw20_FrontAlways.r13, F_muntinlaw20_FrontAlways.r14, F_muntinlaw20_FrontAlways.r15, F_muntinlaw20_FrontAlways.r16, F_muntinlaw20_FrontAlways.r17, F_muntinlaw20_FrontAlways.r18, F_muntinlaw20_FrontAlways.r19, F_muntinlaw20_FrontAlways.r20, F_muntinlaw20_FrontAlways.r21, F_muntinlaw20_FrontAlways.r22, F_muntinlaw20_FrontAlways.r23, F_muntinlaw20_FrontAlways.r24, F_muntinlaw20_FrontAlways.r25, F_muntinlaw20_FrontAlways.r26, F_muntinlaw20_FrontAlways.r27, F_muntinlaw20_FrontAlways.r28, F_muntinlaw20_FrontAlways.code, h3, h4, hd]
    refine WA_one hu he.1 (by omega) rfl fun v' up ho' he' => ?_
    generalize Hp.puts _ up = k2 at ho' he'
    simp (disch := first | omega | decide) only [here_eq, W_seq, W_region, W_block, W_skip, W_exit, W_ret, W_cond', WB_b, WO_cons, WO_wait, WO_nil, WS, W_draw0, W_draw1, numb_nil, numb_cons, WD_cons, WD_wait, WD_nil, WDS, List.length_cons, List.length_nil, Hp.bump_n, Nat.zero_add,  WA_some, WA_none, Ex.then_normal, Ex.then_exit, Ex.then_ret, Ex.blk_normal, Ex.blk_exit, Ex.blk_ret, wantB_is, V.is_b, Fr.put_some, Fr.put_none, Fr.set_at, Fr.ev_t, Fr.ev_c, Fr.start_at, Hp.puts_nil, Hp.puts_cons, opt_some, opt_none, pickV_b, convV_i, extV_tu, act_mv, act_cst, act_pick, act_alloc, act_box, act_bin, act_un, act_conv, act_eq, act_ixa, act_ld, act_len, act_ext, act_clo, act_fa, act_app, act_bsl, act_slc, act_mn, act_mx, mnV_i, mxV_i, Hp.put_new, Option.map_some, Option.map_none, eInt_sz, eInt_c, eI8_sz, eI8_c, eV_sz, eV_c, evs_nil, evs_cons, bsl_i1, bsl_i2, bsl_i3, bsl_i4, bsl_i6, bsl_i12, bin_add, bin_sub, bin_rem, bin_lss, bin_leq, bin_gtr, bin_geq, eqV_sc, eqV_bl, un_not, un_neg, Ret, resOfs, resOf, resV, List.map_cons, List.map_nil, List.cons_append, List.nil_append, List.append_nil, List.getElem?_cons_zero, List.getElem?_cons_succ, List.getElem?_nil, Option.getD_some, Option.getD_none, ↓reduceIte, Nat.reduceEqDiff, Nat.reduceAdd, Nat.zero_ne_one, Nat.one_ne_zero, Nat.succ_ne_zero, if_true, if_false, Bool.false_eq_true, beq_self_eq_true, Bool.not_true, Bool.not_false, bne_self_eq_false, Bool.true_beq, Bool.false_beq, beq_true, beq_false, F_muntinlaw20_FrontAlways, F_muntinlaw20_FrontAlways.r0, F_muntinlaw20_FrontAlways.r1, F_muntinlaw20_FrontAlways.r2, F_muntinlaw20_FrontAlways.r3, F_muntinlaw20_FrontAlways.r4, F_muntinlaw20_FrontAlways.r5, F_muntinlaw20_FrontAlways.r6, F_muntinlaw20_FrontAlways.r7, F_muntinlaw20_FrontAlways.r8, F_muntinlaw20_FrontAlways.r9, F_muntinlaw20_FrontAlways.r10, F_muntinlaw20_FrontAlways.r11, F_muntinlaw20_FrontAlways.r12, F_muntinlaw20_FrontAlways.r13, F_muntinlaw20_FrontAlways.r14, F_muntinlaw20_FrontAlways.r15, F_muntinlaw20_FrontAlways.r16, F_muntinlaw20_FrontAlways.r17, F_muntinlaw20_FrontAlways.r18, F_muntinlaw20_FrontAlways.r19, F_muntinlaw20_FrontAlways.r20, F_muntinlaw20_FrontAlways.r21, F_muntinlaw20_FrontAlways.r22, F_muntinlaw20_FrontAlways.r23, F_muntinlaw20_FrontAlways.r24, F_muntinlaw20_FrontAlways.r25, F_muntinlaw20_FrontAlways.r26, F_muntinlaw20_FrontAlways.r27, F_muntinlaw20_FrontAlways.r28, F_muntinlaw20_FrontAlways.code, h3, h4]
    refine ⟨t ++ [-1], ?_, v', rfl, ?_, ho', he.trans he' (Nat.le_refl _), gi_snoc hbt (by omega), ?_, ?_⟩
    all_goals rw [pre_snoc]
    all_goals try simp only [List.length_append, List.length_singleton]
    all_goals first | rfl | omega
  have hd : decide (4 < pre t t.length) = false := by simp; omega
  have h4' : pre t t.length = 4 := by omega
  rw [h4'] at h4 hd
  simp (disch := first | omega | decide) only [here_eq, W_seq, W_region, W_block, W_skip, W_exit, W_ret, W_cond', WB_b, WO_cons, WO_wait, WO_nil, WS, W_draw0, W_draw1, numb_nil, numb_cons, WD_cons, WD_wait, WD_nil, WDS, List.length_cons, List.length_nil, Hp.bump_n, Nat.zero_add,  WA_some, WA_none, Ex.then_normal, Ex.then_exit, Ex.then_ret, Ex.blk_normal, Ex.blk_exit, Ex.blk_ret, wantB_is, V.is_b, Fr.put_some, Fr.put_none, Fr.set_at, Fr.ev_t, Fr.ev_c, Fr.start_at, Hp.puts_nil, Hp.puts_cons, opt_some, opt_none, pickV_b, convV_i, extV_tu, act_mv, act_cst, act_pick, act_alloc, act_box, act_bin, act_un, act_conv, act_eq, act_ixa, act_ld, act_len, act_ext, act_clo, act_fa, act_app, act_bsl, act_slc, act_mn, act_mx, mnV_i, mxV_i, Hp.put_new, Option.map_some, Option.map_none, eInt_sz, eInt_c, eI8_sz, eI8_c, eV_sz, eV_c, evs_nil, evs_cons, bsl_i1, bsl_i2, bsl_i3, bsl_i4, bsl_i6, bsl_i12, bin_add, bin_sub, bin_rem, bin_lss, bin_leq, bin_gtr, bin_geq, eqV_sc, eqV_bl, un_not, un_neg, Ret, resOfs, resOf, resV, List.map_cons, List.map_nil, List.cons_append, List.nil_append, List.append_nil, List.getElem?_cons_zero, List.getElem?_cons_succ, List.getElem?_nil, Option.getD_some, Option.getD_none, ↓reduceIte, Nat.reduceEqDiff, Nat.reduceAdd, Nat.zero_ne_one, Nat.one_ne_zero, Nat.succ_ne_zero, if_true, if_false, Bool.false_eq_true, beq_self_eq_true, Bool.not_true, Bool.not_false, bne_self_eq_false, Bool.true_beq, Bool.false_beq, beq_true, beq_false, F_muntinlaw20_FrontAlways.l2, F_muntinlaw20_FrontAlways, F_muntinlaw20_FrontAlways.r0, F_muntinlaw20_FrontAlways.r1, F_muntinlaw20_FrontAlways.r2, F_muntinlaw20_FrontAlways.r3, F_muntinlaw20_FrontAlways.r4, F_muntinlaw20_FrontAlways.r5, F_muntinlaw20_FrontAlways.r6, F_muntinlaw20_FrontAlways.r7, F_muntinlaw20_FrontAlways.r8, F_muntinlaw20_FrontAlways.r9, F_muntinlaw20_FrontAlways.r10, F_muntinlaw20_FrontAlways.r11, F_muntinlaw20_FrontAlways.r12, F_muntinlaw20_FrontAlways.r13, F_muntinlaw20_FrontAlways.r14, F_muntinlaw20_FrontAlways.r15, F_muntinlaw20_FrontAlways.r16, F_muntinlaw20_FrontAlways.r17, F_muntinlaw20_FrontAlways.r18, F_muntinlaw20_FrontAlways.r19, F_muntinlaw20_FrontAlways.r20, F_muntinlaw20_FrontAlways.r21, F_muntinlaw20_FrontAlways.r22, F_muntinlaw20_FrontAlways.r23, F_muntinlaw20_FrontAlways.r24, F_muntinlaw20_FrontAlways.r25, F_muntinlaw20_FrontAlways.r26, F_muntinlaw20_FrontAlways.r27, F_muntinlaw20_FrontAlways.r28, F_muntinlaw20_FrontAlways.code, h3, h4, hd, hu.to.len]
  refine W_rounds (fun (j : Nat) fr k => fr 3 = u ∧ fr 4 = .n 4 ∧ fr 41 = u ∧ fr 42 = .n t.length ∧ fr 43 = .n j ∧ j ≤ t.length ∧ k = k') (fun j => t.length - j) (s := 0) ?_ ?_
  · simp [Fr.set, h3, h4]
  rintro j fr k2 ⟨h3, h4, h41, h42, h43, hj, rfl⟩
  by_cases hjl : j < t.length
  · have hd : decide ((j : Int) < (t.length : Int)) = true := by simp; omega
    obtain ⟨f1, f2, f3⟩ := front_some hbt h4' hjl
    have f2' : decide (on0 (front t j) < 0) = false := by simp; omega
    have f3' : decide ((t.length : Int) ≤ on0 (front t j)) = false := by simp; omega
    simp (disch := first | omega | decide) only [here_eq, W_seq, W_region, W_block, W_skip, W_exit, W_ret, W_cond', WB_b, WO_cons, WO_wait, WO_nil, WS, W_draw0, W_draw1, numb_nil, numb_cons, WD_cons, WD_wait, WD_nil, WDS, List.length_cons, List.length_nil, Hp.bump_n, Nat.zero_add,  WA_some, WA_none, Ex.then_normal, Ex.then_exit, Ex.then_ret, Ex.blk_normal, Ex.blk_exit, Ex.blk_ret, wantB_is, V.is_b, Fr.put_some, Fr.put_none, Fr.set_at, Fr.ev_t, Fr.ev_c, Fr.start_at, Hp.puts_nil, Hp.puts_cons, opt_some, opt_none, pickV_b, convV_i, extV_tu, act_mv, act_cst, act_pick, act_alloc, act_box, act_bin, act_un, act_conv, act_eq, act_ixa, act_ld, act_len, act_ext, act_clo, act_fa, act_app, act_bsl, act_slc, act_mn, act_mx, mnV_i, mxV_i, Hp.put_new, Option.map_some, Option.map_none, eInt_sz, eInt_c, eI8_sz, eI8_c, eV_sz, eV_c, evs_nil, evs_cons, bsl_i1, bsl_i2, bsl_i3, bsl_i4, bsl_i6, bsl_i12, bin_add, bin_sub, bin_rem, bin_lss, bin_leq, bin_gtr, bin_geq, eqV_sc, eqV_bl, un_not, un_neg, Ret, resOfs, resOf, resV, List.map_cons, List.map_nil, List.cons_append, List.nil_append, List.append_nil, List.getElem?_cons_zero, List.getElem?_cons_succ, List.getElem?_nil, Option.getD_some, Option.getD_none, ↓reduceIte, Nat.reduceEqDiff, Nat.reduceAdd, Nat.zero_ne_one, Nat.one_ne_zero, Nat.succ_ne_zero, if_true, if_false, Bool.false_eq_true, beq_self_eq_true, Bool.not_true, Bool.not_false, bne_self_eq_false, Bool.true_beq, Bool.false_beq, beq_true, beq_false, F_muntinlaw20_FrontAlways.l3, F_muntinlaw20_FrontAlways, F_muntinlaw20_FrontAlways.r0, F_muntinlaw20_FrontAlways.r1, F_muntinlaw20_FrontAlways.r2, F_muntinlaw20_FrontAlways.r3, F_muntinlaw20_FrontAlways.r4, F_muntinlaw20_FrontAlways.r5, F_muntinlaw20_FrontAlways.r6, F_muntinlaw20_FrontAlways.r7, F_muntinlaw20_FrontAlways.r8, F_muntinlaw20_FrontAlways.r9, F_muntinlaw20_FrontAlways.r10, F_muntinlaw20_FrontAlways.r11, F_muntinlaw20_FrontAlways.r12, F_muntinlaw20_FrontAlways.r13, F_muntinlaw20_FrontAlways.r14, F_muntinlaw20_FrontAlways.r15, F_muntinlaw20_FrontAlways.r16, F_muntinlaw20_FrontAlways.r17, F_muntinlaw20_FrontAlways.r18, F_muntinlaw20_FrontAlways.r19, F_muntinlaw20_FrontAlways.r20, F_muntinlaw20_FrontAlways.r21, F_muntinlaw20_FrontAlways.r22, F_muntinlaw20_FrontAlways.r23, F_muntinlaw20_FrontAlways.r24, F_muntinlaw20_FrontAlways.r25, F_muntinlaw20_FrontAlways.r26, F_muntinlaw20_FrontAlways.r27, F_muntinlaw20_FrontAlways.r28, F_muntinlaw20_FrontAlways.code, h3, h4, h41, h42, h43, hd, hu.to.at, hu.to.ld, hu.to.len, Int.toNat_natCast, (S_front_Of hu.to (by omega)) _, f1, f2', f3']
    exact ⟨j + 1, by omega, (by first | trivial | rfl | omega | assumption | (simp; done)), (by first | trivial | rfl | omega | assumption | (simp; done)), (by first | trivial | rfl | omega | assumption | (simp; done)), (by first | trivial | rfl | omega | assumption | (simp; done)), (by first | trivial | rfl | omega | assumption | (simp; done)), by omega, (by first | trivial | rfl | omega | assumption | (simp; done))⟩
  have hd : decide ((j : Int) < (t.length : Int)) = false := by simp; omega
  simp (disch := first | omega | decide) only [here_eq, W_seq, W_region, W_block, W_skip, W_exit, W_ret, W_cond', WB_b, WO_cons, WO_wait, WO_nil, WS, W_draw0, W_draw1, numb_nil, numb_cons, WD_cons, WD_wait, WD_nil, WDS, List.length_cons, List.length_nil, Hp.bump_n, Nat.zero_add,  WA_some, WA_none, Ex.then_normal, Ex.then_exit, Ex.then_ret, Ex.blk_normal, Ex.blk_exit, Ex.blk_ret, wantB_is, V.is_b, Fr.put_some, Fr.put_none, Fr.set_at, Fr.ev_t, Fr.ev_c, Fr.start_at, Hp.puts_nil, Hp.puts_cons, opt_some, opt_none, pickV_b, convV_i, extV_tu, act_mv, act_cst, act_pick, act_alloc, act_box, act_bin, act_un, act_conv, act_eq, act_ixa, act_ld, act_len, act_ext, act_clo, act_fa, act_app, act_bsl, act_slc, act_mn, act_mx, mnV_i, mxV_i, Hp.put_new, Option.map_some, Option.map_none, eInt_sz, eInt_c, eI8_sz, eI8_c, eV_sz, eV_c, evs_nil, evs_cons, bsl_i1, bsl_i2, bsl_i3, bsl_i4, bsl_i6, bsl_i12, bin_add, bin_sub, bin_rem, bin_lss, bin_leq, bin_gtr, bin_geq, eqV_sc, eqV_bl, un_not, un_neg, Ret, resOfs, resOf, resV, List.map_cons, List.map_nil, List.cons_append, List.nil_append, List.append_nil, List.getElem?_cons_zero, List.getElem?_cons_succ, List.getElem?_nil, Option.getD_some, Option.getD_none, ↓reduceIte, Nat.reduceEqDiff, Nat.reduceAdd, Nat.zero_ne_one, Nat.one_ne_zero, Nat.succ_ne_zero, if_true, if_false, Bool.false_eq_true, beq_self_eq_true, Bool.not_true, Bool.not_false, bne_self_eq_false, Bool.true_beq, Bool.false_beq, beq_true, beq_false, F_muntinlaw20_FrontAlways.l3, F_muntinlaw20_FrontAlways, F_muntinlaw20_FrontAlways.r0, F_muntinlaw20_FrontAlways.r1, F_muntinlaw20_FrontAlways.r2, F_muntinlaw20_FrontAlways.r3, F_muntinlaw20_FrontAlways.r4, F_muntinlaw20_FrontAlways.r5, F_muntinlaw20_FrontAlways.r6, F_muntinlaw20_FrontAlways.r7, F_muntinlaw20_FrontAlways.r8, F_muntinlaw20_FrontAlways.r9, F_muntinlaw20_FrontAlways.r10, F_muntinlaw20_FrontAlways.r11, F_muntinlaw20_FrontAlways.r12, F_muntinlaw20_FrontAlways.r13, F_muntinlaw20_FrontAlways.r14, F_muntinlaw20_FrontAlways.r15, F_muntinlaw20_FrontAlways.r16, F_muntinlaw20_FrontAlways.r17, F_muntinlaw20_FrontAlways.r18, F_muntinlaw20_FrontAlways.r19, F_muntinlaw20_FrontAlways.r20, F_muntinlaw20_FrontAlways.r21, F_muntinlaw20_FrontAlways.r22, F_muntinlaw20_FrontAlways.r23, F_muntinlaw20_FrontAlways.r24, F_muntinlaw20_FrontAlways.r25, F_muntinlaw20_FrontAlways.r26, F_muntinlaw20_FrontAlways.r27, F_muntinlaw20_FrontAlways.r28, F_muntinlaw20_FrontAlways.code, h3, h4, h41, h42, h43, hd]
  refine W_rounds (fun (t : List Int) fr k' => ∃ u, fr 3 = u ∧ fr 4 = .n (pre t t.length) ∧ SlN eInt h.n k' u t ∧ Ext h.n h k' ∧ (∀ j, -2 ≤ gi t j ∧ gi t j ≤ 1) ∧ (t.length : Int) + pre t t.length ≤ 150 ∧ (-4 ≤ pre t t.length) ∧ pre t t.length % 2 = 0) (fun t => (pre t t.length + 4).toNat) (s := t) ?_ ?_
  · exact ⟨u, by simp [Fr.set, h3], by simp [Fr.set, h4, h4'], hu, he, hbt, by omega, by omega, by omega⟩
  clear hu he hbt hlt hpt hs4 hd h3 h4 h41 h42 h43 h4' hj hjl
  rintro t fr k' ⟨u, h3, h4, hu, he, hbt, hlt, hpt, hpe⟩
  by_cases hs4 : -4 < pre t t.length
  · have hd : decide (-4 < pre t t.length) = true := by simp; omega
    have hple := pre_le hbt t.length
    simp (disch := first | omega | decide) only [here_eq, W_seq, W_region, W_block, W_skip, W_exit, W_ret, W_cond', WB_b, WO_cons, WO_wait, WO_nil, WS, W_draw0, W_draw1, numb_nil, numb_cons, WD_cons, WD_wait, WD_nil, WDS, List.length_cons, List.length_nil, Hp.bump_n, Nat.zero_add,  WA_some, WA_none, Ex.then_normal, Ex.then_exit, Ex.then_ret, Ex.blk_normal, Ex.blk_exit, Ex.blk_ret, wantB_is, V.is_b, Fr.put_some, Fr.put_none, Fr.set_at, Fr.ev_t, Fr.ev_c, Fr.start_at, Hp.puts_nil, Hp.puts_cons, opt_some, opt_none, pickV_b, convV_i, extV_tu, act_mv, act_cst, act_pick, act_alloc, act_box, act_bin, act_un, act_conv, act_eq, act_ixa, act_ld, act_len, act_ext, act_clo, act_fa, act_app, act_bsl, act_slc, act_mn, act_mx, mnV_i, mxV_i, Hp.put_new, Option.map_some, Option.map_none, eInt_sz, eInt_c, eI8_sz, eI8_c, eV_sz, eV_c, evs_nil, evs_cons, bsl_i1, bsl_i2, bsl_i3, bsl_i4, bsl_i6, bsl_i12, bin_add, bin_sub, bin_rem, bin_lss, bin_leq, bin_gtr, bin_geq, eqV_sc, eqV_bl, un_not, un_neg, Ret, resOfs, resOf, resV, List.map_cons, List.map_nil, List.cons_append, List.nil_append, List.append_nil, List.getElem?_cons_zero, List.getElem?_cons_succ, List.getElem?_nil, Option.getD_some, Option.getD_none, ↓reduceIte, Nat.reduceEqDiff, Nat.reduceAdd, Nat.zero_ne_one, Nat.one_ne_zero, Nat.succ_ne_zero, if_true, if_false, Bool.false_eq_true, beq_self_eq_true, Bool.not_true, Bool.not_false, bne_self_eq_false, Bool.true_beq, Bool.false_beq, beq_true, beq_false, F_muntinlaw20_FrontAlways.l4, F_muntinlaw20_FrontAlways, F_muntinlaw20_FrontAlways.r0, F_muntinlaw20_FrontAlways.r1, F_muntinlaw20_FrontAlways.r2, F_muntinlaw20_FrontAlways.r3, F_muntinlaw20_FrontAlways.r4, F_muntinlaw20_FrontAlways.r5, F_muntinlaw20_FrontAlways.r6, F_muntinlaw20_FrontAlways.r7, F_muntinlaw20_FrontAlways.r8, F_muntinlaw20_FrontAlways.r9, F_muntinlaw20_FrontAlways.r10, F_muntinlaw20_FrontAlways.r11, F_muntinlaw20_FrontAlways.r12, F_muntinlaw20_FrontAlways.r13, F_muntinlaw20_FrontAlways.r14, F_muntinlaw20_FrontAlways.r15, F_muntinlaw20_FrontAlways.r16, F_muntinlaw20_FrontAlways.r17, F_muntinlaw20_FrontAlways.r18, F_muntinlaw20_FrontAlways.r19, F_muntinlaw20_FrontAlways.r20, F_muntinlaw20_FrontAlways.r21, F_muntinlaw20_FrontAlways.r22, F_muntinlaw20_FrontAlways.r23, F_muntinlaw20_FrontAlways.r24, F_muntinlaw20_FrontAlways.r25, F_muntinlaw20_FrontAlways.r26, F_muntinlaw20_FrontAlways.r27, F_muntinlaw20_FrontAlways.r28, F_muntinlaw20_FrontAlways.code, h3, h4, hd]
    refine WA_one hu he.1 (by omega) rfl fun v' up ho' he' => ?_
    generalize Hp.puts _ up = k2 at ho' he'
    simp (disch := first | omega | decide) only [here_eq, W_seq, W_region, W_block, W_skip, W_exit, W_ret, W_cond', WB_b, WO_cons, WO_wait, WO_nil, WS, W_draw0, W_draw1, numb_nil, numb_cons, WD_cons, WD_wait, WD_nil, WDS, List.length_cons, List.length_nil, Hp.bump_n, Nat.zero_add,  WA_some, WA_none, Ex.then_normal, Ex.then_exit, Ex.then_ret, Ex.blk_normal, Ex.blk_exit, Ex.blk_ret, wantB_is, V.is_b, Fr.put_some, Fr.put_none, Fr.set_at, Fr.ev_t, Fr.ev_c, Fr.start_at, Hp.puts_nil, Hp.puts_cons, opt_some, opt_none, pickV_b, convV_i, extV_tu, act_mv, act_cst, act_pick, act_alloc, act_box, act_bin, act_un, act_conv, act_eq, act_ixa, act_ld, act_len, act_ext, act_clo, act_fa, act_app, act_bsl, act_slc, act_mn, act_mx, mnV_i, mxV_i, Hp.put_new, Option.map_some, Option.map_none, eInt_sz, eInt_c, eI8_sz, eI8_c, eV_sz, eV_c, evs_nil, evs_cons, bsl_i1, bsl_i2, bsl_i3, bsl_i4, bsl_i6, bsl_i12, bin_add, bin_sub, bin_rem, bin_lss, bin_leq, bin_gtr, bin_geq, eqV_sc, eqV_bl, un_not, un_neg, Ret, resOfs, resOf, resV, List.map_cons, List.map_nil, List.cons_append, List.nil_append, List.append_nil, List.getElem?_cons_zero, List.getElem?_cons_succ, List.getElem?_nil, Option.getD_some, Option.getD_none, ↓reduceIte, Nat.reduceEqDiff, Nat.reduceAdd, Nat.zero_ne_one, Nat.one_ne_zero, Nat.succ_ne_zero, if_true, if_false, Bool.false_eq_true, beq_self_eq_true, Bool.not_true, Bool.not_false, bne_self_eq_false, Bool.true_beq, Bool.false_beq, beq_true, beq_false, F_muntinlaw20_FrontAlways, F_muntinlaw20_FrontAlways.r0, F_muntinlaw20_FrontAlways.r1, F_muntinlaw20_FrontAlways.r2, F_muntinlaw20_FrontAlways.r3, F_muntinlaw20_FrontAlways.r4, F_muntinlaw20_FrontAlways.r5, F_muntinlaw20_FrontAlways.r6, F_muntinlaw20_FrontAlways.r7, F_muntinlaw20_FrontAlways.r8, F_muntinlaw20_FrontAlways.r9, F_muntinlaw20_FrontAlways.r10, F_muntinlaw20_FrontAlways.r11, F_muntinlaw20_FrontAlways.r12, F_muntinlaw20_FrontAlways.r13, F_muntinlaw20_FrontAlways.r14, F_muntinlaw20_FrontAlways.r15, F_muntinlaw20_FrontAlways.r16, F_muntinlaw20_FrontAlways.r17, F_muntinlaw20_FrontAlways.r18, F_muntinlaw20_FrontAlways.r19, F_muntinlaw20_FrontAlways.r20, F_muntinlaw20_FrontAlways.r21, F_muntinlaw20_FrontAlways.r22, F_muntinlaw20_FrontAlways.r23, F_muntinlaw20_FrontAlways.r24, F_muntinlaw20_FrontAlways.r25, F_muntinlaw20_FrontAlways.r26, F_muntinlaw20_FrontAlways.r27, F_muntinlaw20_FrontAlways.r28, F_muntinlaw20_FrontAlways.code, h3, h4]
    refine ⟨t ++ [-2], ?_, v', rfl, ?_, ho', he.trans he' (Nat.le_refl _), gi_snoc hbt (by omega), ?_, ?_, ?_⟩
    all_goals rw [pre_snoc]
    all_goals try simp only [List.length_append, List.length_singleton]
    all_goals first | rfl | omega
  have hd : decide (-4 < pre t t.length) = false := by simp; omega
  obtain ⟨i, a1, a2, a3, a4⟩ := open_some hbt (by omega)
  have b1 : decide ((i : Int) < 0) = false := decide_eq_false (by omega)
  have b2 : decide ((t.length : Int) ≤ i) = false := decide_eq_false (by omega)
  have b3 : decide (0 ≤ gi t i) = false := decide_eq_false (by omega)
  have b4 : on0 (some i) = i := rfl
  obtain ⟨wv, wk, wc, rfl, we⟩ := S_wakes20 (h := k')
  simp (disch := first | omega | decide) only [here_eq, W_seq, W_region, W_block, W_skip, W_exit, W_ret, W_cond', WB_b, WO_cons, WO_wait, WO_nil, WS, W_draw0, W_draw1, numb_nil, numb_cons, WD_cons, WD_wait, WD_nil, WDS, List.length_cons, List.length_nil, Hp.bump_n, Nat.zero_add,  WA_some, WA_none, Ex.then_normal, Ex.then_exit, Ex.then_ret, Ex.blk_normal, Ex.blk_exit, Ex.blk_ret, wantB_is, V.is_b, Fr.put_some, Fr.put_none, Fr.set_at, Fr.ev_t, Fr.ev_c, Fr.start_at, Hp.puts_nil, Hp.puts_cons, opt_some, opt_none, pickV_b, convV_i, extV_tu, act_mv, act_cst, act_pick, act_alloc, act_box, act_bin, act_un, act_conv, act_eq, act_ixa, act_ld, act_len, act_ext, act_clo, act_fa, act_app, act_bsl, act_slc, act_mn, act_mx, mnV_i, mxV_i, Hp.put_new, Option.map_some, Option.map_none, eInt_sz, eInt_c, eI8_sz, eI8_c, eV_sz, eV_c, evs_nil, evs_cons, bsl_i1, bsl_i2, bsl_i3, bsl_i4, bsl_i6, bsl_i12, bin_add, bin_sub, bin_rem, bin_lss, bin_leq, bin_gtr, bin_geq, eqV_sc, eqV_bl, un_not, un_neg, Ret, resOfs, resOf, resV, List.map_cons, List.map_nil, List.cons_append, List.nil_append, List.append_nil, List.getElem?_cons_zero, List.getElem?_cons_succ, List.getElem?_nil, Option.getD_some, Option.getD_none, ↓reduceIte, Nat.reduceEqDiff, Nat.reduceAdd, Nat.zero_ne_one, Nat.one_ne_zero, Nat.succ_ne_zero, if_true, if_false, Bool.false_eq_true, beq_self_eq_true, Bool.not_true, Bool.not_false, bne_self_eq_false, Bool.true_beq, Bool.false_beq, beq_true, beq_false, F_muntinlaw20_FrontAlways.l4, F_muntinlaw20_FrontAlways, F_muntinlaw20_FrontAlways.r0, F_muntinlaw20_FrontAlways.r1, F_muntinlaw20_FrontAlways.r2, F_muntinlaw20_FrontAlways.r3, F_muntinlaw20_FrontAlways.r4, F_muntinlaw20_FrontAlways.r5, F_muntinlaw20_FrontAlways.r6, F_muntinlaw20_FrontAlways.r7, F_muntinlaw20_FrontAlways.r8, F_muntinlaw20_FrontAlways.r9, F_muntinlaw20_FrontAlways.r10, F_muntinlaw20_FrontAlways.r11, F_muntinlaw20_FrontAlways.r12, F_muntinlaw20_FrontAlways.r13, F_muntinlaw20_FrontAlways.r14, F_muntinlaw20_FrontAlways.r15, F_muntinlaw20_FrontAlways.r16, F_muntinlaw20_FrontAlways.r17, F_muntinlaw20_FrontAlways.r18, F_muntinlaw20_FrontAlways.r19, F_muntinlaw20_FrontAlways.r20, F_muntinlaw20_FrontAlways.r21, F_muntinlaw20_FrontAlways.r22, F_muntinlaw20_FrontAlways.r23, F_muntinlaw20_FrontAlways.r24, F_muntinlaw20_FrontAlways.r25, F_muntinlaw20_FrontAlways.r26, F_muntinlaw20_FrontAlways.r27, F_muntinlaw20_FrontAlways.r28, F_muntinlaw20_FrontAlways.code, h3, h4, hd, (S_front_Open hu.to (by omega)) _, (S_front_Of hu.to (by omega)) _, a1, a4, b1, b2, b3, b4, hu.to.at, hu.to.ld, hu.to.len, Int.toNat_natCast, Option.isSome_some, Option.isSome_none, wc _]
end Mu
