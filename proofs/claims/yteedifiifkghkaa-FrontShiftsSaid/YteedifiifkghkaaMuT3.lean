/- Turns that are turned round, and a 0 between. -/
import Derived.Test.YteedifiifkghkaaMuT2
set_option linter.unusedSimpArgs false
namespace Mu
open Go (IntKind BinOp UnOp)

/-- From another one on. -/
def rot (t : List Int) (k : Nat) : List Int := t.drop k ++ t.take k
theorem rot_length {t : List Int} {k : Nat} : (rot t k).length = t.length := by simp [rot]; omega
theorem gi_rot {t : List Int} {k j : Nat} (hk : k < t.length) (hj : j < t.length) : gi (rot t k) j = gi t ((j + k) % t.length) := by
  rw [gi_eq (by rw [rot_length]; exact hj), gi_eq (Nat.mod_lt _ (by omega))]
  simp only [rot, List.getElem_append, List.length_drop, List.getElem_drop, List.getElem_take]
  by_cases h : j < t.length - k
  · rw [dif_pos h]
    congr 1
    rw [Nat.mod_eq_of_lt (by omega)]
    omega
  · rw [dif_neg h]
    congr 1
    rw [Nat.mod_eq_sub_mod (by omega), Nat.mod_eq_of_lt (by omega)]
    omega
theorem sums_rot {t : List Int} {k i a : Nat} (hk : k < t.length) (ha : (a + k) % t.length = i) : ∀ c, sums (rot t k) a c = sums t i c
  | 0 => rfl
  | c + 1 => by
    rw [sums, sums, sums_rot hk ha c, rot_length, gi_rot hk (Nat.mod_lt _ (by omega))]
    congr 2
    rw [← ha]
    simp only [Nat.mod_add_mod]
    congr 1
    omega
theorem find1_rot {t : List Int} {k i a : Nat} (hk : k < t.length) (ha : (a + k) % t.length = i) : ∀ n c, (find1 (rot t k) a n c).isSome = (find1 t i n c).isSome ∧ ∀ g, find1 (rot t k) a n c = some g → find1 t i n c = some ((g + k) % t.length)
  | 0, c => by simp [find1]
  | n + 1, c => by
    rw [find1, find1, sums_rot hk ha, rot_length]
    split
    · refine ⟨rfl, fun g hg => ?_⟩
      simp only [Option.some.injEq] at hg ⊢
      rw [← hg, ← ha]
      simp only [Nat.mod_add_mod]
      rw [Nat.add_assoc, Nat.mod_add_mod]
      congr 1
      omega
    · exact find1_rot hk ha n (c + 1)
theorem rot_good {t : List Int} {k : Nat} (h : t.any bad = false) : (rot t k).any bad = false := by
  rw [List.any_eq_false] at h ⊢
  intro x hx
  refine h x ?_
  simp only [rot, List.mem_append] at hx
  rcases hx with hx | hx
  · exact List.mem_of_mem_drop hx
  · exact List.mem_of_mem_take hx
theorem front_rot {t : List Int} {k i a : Nat} (hg : t.any bad = false) (hk : k < t.length) (ha' : a < t.length) (ha : (a + k) % t.length = i) : (front (rot t k) a).isSome = (front t i).isSome ∧ ∀ g, front (rot t k) a = some g → front t i = some ((g + k) % t.length) := by
  have hi : i < t.length := by rw [← ha]; exact Nat.mod_lt _ (by omega)
  unfold front
  rw [rot_good hg, hg, rot_length]
  have b1 : decide ((a : Int) < 0) = false := decide_eq_false (by omega)
  have b2 : decide ((i : Int) < 0) = false := decide_eq_false (by omega)
  have b3 : decide ((t.length : Int) ≤ a) = false := decide_eq_false (by omega)
  have b4 : decide ((t.length : Int) ≤ i) = false := decide_eq_false (by omega)
  simp only [b1, b2, b3, b4, Bool.false_eq_true, if_false, Int.toNat_natCast]
  have e1 : gi (rot t k) a = gi t i := by rw [gi_rot hk ha', ha]
  simp only [e1]
  split
  · simp
  · exact find1_rot hk ha _ _

/-- With a 0 behind one. -/
def flat (t : List Int) (i : Nat) : List Int := t.take (i + 1) ++ [0] ++ t.drop (i + 1)
theorem flat_length' {t : List Int} {i : Nat} (hi : i < t.length) : (flat t i).length = t.length + 1 := by simp [flat]; omega
theorem gi_flat {t : List Int} {i j : Nat} (hi : i < t.length) (hj : j < t.length + 1) : gi (flat t i) j = if j ≤ i then gi t j else if j = i + 1 then 0 else gi t (j - 1) := by
  rw [gi_eq (by rw [flat_length' hi]; exact hj)]
  simp only [flat, List.getElem_append, List.length_append, List.length_take, List.length_singleton, List.getElem_take, List.getElem_drop]
  have hm : min (i + 1) t.length = i + 1 := by omega
  simp only [hm]
  by_cases h1 : j ≤ i
  · rw [if_pos h1, dif_pos (by omega), dif_pos (by omega), gi_eq (by omega)]
  · by_cases h2 : j = i + 1
    · subst h2
      rw [if_neg h1, if_pos rfl, dif_pos (by omega), dif_neg (by omega)]
      simp
    · rw [if_neg h1, if_neg h2, dif_neg (by omega), gi_eq (by omega)]
      congr 1
      omega
theorem flat_good {t : List Int} {i : Nat} (h : t.any bad = false) : (flat t i).any bad = false := by
  rw [List.any_eq_false] at h ⊢
  intro x hx
  simp only [flat, List.mem_append, List.mem_singleton] at hx
  rcases hx with (hx | hx) | hx
  · exact h x (List.mem_of_mem_take hx)
  · subst hx
    simp [bad]
  · exact h x (List.mem_of_mem_drop hx)
theorem sums_flat {t : List Int} {i : Nat} (hi : i < t.length) : ∀ c, 0 < c → c ≤ t.length → sums (flat t i) i (c + 1) = sums t i c
  | 0, h, _ => by omega
  | 1, _, _ => by
    simp only [sums, flat_length' hi, Nat.add_zero]
    rw [Nat.mod_eq_of_lt (show i < t.length + 1 by omega), Nat.mod_eq_of_lt (show i + 1 < t.length + 1 by omega), gi_flat hi (by omega), gi_flat hi (by omega), if_pos (Nat.le_refl _), if_neg (by omega), if_pos rfl, Nat.mod_eq_of_lt hi]
    omega
  | c + 2, _, h => by
    rw [sums, sums_flat hi (c + 1) (by omega) (by omega), sums.eq_2 t i (c + 1), flat_length' hi]
    congr 1
    by_cases h1 : i + (c + 1) < t.length
    · rw [Nat.mod_eq_of_lt (show i + (c + 1 + 1) < t.length + 1 by omega), Nat.mod_eq_of_lt h1, gi_flat hi (by omega), if_neg (by omega), if_neg (by omega)]
      congr 1
    · rw [Nat.mod_eq_sub_mod (show t.length + 1 ≤ i + (c + 1 + 1) by omega), Nat.mod_eq_of_lt (show i + (c + 1 + 1) - (t.length + 1) < t.length + 1 by omega), Nat.mod_eq_sub_mod (show t.length ≤ i + (c + 1) by omega), Nat.mod_eq_of_lt (show i + (c + 1) - t.length < t.length by omega), gi_flat hi (by omega), if_pos (by omega)]
      congr 1
      omega
def past (i f : Nat) : Nat := if i < f then f + 1 else f
theorem find1_flat {t : List Int} {i : Nat} (hi : i < t.length) (h1 : sums t i 1 ≠ 1) : ∀ n c, c + n ≤ t.length → find1 (flat t i) i n (c + 1) = (find1 t i n c).map (past i)
  | 0, c, _ => rfl
  | n + 1, c, h => by
    rw [find1, find1, sums_flat hi (c + 1) (by omega) (by omega), flat_length' hi]
    split
    · rename_i hx
      have hc : c ≠ 0 := by
        rintro rfl
        exact h1 (by simpa using hx)
      simp only [Option.map_some, Option.some.injEq, past]
      by_cases h2 : i + c + 1 < t.length
      · rw [Nat.mod_eq_of_lt h2, Nat.mod_eq_of_lt (show i + (c + 1) + 1 < t.length + 1 by omega), if_pos (by omega)]
        omega
      · rw [Nat.mod_eq_sub_mod (show t.length ≤ i + c + 1 by omega), Nat.mod_eq_of_lt (show i + c + 1 - t.length < t.length by omega), Nat.mod_eq_sub_mod (show t.length + 1 ≤ i + (c + 1) + 1 by omega), Nat.mod_eq_of_lt (show i + (c + 1) + 1 - (t.length + 1) < t.length + 1 by omega), if_neg (by omega)]
        omega
    · exact find1_flat hi h1 n (c + 1) (by omega)
theorem front_flat {t : List Int} {i : Nat} (hg : t.any bad = false) (hi : i < t.length) : front (flat t i) i = (front t i).map (past i) := by
  unfold front
  rw [flat_good hg, hg, flat_length' hi]
  have b1 : decide ((i : Int) < 0) = false := decide_eq_false (by omega)
  have b3 : decide (((t.length + 1 : Nat) : Int) ≤ i) = false := decide_eq_false (by omega)
  have b4 : decide ((t.length : Int) ≤ i) = false := decide_eq_false (by omega)
  simp only [b1, b3, b4, Bool.false_eq_true, if_false, Int.toNat_natCast]
  have e1 : gi (flat t i) i = gi t i := by rw [gi_flat hi (by omega), if_pos (Nat.le_refl _)]
  simp only [e1]
  split
  · rfl
  · rename_i hn
    have hn' : gi t i < 0 := by simpa using hn
    have h1 : sums t i 1 ≠ 1 := by
      simp only [sums, Nat.add_zero, Nat.mod_eq_of_lt hi]
      omega
    have h1' : sums (flat t i) i (0 + 1) ≠ 1 := by
      simp only [sums, flat_length' hi, Nat.add_zero, Nat.zero_add]
      rw [Nat.mod_eq_of_lt (by omega), gi_flat hi (by omega), if_pos (Nat.le_refl _)]
      omega
    rw [find1, if_neg (by simpa using h1'), find1_flat hi h1 _ _ (by omega)]

theorem front_neg {t : List Int} {i f : Nat} (h : front t i = some f) : gi t i < 0 := by
  unfold front at h
  split at h
  · cases h
  · split at h
    · cases h
    · split at h
      · cases h
      · split at h
        · cases h
        · rename_i hx
          simpa using hx
theorem SlN.refs {α : Type} {E : Enc α} {b : Nat} {h : Hp} {v : V} {l : List α} (hs : SlN E b h v l) : ∀ x y, ∀ r ∈ refs (v.cut x y), r < h.n := by
  intro x y r hr
  cases hs with
  | nil => simp [V.cut, Mu.refs] at hr
  | sl hb hm hl hc hn he =>
    simp [V.cut, Mu.refs] at hr
    subst hr
    exact Hp.lt hm

theorem front_lt {t : List Int} {i : Int} {f : Nat} (h : front t i = some f) : f < t.length := by
  unfold front at h
  split at h
  · cases h
  · split at h
    · cases h
    · split at h
      · cases h
      · rename_i h1 h2
        split at h
        · cases h
        · exact find1_lt (by simp at h1 h2; omega) _ _ h

theorem S_FrontShifts {h : Hp} {v : V} {l : List Int} {a1 a2 : Int} (hs : Sl eI8 h v l) (hr : ∀ x ∈ l, -128 ≤ x ∧ x ≤ 127) (ha1 : 0 ≤ a1 ∧ a1 ≤ 255) (ha2 : 0 ≤ a2 ∧ a2 ≤ 255) : WC G 2 [v, .i .u8 a1, .i .u8 a2] h fun u _ => u = .b true := by
  refine WC_of G_F_muntinlaw20_FrontShifts ?_
  obtain ⟨v1, k1, c1, o1, e1⟩ := S_turns (odd := false) hs hr
  have hb1 := gi_turns l
  have hl1 : (turnsL l false).length ≤ 30 := by simp [turnsL]; omega
  generalize turnsL l false = tl at o1 hb1 hl1
  have w1 : IntKind.i64.wrap a1 = a1 := wrap64 (by omega) (by omega)
  have w2 : IntKind.i64.wrap a2 = a2 := wrap64 (by omega) (by omega)
  rcases Bool.eq_false_or_eq_true ((tl.length : Int) == 0) with hz | hz
  · obtain ⟨wv, wk, wc, rfl, we⟩ := S_wakes20 (h := k1)
    simp (disch := first | omega | decide) only [here_eq, W_seq, W_region, W_block, W_skip, W_exit, W_ret, W_cond', WB_b, WO_cons, WO_wait, WO_nil, WS, W_draw0, W_draw1, numb_nil, numb_cons, WD_cons, WD_wait, WD_nil, WDS, List.length_cons, List.length_nil, Hp.bump_n, Nat.zero_add,  WA_some, WA_none, Ex.then_normal, Ex.then_exit, Ex.then_ret, Ex.blk_normal, Ex.blk_exit, Ex.blk_ret, wantB_is, V.is_b, Fr.put_some, Fr.put_none, Fr.set_at, Fr.ev_t, Fr.ev_c, Fr.start_at, Hp.puts_nil, Hp.puts_cons, opt_some, opt_none, pickV_b, convV_i, extV_tu, act_mv, act_cst, act_pick, act_alloc, act_box, act_bin, act_un, act_conv, act_eq, act_ixa, act_ld, act_len, act_ext, act_clo, act_fa, act_app, act_bsl, act_slc, act_mn, act_mx, mnV_i, mxV_i, Hp.put_new, Option.map_some, Option.map_none, eInt_sz, eInt_c, eI8_sz, eI8_c, eV_sz, eV_c, evs_nil, evs_cons, bsl_i1, bsl_i2, bsl_i3, bsl_i4, bsl_i6, bsl_i12, bin_add, bin_sub, bin_rem, bin_lss, bin_leq, bin_gtr, bin_geq, eqV_sc, eqV_bl, un_not, un_neg, Ret, resOfs, resOf, resV, List.map_cons, List.map_nil, List.cons_append, List.nil_append, List.append_nil, List.getElem?_cons_zero, List.getElem?_cons_succ, List.getElem?_nil, Option.getD_some, Option.getD_none, ↓reduceIte, Nat.reduceEqDiff, Nat.reduceAdd, Nat.zero_ne_one, Nat.one_ne_zero, Nat.succ_ne_zero, if_true, if_false, Bool.false_eq_true, beq_self_eq_true, Bool.not_true, Bool.not_false, bne_self_eq_false, Bool.true_beq, Bool.false_beq, beq_true, beq_false, F_muntinlaw20_FrontShifts, F_muntinlaw20_FrontShifts.r0, F_muntinlaw20_FrontShifts.r1, F_muntinlaw20_FrontShifts.r2, F_muntinlaw20_FrontShifts.r3, F_muntinlaw20_FrontShifts.r4, F_muntinlaw20_FrontShifts.r5, F_muntinlaw20_FrontShifts.r6, F_muntinlaw20_FrontShifts.r7, F_muntinlaw20_FrontShifts.r8, F_muntinlaw20_FrontShifts.r9, F_muntinlaw20_FrontShifts.r10, F_muntinlaw20_FrontShifts.r11, F_muntinlaw20_FrontShifts.r12, F_muntinlaw20_FrontShifts.r13, F_muntinlaw20_FrontShifts.r14, F_muntinlaw20_FrontShifts.r15, F_muntinlaw20_FrontShifts.r16, F_muntinlaw20_FrontShifts.r17, F_muntinlaw20_FrontShifts.code, c1 _, o1.to.len, hz, wc _]
  have hz' : 0 < tl.length := by
    have : ¬((tl.length : Int) = 0) := by simpa using hz
    omega
  obtain ⟨i, hi⟩ : ∃ i : Nat, a1 % tl.length = i := ⟨(a1 % tl.length).toNat, by have := Int.emod_nonneg a1 (show (tl.length : Int) ≠ 0 by omega); omega⟩
  obtain ⟨m, hm⟩ : ∃ i : Nat, a2 % tl.length = i := ⟨(a2 % tl.length).toNat, by have := Int.emod_nonneg a2 (show (tl.length : Int) ≠ 0 by omega); omega⟩
  have hil : i < tl.length := by have := Int.emod_lt_of_pos a1 (show (0 : Int) < tl.length by omega); omega
  have hml : m < tl.length := by have := Int.emod_lt_of_pos a2 (show (0 : Int) < tl.length by omega); omega
  simp (disch := first | omega | decide) only [here_eq, W_seq, W_region, W_block, W_skip, W_exit, W_ret, W_cond', WB_b, WO_cons, WO_wait, WO_nil, WS, W_draw0, W_draw1, numb_nil, numb_cons, WD_cons, WD_wait, WD_nil, WDS, List.length_cons, List.length_nil, Hp.bump_n, Nat.zero_add,  WA_some, WA_none, Ex.then_normal, Ex.then_exit, Ex.then_ret, Ex.blk_normal, Ex.blk_exit, Ex.blk_ret, wantB_is, V.is_b, Fr.put_some, Fr.put_none, Fr.set_at, Fr.ev_t, Fr.ev_c, Fr.start_at, Hp.puts_nil, Hp.puts_cons, opt_some, opt_none, pickV_b, convV_i, extV_tu, act_mv, act_cst, act_pick, act_alloc, act_box, act_bin, act_un, act_conv, act_eq, act_ixa, act_ld, act_len, act_ext, act_clo, act_fa, act_app, act_bsl, act_slc, act_mn, act_mx, mnV_i, mxV_i, Hp.put_new, Option.map_some, Option.map_none, eInt_sz, eInt_c, eI8_sz, eI8_c, eV_sz, eV_c, evs_nil, evs_cons, bsl_i1, bsl_i2, bsl_i3, bsl_i4, bsl_i6, bsl_i12, bin_add, bin_sub, bin_rem, bin_lss, bin_leq, bin_gtr, bin_geq, eqV_sc, eqV_bl, un_not, un_neg, Ret, resOfs, resOf, resV, List.map_cons, List.map_nil, List.cons_append, List.nil_append, List.append_nil, List.getElem?_cons_zero, List.getElem?_cons_succ, List.getElem?_nil, Option.getD_some, Option.getD_none, ↓reduceIte, Nat.reduceEqDiff, Nat.reduceAdd, Nat.zero_ne_one, Nat.one_ne_zero, Nat.succ_ne_zero, if_true, if_false, Bool.false_eq_true, beq_self_eq_true, Bool.not_true, Bool.not_false, bne_self_eq_false, Bool.true_beq, Bool.false_beq, beq_true, beq_false, F_muntinlaw20_FrontShifts, F_muntinlaw20_FrontShifts.r0, F_muntinlaw20_FrontShifts.r1, F_muntinlaw20_FrontShifts.r2, F_muntinlaw20_FrontShifts.r3, F_muntinlaw20_FrontShifts.r4, F_muntinlaw20_FrontShifts.r5, F_muntinlaw20_FrontShifts.r6, F_muntinlaw20_FrontShifts.r7, F_muntinlaw20_FrontShifts.r8, F_muntinlaw20_FrontShifts.r9, F_muntinlaw20_FrontShifts.r10, F_muntinlaw20_FrontShifts.r11, F_muntinlaw20_FrontShifts.r12, F_muntinlaw20_FrontShifts.r13, F_muntinlaw20_FrontShifts.r14, F_muntinlaw20_FrontShifts.r15, F_muntinlaw20_FrontShifts.r16, F_muntinlaw20_FrontShifts.r17, F_muntinlaw20_FrontShifts.code, c1 _, o1.to.len, hz, w1, w2, hi, hm, (S_front_Of o1.to (by omega)) _, o1.to.from, o1.to.upto, Int.toNat_natCast]
  have o2 := o1.ext (Ext.bump (k := 12))
  have e2 := e1.trans (Ext.bump (n := h.n) (k := 12)) (Nat.le_refl _)
  generalize k1.bump 12 = k2 at o2 e2
  have eA := S_front_Of o2.to (i := (i : Int)) (by omega)
  have fM := o2.to.from (k := .i64) (z := (m : Int)) (by omega) (by omega)
  have uM := o2.to.upto (k := .i64) (z := (m : Int)) (by omega) (by omega)
  simp only [Int.toNat_natCast] at fM uM
  simp (disch := first | omega | decide) only [here_eq, W_seq, W_region, W_block, W_skip, W_exit, W_ret, W_cond', WB_b, WO_cons, WO_wait, WO_nil, WS, W_draw0, W_draw1, numb_nil, numb_cons, WD_cons, WD_wait, WD_nil, WDS, List.length_cons, List.length_nil, Hp.bump_n, Nat.zero_add,  WA_some, WA_none, Ex.then_normal, Ex.then_exit, Ex.then_ret, Ex.blk_normal, Ex.blk_exit, Ex.blk_ret, wantB_is, V.is_b, Fr.put_some, Fr.put_none, Fr.set_at, Fr.ev_t, Fr.ev_c, Fr.start_at, Hp.puts_nil, Hp.puts_cons, opt_some, opt_none, pickV_b, convV_i, extV_tu, act_mv, act_cst, act_pick, act_alloc, act_box, act_bin, act_un, act_conv, act_eq, act_ixa, act_ld, act_len, act_ext, act_clo, act_fa, act_app, act_bsl, act_slc, act_mn, act_mx, mnV_i, mxV_i, Hp.put_new, Option.map_some, Option.map_none, eInt_sz, eInt_c, eI8_sz, eI8_c, eV_sz, eV_c, evs_nil, evs_cons, bsl_i1, bsl_i2, bsl_i3, bsl_i4, bsl_i6, bsl_i12, bin_add, bin_sub, bin_rem, bin_lss, bin_leq, bin_gtr, bin_geq, eqV_sc, eqV_bl, un_not, un_neg, Ret, resOfs, resOf, resV, List.map_cons, List.map_nil, List.cons_append, List.nil_append, List.append_nil, List.getElem?_cons_zero, List.getElem?_cons_succ, List.getElem?_nil, Option.getD_some, Option.getD_none, ↓reduceIte, Nat.reduceEqDiff, Nat.reduceAdd, Nat.zero_ne_one, Nat.one_ne_zero, Nat.succ_ne_zero, if_true, if_false, Bool.false_eq_true, beq_self_eq_true, Bool.not_true, Bool.not_false, bne_self_eq_false, Bool.true_beq, Bool.false_beq, beq_true, beq_false, F_muntinlaw20_FrontShifts, F_muntinlaw20_FrontShifts.r0, F_muntinlaw20_FrontShifts.r1, F_muntinlaw20_FrontShifts.r2, F_muntinlaw20_FrontShifts.r3, F_muntinlaw20_FrontShifts.r4, F_muntinlaw20_FrontShifts.r5, F_muntinlaw20_FrontShifts.r6, F_muntinlaw20_FrontShifts.r7, F_muntinlaw20_FrontShifts.r8, F_muntinlaw20_FrontShifts.r9, F_muntinlaw20_FrontShifts.r10, F_muntinlaw20_FrontShifts.r11, F_muntinlaw20_FrontShifts.r12, F_muntinlaw20_FrontShifts.r13, F_muntinlaw20_FrontShifts.r14, F_muntinlaw20_FrontShifts.r15, F_muntinlaw20_FrontShifts.r16, F_muntinlaw20_FrontShifts.r17, F_muntinlaw20_FrontShifts.code, eA _, fM, uM, Int.toNat_natCast]
  have p1 := o2.ext (Ext.bump (k := 9))
  have q1 := e2.trans (Ext.bump (n := h.n) (k := 9)) (Nat.le_refl _)
  have cM := p1.to.cut (a := m) (b := tl.length) (by omega) (Nat.le_refl _)
  refine WA_app' (E := eInt) (b := k2.n) (l := []) .nil (bump_new) cM (by omega) (fun _ => rfl) (by simp; omega) fun v2 up2 o3 e3 f3 => ?_
  have f3' := f3 (k2.n + 7) (by omega) bump_new
  generalize hk3 : Hp.puts _ up2 = k3 at o3 e3 f3'
  simp (disch := first | omega | decide) only [here_eq, W_seq, W_region, W_block, W_skip, W_exit, W_ret, W_cond', WB_b, WO_cons, WO_wait, WO_nil, WS, W_draw0, W_draw1, numb_nil, numb_cons, WD_cons, WD_wait, WD_nil, WDS, List.length_cons, List.length_nil, Hp.bump_n, Nat.zero_add,  WA_some, WA_none, Ex.then_normal, Ex.then_exit, Ex.then_ret, Ex.blk_normal, Ex.blk_exit, Ex.blk_ret, wantB_is, V.is_b, Fr.put_some, Fr.put_none, Fr.set_at, Fr.ev_t, Fr.ev_c, Fr.start_at, Hp.puts_nil, Hp.puts_cons, opt_some, opt_none, pickV_b, convV_i, extV_tu, act_mv, act_cst, act_pick, act_alloc, act_box, act_bin, act_un, act_conv, act_eq, act_ixa, act_ld, act_len, act_ext, act_clo, act_fa, act_app, act_bsl, act_slc, act_mn, act_mx, mnV_i, mxV_i, Hp.put_new, Option.map_some, Option.map_none, eInt_sz, eInt_c, eI8_sz, eI8_c, eV_sz, eV_c, evs_nil, evs_cons, bsl_i1, bsl_i2, bsl_i3, bsl_i4, bsl_i6, bsl_i12, bin_add, bin_sub, bin_rem, bin_lss, bin_leq, bin_gtr, bin_geq, eqV_sc, eqV_bl, un_not, un_neg, Ret, resOfs, resOf, resV, List.map_cons, List.map_nil, List.cons_append, List.nil_append, List.append_nil, List.getElem?_cons_zero, List.getElem?_cons_succ, List.getElem?_nil, Option.getD_some, Option.getD_none, ↓reduceIte, Nat.reduceEqDiff, Nat.reduceAdd, Nat.zero_ne_one, Nat.one_ne_zero, Nat.succ_ne_zero, if_true, if_false, Bool.false_eq_true, beq_self_eq_true, Bool.not_true, Bool.not_false, bne_self_eq_false, Bool.true_beq, Bool.false_beq, beq_true, beq_false, F_muntinlaw20_FrontShifts, F_muntinlaw20_FrontShifts.r0, F_muntinlaw20_FrontShifts.r1, F_muntinlaw20_FrontShifts.r2, F_muntinlaw20_FrontShifts.r3, F_muntinlaw20_FrontShifts.r4, F_muntinlaw20_FrontShifts.r5, F_muntinlaw20_FrontShifts.r6, F_muntinlaw20_FrontShifts.r7, F_muntinlaw20_FrontShifts.r8, F_muntinlaw20_FrontShifts.r9, F_muntinlaw20_FrontShifts.r10, F_muntinlaw20_FrontShifts.r11, F_muntinlaw20_FrontShifts.r12, F_muntinlaw20_FrontShifts.r13, F_muntinlaw20_FrontShifts.r14, F_muntinlaw20_FrontShifts.r15, F_muntinlaw20_FrontShifts.r16, F_muntinlaw20_FrontShifts.r17, F_muntinlaw20_FrontShifts.code, fM, uM, hk3, Int.toNat_natCast]
  have e3' := (Ext.bump (n := k2.n) (h := k2) (k := 9)).trans e3 (Nat.le_refl _)
  have p2 := o2.ext e3'
  have cU := p2.to.cut (a := 0) (b := m) (by omega) (by omega)
  refine WA_app (E := eInt) (b := k2.n) o3 f3' cU (by omega) (fun _ => rfl) (by simp; omega) fun v3 up3 o4 e4 => ?_
  generalize hk4 : Hp.puts _ up3 = k4 at o4 e4
  have e4' := e3'.trans e4 (Nat.le_refl _)
  have p3 := o2.ext e4'
  have q3 := e2.trans e4' e2.1
  have hrot : [] ++ (tl.drop m).take (tl.length - m) ++ (tl.drop 0).take (m - 0) = rot tl m := by
    simp only [List.nil_append, List.drop_zero, Nat.sub_zero, rot]
    congr 1
    rw [List.take_of_length_le (by simp)]
  rw [hrot] at o4
  have lrot := rot_length (t := tl) (k := m)
  obtain ⟨a, ha⟩ : ∃ a : Nat, ((i : Int) - m + tl.length) % tl.length = a := ⟨(((i : Int) - m + tl.length) % tl.length).toNat, by have := Int.emod_nonneg ((i : Int) - m + tl.length) (show (tl.length : Int) ≠ 0 by omega); omega⟩
  have hal : a < tl.length := by have := Int.emod_lt_of_pos ((i : Int) - m + tl.length) (show (0 : Int) < tl.length by omega); omega
  have ham : (a + m) % tl.length = i := by
    have h1 : ((a : Int) + m) % tl.length = (i : Int) % tl.length := by
      rw [← ha, Int.emod_add_emod]
      rw [show (i : Int) - m + tl.length + m = i + tl.length by omega, Int.add_emod_right]
    rw [Int.emod_eq_of_lt (show (0 : Int) ≤ i by omega) (by omega)] at h1
    exact_mod_cast h1
  have eB := S_front_Of o4.to (i := (a : Int)) (by omega)
  have hfr := front_rot (good_of hb1) hml hal ham
  have hfl := front_flat (good_of hb1) hil
  have lfl := flat_length' hil
  have i1 : slcV eInt.sz v1 none (some (.i .i64 ((i : Int) + 1))) = some (v1.cut 0 (i + 1)) := p3.to.upto (by omega) (by omega)
  have i2 : slcV eInt.sz v1 (some (.i .i64 ((i : Int) + 1))) none = some (v1.cut (i + 1) tl.length) := p3.to.from (by omega) (by omega)
  cases hf : front tl i with
  | none =>
    have hg : front (rot tl m) a = none := by
      have := hfr.1
      rw [hf] at this
      simpa using this
    rw [hf] at hfl
    have f0 : on0 none = 0 := rfl
    simp (disch := first | omega | decide) only [here_eq, W_seq, W_region, W_block, W_skip, W_exit, W_ret, W_cond', WB_b, WO_cons, WO_wait, WO_nil, WS, W_draw0, W_draw1, numb_nil, numb_cons, WD_cons, WD_wait, WD_nil, WDS, List.length_cons, List.length_nil, Hp.bump_n, Nat.zero_add,  WA_some, WA_none, Ex.then_normal, Ex.then_exit, Ex.then_ret, Ex.blk_normal, Ex.blk_exit, Ex.blk_ret, wantB_is, V.is_b, Fr.put_some, Fr.put_none, Fr.set_at, Fr.ev_t, Fr.ev_c, Fr.start_at, Hp.puts_nil, Hp.puts_cons, opt_some, opt_none, pickV_b, convV_i, extV_tu, act_mv, act_cst, act_pick, act_alloc, act_box, act_bin, act_un, act_conv, act_eq, act_ixa, act_ld, act_len, act_ext, act_clo, act_fa, act_app, act_bsl, act_slc, act_mn, act_mx, mnV_i, mxV_i, Hp.put_new, Option.map_some, Option.map_none, eInt_sz, eInt_c, eI8_sz, eI8_c, eV_sz, eV_c, evs_nil, evs_cons, bsl_i1, bsl_i2, bsl_i3, bsl_i4, bsl_i6, bsl_i12, bin_add, bin_sub, bin_rem, bin_lss, bin_leq, bin_gtr, bin_geq, eqV_sc, eqV_bl, un_not, un_neg, Ret, resOfs, resOf, resV, List.map_cons, List.map_nil, List.cons_append, List.nil_append, List.append_nil, List.getElem?_cons_zero, List.getElem?_cons_succ, List.getElem?_nil, Option.getD_some, Option.getD_none, ↓reduceIte, Nat.reduceEqDiff, Nat.reduceAdd, Nat.zero_ne_one, Nat.one_ne_zero, Nat.succ_ne_zero, if_true, if_false, Bool.false_eq_true, beq_self_eq_true, Bool.not_true, Bool.not_false, bne_self_eq_false, Bool.true_beq, Bool.false_beq, beq_true, beq_false, F_muntinlaw20_FrontShifts, F_muntinlaw20_FrontShifts.r0, F_muntinlaw20_FrontShifts.r1, F_muntinlaw20_FrontShifts.r2, F_muntinlaw20_FrontShifts.r3, F_muntinlaw20_FrontShifts.r4, F_muntinlaw20_FrontShifts.r5, F_muntinlaw20_FrontShifts.r6, F_muntinlaw20_FrontShifts.r7, F_muntinlaw20_FrontShifts.r8, F_muntinlaw20_FrontShifts.r9, F_muntinlaw20_FrontShifts.r10, F_muntinlaw20_FrontShifts.r11, F_muntinlaw20_FrontShifts.r12, F_muntinlaw20_FrontShifts.r13, F_muntinlaw20_FrontShifts.r14, F_muntinlaw20_FrontShifts.r15, F_muntinlaw20_FrontShifts.r16, F_muntinlaw20_FrontShifts.r17, F_muntinlaw20_FrontShifts.code, hk4, p3.to.len, ha, eB _, Int.toNat_natCast, i1, i2, hf, hg, f0, Option.isSome_none]
    have p4 := p3.ext (Ext.bump (k := 13))
    have cI := p4.to.cut (a := 0) (b := i + 1) (by omega) (by omega)
    refine WA_app' (E := eInt) (b := k4.n) (l := []) .nil bump_new cI (by omega) (fun _ => rfl) (by simp; omega) fun v4 up4 o5 e5 f5 => ?_
    have f55 := f5 (k4.n + 5) (by omega) bump_new
    have f56 := f5 (k4.n + 6) (by omega) bump_new
    have f5b := f5 (k4.n + 11) (by omega) bump_new
    generalize hk5 : Hp.puts _ up4 = k5 at o5 e5 f55 f56 f5b
    simp (disch := first | omega | decide) only [here_eq, W_seq, W_region, W_block, W_skip, W_exit, W_ret, W_cond', WB_b, WO_cons, WO_wait, WO_nil, WS, W_draw0, W_draw1, numb_nil, numb_cons, WD_cons, WD_wait, WD_nil, WDS, List.length_cons, List.length_nil, Hp.bump_n, Nat.zero_add,  WA_some, WA_none, Ex.then_normal, Ex.then_exit, Ex.then_ret, Ex.blk_normal, Ex.blk_exit, Ex.blk_ret, wantB_is, V.is_b, Fr.put_some, Fr.put_none, Fr.set_at, Fr.ev_t, Fr.ev_c, Fr.start_at, Hp.puts_nil, Hp.puts_cons, opt_some, opt_none, pickV_b, convV_i, extV_tu, act_mv, act_cst, act_pick, act_alloc, act_box, act_bin, act_un, act_conv, act_eq, act_ixa, act_ld, act_len, act_ext, act_clo, act_fa, act_app, act_bsl, act_slc, act_mn, act_mx, mnV_i, mxV_i, Hp.put_new, Option.map_some, Option.map_none, eInt_sz, eInt_c, eI8_sz, eI8_c, eV_sz, eV_c, evs_nil, evs_cons, bsl_i1, bsl_i2, bsl_i3, bsl_i4, bsl_i6, bsl_i12, bin_add, bin_sub, bin_rem, bin_lss, bin_leq, bin_gtr, bin_geq, eqV_sc, eqV_bl, un_not, un_neg, Ret, resOfs, resOf, resV, List.map_cons, List.map_nil, List.cons_append, List.nil_append, List.append_nil, List.getElem?_cons_zero, List.getElem?_cons_succ, List.getElem?_nil, Option.getD_some, Option.getD_none, ↓reduceIte, Nat.reduceEqDiff, Nat.reduceAdd, Nat.zero_ne_one, Nat.one_ne_zero, Nat.succ_ne_zero, if_true, if_false, Bool.false_eq_true, beq_self_eq_true, Bool.not_true, Bool.not_false, bne_self_eq_false, Bool.true_beq, Bool.false_beq, beq_true, beq_false, F_muntinlaw20_FrontShifts, F_muntinlaw20_FrontShifts.r0, F_muntinlaw20_FrontShifts.r1, F_muntinlaw20_FrontShifts.r2, F_muntinlaw20_FrontShifts.r3, F_muntinlaw20_FrontShifts.r4, F_muntinlaw20_FrontShifts.r5, F_muntinlaw20_FrontShifts.r6, F_muntinlaw20_FrontShifts.r7, F_muntinlaw20_FrontShifts.r8, F_muntinlaw20_FrontShifts.r9, F_muntinlaw20_FrontShifts.r10, F_muntinlaw20_FrontShifts.r11, F_muntinlaw20_FrontShifts.r12, F_muntinlaw20_FrontShifts.r13, F_muntinlaw20_FrontShifts.r14, F_muntinlaw20_FrontShifts.r15, F_muntinlaw20_FrontShifts.r16, F_muntinlaw20_FrontShifts.r17, F_muntinlaw20_FrontShifts.code, hk5, hf, hg, f0, Option.isSome_none]
    have o5' := o5.putAt (o := .cells true [.n 0]) f55
    have y5 := Sl.one (h := k5) (r := k4.n + 5) (z := 0)
    have e5' := e5.trans (Ext.put (n := k4.n) (h := k5) (r := k4.n + 5) (o := .cells true [.n 0]) (by omega)) (Nat.le_refl _)
    have f56' : (k5.put (k4.n + 5) (.cells true [.n 0])).m (k4.n + 6) = none := by simp [f56]
    have f5b' : (k5.put (k4.n + 5) (.cells true [.n 0])).m (k4.n + 11) = none := by simp [f5b]
    refine WA_app' (E := eInt) (b := k4.n) o5' f56' y5 (by omega) (fun _ => rfl) (by simp; omega) fun v5 up5 o6 e6 f6 => ?_
    have f6b := f6 (k4.n + 11) (by omega) f5b'
    generalize hk6 : Hp.puts _ up5 = k6 at o6 e6 f6b
    have e6' := (Ext.bump (n := k4.n) (h := k4) (k := 13)).trans (e5'.trans e6 (Nat.le_refl _)) (Nat.le_refl _)
    have p6 := p3.ext e6'
    have cJ := p6.to.cut (a := i + 1) (b := tl.length) (by omega) (Nat.le_refl _)
    simp (disch := first | omega | decide) only [here_eq, W_seq, W_region, W_block, W_skip, W_exit, W_ret, W_cond', WB_b, WO_cons, WO_wait, WO_nil, WS, W_draw0, W_draw1, numb_nil, numb_cons, WD_cons, WD_wait, WD_nil, WDS, List.length_cons, List.length_nil, Hp.bump_n, Nat.zero_add,  WA_some, WA_none, Ex.then_normal, Ex.then_exit, Ex.then_ret, Ex.blk_normal, Ex.blk_exit, Ex.blk_ret, wantB_is, V.is_b, Fr.put_some, Fr.put_none, Fr.set_at, Fr.ev_t, Fr.ev_c, Fr.start_at, Hp.puts_nil, Hp.puts_cons, opt_some, opt_none, pickV_b, convV_i, extV_tu, act_mv, act_cst, act_pick, act_alloc, act_box, act_bin, act_un, act_conv, act_eq, act_ixa, act_ld, act_len, act_ext, act_clo, act_fa, act_app, act_bsl, act_slc, act_mn, act_mx, mnV_i, mxV_i, Hp.put_new, Option.map_some, Option.map_none, eInt_sz, eInt_c, eI8_sz, eI8_c, eV_sz, eV_c, evs_nil, evs_cons, bsl_i1, bsl_i2, bsl_i3, bsl_i4, bsl_i6, bsl_i12, bin_add, bin_sub, bin_rem, bin_lss, bin_leq, bin_gtr, bin_geq, eqV_sc, eqV_bl, un_not, un_neg, Ret, resOfs, resOf, resV, List.map_cons, List.map_nil, List.cons_append, List.nil_append, List.append_nil, List.getElem?_cons_zero, List.getElem?_cons_succ, List.getElem?_nil, Option.getD_some, Option.getD_none, ↓reduceIte, Nat.reduceEqDiff, Nat.reduceAdd, Nat.zero_ne_one, Nat.one_ne_zero, Nat.succ_ne_zero, if_true, if_false, Bool.false_eq_true, beq_self_eq_true, Bool.not_true, Bool.not_false, bne_self_eq_false, Bool.true_beq, Bool.false_beq, beq_true, beq_false, F_muntinlaw20_FrontShifts, F_muntinlaw20_FrontShifts.r0, F_muntinlaw20_FrontShifts.r1, F_muntinlaw20_FrontShifts.r2, F_muntinlaw20_FrontShifts.r3, F_muntinlaw20_FrontShifts.r4, F_muntinlaw20_FrontShifts.r5, F_muntinlaw20_FrontShifts.r6, F_muntinlaw20_FrontShifts.r7, F_muntinlaw20_FrontShifts.r8, F_muntinlaw20_FrontShifts.r9, F_muntinlaw20_FrontShifts.r10, F_muntinlaw20_FrontShifts.r11, F_muntinlaw20_FrontShifts.r12, F_muntinlaw20_FrontShifts.r13, F_muntinlaw20_FrontShifts.r14, F_muntinlaw20_FrontShifts.r15, F_muntinlaw20_FrontShifts.r16, F_muntinlaw20_FrontShifts.r17, F_muntinlaw20_FrontShifts.code, hk6, i2, hf, hg, f0, Option.isSome_none]
    refine WA_app (E := eInt) (b := k4.n) o6 f6b cJ (by omega) (fun _ => rfl) (by simp; omega) fun v6 up6 o7 e7 => ?_
    generalize hk7 : Hp.puts _ up6 = k7 at o7 e7
    have hflat : [] ++ (tl.drop 0).take (i + 1 - 0) ++ [0] ++ (tl.drop (i + 1)).take (tl.length - (i + 1)) = flat tl i := by
      simp only [List.nil_append, List.drop_zero, Nat.sub_zero, flat]
      congr 1
      rw [List.take_of_length_le (by simp)]
    rw [hflat] at o7
    have p7 := p3.ext (e6'.trans e7 (Nat.le_refl _))
    have eC := S_front_Of o7.to (i := (i : Int)) (by omega)
    rw [hfl] at eC
    obtain ⟨wv, wk, wc, rfl, we⟩ := S_wakes20 (h := k7)
    simp (disch := first | omega | decide) only [here_eq, W_seq, W_region, W_block, W_skip, W_exit, W_ret, W_cond', WB_b, WO_cons, WO_wait, WO_nil, WS, W_draw0, W_draw1, numb_nil, numb_cons, WD_cons, WD_wait, WD_nil, WDS, List.length_cons, List.length_nil, Hp.bump_n, Nat.zero_add,  WA_some, WA_none, Ex.then_normal, Ex.then_exit, Ex.then_ret, Ex.blk_normal, Ex.blk_exit, Ex.blk_ret, wantB_is, V.is_b, Fr.put_some, Fr.put_none, Fr.set_at, Fr.ev_t, Fr.ev_c, Fr.start_at, Hp.puts_nil, Hp.puts_cons, opt_some, opt_none, pickV_b, convV_i, extV_tu, act_mv, act_cst, act_pick, act_alloc, act_box, act_bin, act_un, act_conv, act_eq, act_ixa, act_ld, act_len, act_ext, act_clo, act_fa, act_app, act_bsl, act_slc, act_mn, act_mx, mnV_i, mxV_i, Hp.put_new, Option.map_some, Option.map_none, eInt_sz, eInt_c, eI8_sz, eI8_c, eV_sz, eV_c, evs_nil, evs_cons, bsl_i1, bsl_i2, bsl_i3, bsl_i4, bsl_i6, bsl_i12, bin_add, bin_sub, bin_rem, bin_lss, bin_leq, bin_gtr, bin_geq, eqV_sc, eqV_bl, un_not, un_neg, Ret, resOfs, resOf, resV, List.map_cons, List.map_nil, List.cons_append, List.nil_append, List.append_nil, List.getElem?_cons_zero, List.getElem?_cons_succ, List.getElem?_nil, Option.getD_some, Option.getD_none, ↓reduceIte, Nat.reduceEqDiff, Nat.reduceAdd, Nat.zero_ne_one, Nat.one_ne_zero, Nat.succ_ne_zero, if_true, if_false, Bool.false_eq_true, beq_self_eq_true, Bool.not_true, Bool.not_false, bne_self_eq_false, Bool.true_beq, Bool.false_beq, beq_true, beq_false, F_muntinlaw20_FrontShifts, F_muntinlaw20_FrontShifts.r0, F_muntinlaw20_FrontShifts.r1, F_muntinlaw20_FrontShifts.r2, F_muntinlaw20_FrontShifts.r3, F_muntinlaw20_FrontShifts.r4, F_muntinlaw20_FrontShifts.r5, F_muntinlaw20_FrontShifts.r6, F_muntinlaw20_FrontShifts.r7, F_muntinlaw20_FrontShifts.r8, F_muntinlaw20_FrontShifts.r9, F_muntinlaw20_FrontShifts.r10, F_muntinlaw20_FrontShifts.r11, F_muntinlaw20_FrontShifts.r12, F_muntinlaw20_FrontShifts.r13, F_muntinlaw20_FrontShifts.r14, F_muntinlaw20_FrontShifts.r15, F_muntinlaw20_FrontShifts.r16, F_muntinlaw20_FrontShifts.r17, F_muntinlaw20_FrontShifts.code, hk7, hf, hg, f0, Option.isSome_none]
    refine ⟨?_, ?_⟩
    · intro q hq
      simp only [List.mem_singleton] at hq
      subst hq
      have hrf := p3.refs 0 (i + 1)
      have hsn : Mu.refs V.sn = [] := rfl
      simp [trOf_cons, Tr.apart, Op.looks, touch, hsn]
      intro hm2
      have := hrf _ hm2
      omega
    · simp (disch := first | omega | decide) only [here_eq, W_seq, W_region, W_block, W_skip, W_exit, W_ret, W_cond', WB_b, WO_cons, WO_wait, WO_nil, WS, W_draw0, W_draw1, numb_nil, numb_cons, WD_cons, WD_wait, WD_nil, WDS, List.length_cons, List.length_nil, Hp.bump_n, Nat.zero_add,  WA_some, WA_none, Ex.then_normal, Ex.then_exit, Ex.then_ret, Ex.blk_normal, Ex.blk_exit, Ex.blk_ret, wantB_is, V.is_b, Fr.put_some, Fr.put_none, Fr.set_at, Fr.ev_t, Fr.ev_c, Fr.start_at, Hp.puts_nil, Hp.puts_cons, opt_some, opt_none, pickV_b, convV_i, extV_tu, act_mv, act_cst, act_pick, act_alloc, act_box, act_bin, act_un, act_conv, act_eq, act_ixa, act_ld, act_len, act_ext, act_clo, act_fa, act_app, act_bsl, act_slc, act_mn, act_mx, mnV_i, mxV_i, Hp.put_new, Option.map_some, Option.map_none, eInt_sz, eInt_c, eI8_sz, eI8_c, eV_sz, eV_c, evs_nil, evs_cons, bsl_i1, bsl_i2, bsl_i3, bsl_i4, bsl_i6, bsl_i12, bin_add, bin_sub, bin_rem, bin_lss, bin_leq, bin_gtr, bin_geq, eqV_sc, eqV_bl, un_not, un_neg, Ret, resOfs, resOf, resV, List.map_cons, List.map_nil, List.cons_append, List.nil_append, List.append_nil, List.getElem?_cons_zero, List.getElem?_cons_succ, List.getElem?_nil, Option.getD_some, Option.getD_none, ↓reduceIte, Nat.reduceEqDiff, Nat.reduceAdd, Nat.zero_ne_one, Nat.one_ne_zero, Nat.succ_ne_zero, if_true, if_false, Bool.false_eq_true, beq_self_eq_true, Bool.not_true, Bool.not_false, bne_self_eq_false, Bool.true_beq, Bool.false_beq, beq_true, beq_false, F_muntinlaw20_FrontShifts, F_muntinlaw20_FrontShifts.r0, F_muntinlaw20_FrontShifts.r1, F_muntinlaw20_FrontShifts.r2, F_muntinlaw20_FrontShifts.r3, F_muntinlaw20_FrontShifts.r4, F_muntinlaw20_FrontShifts.r5, F_muntinlaw20_FrontShifts.r6, F_muntinlaw20_FrontShifts.r7, F_muntinlaw20_FrontShifts.r8, F_muntinlaw20_FrontShifts.r9, F_muntinlaw20_FrontShifts.r10, F_muntinlaw20_FrontShifts.r11, F_muntinlaw20_FrontShifts.r12, F_muntinlaw20_FrontShifts.r13, F_muntinlaw20_FrontShifts.r14, F_muntinlaw20_FrontShifts.r15, F_muntinlaw20_FrontShifts.r16, F_muntinlaw20_FrontShifts.r17, F_muntinlaw20_FrontShifts.code, hk7, eC _, Option.map_none, Option.map_some, p7.to.at, p7.to.ld, Int.toNat_natCast, wc _, hf, hg, f0, Option.isSome_none]
  | some f =>
    obtain ⟨g, hg⟩ : ∃ g, front (rot tl m) a = some g := Option.isSome_iff_exists.1 (by rw [hfr.1, hf]; rfl)
    have hgf := hfr.2 g hg
    rw [hf] at hgf hfl
    have hgf' : ((g : Int) + m) % tl.length = f := by
      have : f = (g + m) % tl.length := by simpa using hgf
      rw [this]
      simp
    have hgl := front_lt hg
    have hfl' := front_lt hf
    have hneg := front_neg hf
    have hn2 : decide (0 ≤ gi tl i) = false := by simp; omega
    have g0 : on0 (some g) = g := rfl
    have f0 : on0 (some f) = f := rfl
    simp (disch := first | omega | decide) only [here_eq, W_seq, W_region, W_block, W_skip, W_exit, W_ret, W_cond', WB_b, WO_cons, WO_wait, WO_nil, WS, W_draw0, W_draw1, numb_nil, numb_cons, WD_cons, WD_wait, WD_nil, WDS, List.length_cons, List.length_nil, Hp.bump_n, Nat.zero_add,  WA_some, WA_none, Ex.then_normal, Ex.then_exit, Ex.then_ret, Ex.blk_normal, Ex.blk_exit, Ex.blk_ret, wantB_is, V.is_b, Fr.put_some, Fr.put_none, Fr.set_at, Fr.ev_t, Fr.ev_c, Fr.start_at, Hp.puts_nil, Hp.puts_cons, opt_some, opt_none, pickV_b, convV_i, extV_tu, act_mv, act_cst, act_pick, act_alloc, act_box, act_bin, act_un, act_conv, act_eq, act_ixa, act_ld, act_len, act_ext, act_clo, act_fa, act_app, act_bsl, act_slc, act_mn, act_mx, mnV_i, mxV_i, Hp.put_new, Option.map_some, Option.map_none, eInt_sz, eInt_c, eI8_sz, eI8_c, eV_sz, eV_c, evs_nil, evs_cons, bsl_i1, bsl_i2, bsl_i3, bsl_i4, bsl_i6, bsl_i12, bin_add, bin_sub, bin_rem, bin_lss, bin_leq, bin_gtr, bin_geq, eqV_sc, eqV_bl, un_not, un_neg, Ret, resOfs, resOf, resV, List.map_cons, List.map_nil, List.cons_append, List.nil_append, List.append_nil, List.getElem?_cons_zero, List.getElem?_cons_succ, List.getElem?_nil, Option.getD_some, Option.getD_none, ↓reduceIte, Nat.reduceEqDiff, Nat.reduceAdd, Nat.zero_ne_one, Nat.one_ne_zero, Nat.succ_ne_zero, if_true, if_false, Bool.false_eq_true, beq_self_eq_true, Bool.not_true, Bool.not_false, bne_self_eq_false, Bool.true_beq, Bool.false_beq, beq_true, beq_false, F_muntinlaw20_FrontShifts, F_muntinlaw20_FrontShifts.r0, F_muntinlaw20_FrontShifts.r1, F_muntinlaw20_FrontShifts.r2, F_muntinlaw20_FrontShifts.r3, F_muntinlaw20_FrontShifts.r4, F_muntinlaw20_FrontShifts.r5, F_muntinlaw20_FrontShifts.r6, F_muntinlaw20_FrontShifts.r7, F_muntinlaw20_FrontShifts.r8, F_muntinlaw20_FrontShifts.r9, F_muntinlaw20_FrontShifts.r10, F_muntinlaw20_FrontShifts.r11, F_muntinlaw20_FrontShifts.r12, F_muntinlaw20_FrontShifts.r13, F_muntinlaw20_FrontShifts.r14, F_muntinlaw20_FrontShifts.r15, F_muntinlaw20_FrontShifts.r16, F_muntinlaw20_FrontShifts.r17, F_muntinlaw20_FrontShifts.code, hk4, p3.to.len, ha, eB _, Int.toNat_natCast, i1, i2, hf, hg, g0, f0, hgf', Option.isSome_some]
    have p4 := p3.ext (Ext.bump (k := 13))
    have cI := p4.to.cut (a := 0) (b := i + 1) (by omega) (by omega)
    refine WA_app' (E := eInt) (b := k4.n) (l := []) .nil bump_new cI (by omega) (fun _ => rfl) (by simp; omega) fun v4 up4 o5 e5 f5 => ?_
    have f55 := f5 (k4.n + 5) (by omega) bump_new
    have f56 := f5 (k4.n + 6) (by omega) bump_new
    have f5b := f5 (k4.n + 11) (by omega) bump_new
    generalize hk5 : Hp.puts _ up4 = k5 at o5 e5 f55 f56 f5b
    simp (disch := first | omega | decide) only [here_eq, W_seq, W_region, W_block, W_skip, W_exit, W_ret, W_cond', WB_b, WO_cons, WO_wait, WO_nil, WS, W_draw0, W_draw1, numb_nil, numb_cons, WD_cons, WD_wait, WD_nil, WDS, List.length_cons, List.length_nil, Hp.bump_n, Nat.zero_add,  WA_some, WA_none, Ex.then_normal, Ex.then_exit, Ex.then_ret, Ex.blk_normal, Ex.blk_exit, Ex.blk_ret, wantB_is, V.is_b, Fr.put_some, Fr.put_none, Fr.set_at, Fr.ev_t, Fr.ev_c, Fr.start_at, Hp.puts_nil, Hp.puts_cons, opt_some, opt_none, pickV_b, convV_i, extV_tu, act_mv, act_cst, act_pick, act_alloc, act_box, act_bin, act_un, act_conv, act_eq, act_ixa, act_ld, act_len, act_ext, act_clo, act_fa, act_app, act_bsl, act_slc, act_mn, act_mx, mnV_i, mxV_i, Hp.put_new, Option.map_some, Option.map_none, eInt_sz, eInt_c, eI8_sz, eI8_c, eV_sz, eV_c, evs_nil, evs_cons, bsl_i1, bsl_i2, bsl_i3, bsl_i4, bsl_i6, bsl_i12, bin_add, bin_sub, bin_rem, bin_lss, bin_leq, bin_gtr, bin_geq, eqV_sc, eqV_bl, un_not, un_neg, Ret, resOfs, resOf, resV, List.map_cons, List.map_nil, List.cons_append, List.nil_append, List.append_nil, List.getElem?_cons_zero, List.getElem?_cons_succ, List.getElem?_nil, Option.getD_some, Option.getD_none, ↓reduceIte, Nat.reduceEqDiff, Nat.reduceAdd, Nat.zero_ne_one, Nat.one_ne_zero, Nat.succ_ne_zero, if_true, if_false, Bool.false_eq_true, beq_self_eq_true, Bool.not_true, Bool.not_false, bne_self_eq_false, Bool.true_beq, Bool.false_beq, beq_true, beq_false, F_muntinlaw20_FrontShifts, F_muntinlaw20_FrontShifts.r0, F_muntinlaw20_FrontShifts.r1, F_muntinlaw20_FrontShifts.r2, F_muntinlaw20_FrontShifts.r3, F_muntinlaw20_FrontShifts.r4, F_muntinlaw20_FrontShifts.r5, F_muntinlaw20_FrontShifts.r6, F_muntinlaw20_FrontShifts.r7, F_muntinlaw20_FrontShifts.r8, F_muntinlaw20_FrontShifts.r9, F_muntinlaw20_FrontShifts.r10, F_muntinlaw20_FrontShifts.r11, F_muntinlaw20_FrontShifts.r12, F_muntinlaw20_FrontShifts.r13, F_muntinlaw20_FrontShifts.r14, F_muntinlaw20_FrontShifts.r15, F_muntinlaw20_FrontShifts.r16, F_muntinlaw20_FrontShifts.r17, F_muntinlaw20_FrontShifts.code, hk5, hf, hg, g0, f0, hgf', hn2, Option.isSome_some]
    have o5' := o5.putAt (o := .cells true [.n 0]) f55
    have y5 := Sl.one (h := k5) (r := k4.n + 5) (z := 0)
    have e5' := e5.trans (Ext.put (n := k4.n) (h := k5) (r := k4.n + 5) (o := .cells true [.n 0]) (by omega)) (Nat.le_refl _)
    have f56' : (k5.put (k4.n + 5) (.cells true [.n 0])).m (k4.n + 6) = none := by simp [f56]
    have f5b' : (k5.put (k4.n + 5) (.cells true [.n 0])).m (k4.n + 11) = none := by simp [f5b]
    refine WA_app' (E := eInt) (b := k4.n) o5' f56' y5 (by omega) (fun _ => rfl) (by simp; omega) fun v5 up5 o6 e6 f6 => ?_
    have f6b := f6 (k4.n + 11) (by omega) f5b'
    generalize hk6 : Hp.puts _ up5 = k6 at o6 e6 f6b
    have e6' := (Ext.bump (n := k4.n) (h := k4) (k := 13)).trans (e5'.trans e6 (Nat.le_refl _)) (Nat.le_refl _)
    have p6 := p3.ext e6'
    have cJ := p6.to.cut (a := i + 1) (b := tl.length) (by omega) (Nat.le_refl _)
    simp (disch := first | omega | decide) only [here_eq, W_seq, W_region, W_block, W_skip, W_exit, W_ret, W_cond', WB_b, WO_cons, WO_wait, WO_nil, WS, W_draw0, W_draw1, numb_nil, numb_cons, WD_cons, WD_wait, WD_nil, WDS, List.length_cons, List.length_nil, Hp.bump_n, Nat.zero_add,  WA_some, WA_none, Ex.then_normal, Ex.then_exit, Ex.then_ret, Ex.blk_normal, Ex.blk_exit, Ex.blk_ret, wantB_is, V.is_b, Fr.put_some, Fr.put_none, Fr.set_at, Fr.ev_t, Fr.ev_c, Fr.start_at, Hp.puts_nil, Hp.puts_cons, opt_some, opt_none, pickV_b, convV_i, extV_tu, act_mv, act_cst, act_pick, act_alloc, act_box, act_bin, act_un, act_conv, act_eq, act_ixa, act_ld, act_len, act_ext, act_clo, act_fa, act_app, act_bsl, act_slc, act_mn, act_mx, mnV_i, mxV_i, Hp.put_new, Option.map_some, Option.map_none, eInt_sz, eInt_c, eI8_sz, eI8_c, eV_sz, eV_c, evs_nil, evs_cons, bsl_i1, bsl_i2, bsl_i3, bsl_i4, bsl_i6, bsl_i12, bin_add, bin_sub, bin_rem, bin_lss, bin_leq, bin_gtr, bin_geq, eqV_sc, eqV_bl, un_not, un_neg, Ret, resOfs, resOf, resV, List.map_cons, List.map_nil, List.cons_append, List.nil_append, List.append_nil, List.getElem?_cons_zero, List.getElem?_cons_succ, List.getElem?_nil, Option.getD_some, Option.getD_none, ↓reduceIte, Nat.reduceEqDiff, Nat.reduceAdd, Nat.zero_ne_one, Nat.one_ne_zero, Nat.succ_ne_zero, if_true, if_false, Bool.false_eq_true, beq_self_eq_true, Bool.not_true, Bool.not_false, bne_self_eq_false, Bool.true_beq, Bool.false_beq, beq_true, beq_false, F_muntinlaw20_FrontShifts, F_muntinlaw20_FrontShifts.r0, F_muntinlaw20_FrontShifts.r1, F_muntinlaw20_FrontShifts.r2, F_muntinlaw20_FrontShifts.r3, F_muntinlaw20_FrontShifts.r4, F_muntinlaw20_FrontShifts.r5, F_muntinlaw20_FrontShifts.r6, F_muntinlaw20_FrontShifts.r7, F_muntinlaw20_FrontShifts.r8, F_muntinlaw20_FrontShifts.r9, F_muntinlaw20_FrontShifts.r10, F_muntinlaw20_FrontShifts.r11, F_muntinlaw20_FrontShifts.r12, F_muntinlaw20_FrontShifts.r13, F_muntinlaw20_FrontShifts.r14, F_muntinlaw20_FrontShifts.r15, F_muntinlaw20_FrontShifts.r16, F_muntinlaw20_FrontShifts.r17, F_muntinlaw20_FrontShifts.code, hk6, i2, hf, hg, g0, f0, hgf', hn2, Option.isSome_some]
    refine WA_app (E := eInt) (b := k4.n) o6 f6b cJ (by omega) (fun _ => rfl) (by simp; omega) fun v6 up6 o7 e7 => ?_
    generalize hk7 : Hp.puts _ up6 = k7 at o7 e7
    have hflat : [] ++ (tl.drop 0).take (i + 1 - 0) ++ [0] ++ (tl.drop (i + 1)).take (tl.length - (i + 1)) = flat tl i := by
      simp only [List.nil_append, List.drop_zero, Nat.sub_zero, flat]
      congr 1
      rw [List.take_of_length_le (by simp)]
    rw [hflat] at o7
    have p7 := p3.ext (e6'.trans e7 (Nat.le_refl _))
    have eC := S_front_Of o7.to (i := (i : Int)) (by omega)
    rw [hfl] at eC
    obtain ⟨wv, wk, wc, rfl, we⟩ := S_wakes20 (h := k7)
    simp (disch := first | omega | decide) only [here_eq, W_seq, W_region, W_block, W_skip, W_exit, W_ret, W_cond', WB_b, WO_cons, WO_wait, WO_nil, WS, W_draw0, W_draw1, numb_nil, numb_cons, WD_cons, WD_wait, WD_nil, WDS, List.length_cons, List.length_nil, Hp.bump_n, Nat.zero_add,  WA_some, WA_none, Ex.then_normal, Ex.then_exit, Ex.then_ret, Ex.blk_normal, Ex.blk_exit, Ex.blk_ret, wantB_is, V.is_b, Fr.put_some, Fr.put_none, Fr.set_at, Fr.ev_t, Fr.ev_c, Fr.start_at, Hp.puts_nil, Hp.puts_cons, opt_some, opt_none, pickV_b, convV_i, extV_tu, act_mv, act_cst, act_pick, act_alloc, act_box, act_bin, act_un, act_conv, act_eq, act_ixa, act_ld, act_len, act_ext, act_clo, act_fa, act_app, act_bsl, act_slc, act_mn, act_mx, mnV_i, mxV_i, Hp.put_new, Option.map_some, Option.map_none, eInt_sz, eInt_c, eI8_sz, eI8_c, eV_sz, eV_c, evs_nil, evs_cons, bsl_i1, bsl_i2, bsl_i3, bsl_i4, bsl_i6, bsl_i12, bin_add, bin_sub, bin_rem, bin_lss, bin_leq, bin_gtr, bin_geq, eqV_sc, eqV_bl, un_not, un_neg, Ret, resOfs, resOf, resV, List.map_cons, List.map_nil, List.cons_append, List.nil_append, List.append_nil, List.getElem?_cons_zero, List.getElem?_cons_succ, List.getElem?_nil, Option.getD_some, Option.getD_none, ↓reduceIte, Nat.reduceEqDiff, Nat.reduceAdd, Nat.zero_ne_one, Nat.one_ne_zero, Nat.succ_ne_zero, if_true, if_false, Bool.false_eq_true, beq_self_eq_true, Bool.not_true, Bool.not_false, bne_self_eq_false, Bool.true_beq, Bool.false_beq, beq_true, beq_false, F_muntinlaw20_FrontShifts, F_muntinlaw20_FrontShifts.r0, F_muntinlaw20_FrontShifts.r1, F_muntinlaw20_FrontShifts.r2, F_muntinlaw20_FrontShifts.r3, F_muntinlaw20_FrontShifts.r4, F_muntinlaw20_FrontShifts.r5, F_muntinlaw20_FrontShifts.r6, F_muntinlaw20_FrontShifts.r7, F_muntinlaw20_FrontShifts.r8, F_muntinlaw20_FrontShifts.r9, F_muntinlaw20_FrontShifts.r10, F_muntinlaw20_FrontShifts.r11, F_muntinlaw20_FrontShifts.r12, F_muntinlaw20_FrontShifts.r13, F_muntinlaw20_FrontShifts.r14, F_muntinlaw20_FrontShifts.r15, F_muntinlaw20_FrontShifts.r16, F_muntinlaw20_FrontShifts.r17, F_muntinlaw20_FrontShifts.code, hk7, hf, hg, g0, f0, hgf', hn2, Option.isSome_some]
    refine ⟨?_, ?_⟩
    · intro q hq
      simp only [List.mem_singleton] at hq
      subst hq
      have hrf := p3.refs 0 (i + 1)
      have hsn : Mu.refs V.sn = [] := rfl
      simp [trOf_cons, Tr.apart, Op.looks, touch, hsn]
      intro hm2
      have := hrf _ hm2
      omega
    · have f1 : on0 (some (past i f)) = (past i f : Nat) := rfl
      rcases Bool.eq_false_or_eq_true (decide ((i : Int) < f)) with hx | hx
      · have hp : ((past i f : Nat) : Int) = f + 1 := by
          simp at hx
          simp [past, hx]
        simp (disch := first | omega | decide) only [here_eq, W_seq, W_region, W_block, W_skip, W_exit, W_ret, W_cond', WB_b, WO_cons, WO_wait, WO_nil, WS, W_draw0, W_draw1, numb_nil, numb_cons, WD_cons, WD_wait, WD_nil, WDS, List.length_cons, List.length_nil, Hp.bump_n, Nat.zero_add,  WA_some, WA_none, Ex.then_normal, Ex.then_exit, Ex.then_ret, Ex.blk_normal, Ex.blk_exit, Ex.blk_ret, wantB_is, V.is_b, Fr.put_some, Fr.put_none, Fr.set_at, Fr.ev_t, Fr.ev_c, Fr.start_at, Hp.puts_nil, Hp.puts_cons, opt_some, opt_none, pickV_b, convV_i, extV_tu, act_mv, act_cst, act_pick, act_alloc, act_box, act_bin, act_un, act_conv, act_eq, act_ixa, act_ld, act_len, act_ext, act_clo, act_fa, act_app, act_bsl, act_slc, act_mn, act_mx, mnV_i, mxV_i, Hp.put_new, Option.map_some, Option.map_none, eInt_sz, eInt_c, eI8_sz, eI8_c, eV_sz, eV_c, evs_nil, evs_cons, bsl_i1, bsl_i2, bsl_i3, bsl_i4, bsl_i6, bsl_i12, bin_add, bin_sub, bin_rem, bin_lss, bin_leq, bin_gtr, bin_geq, eqV_sc, eqV_bl, un_not, un_neg, Ret, resOfs, resOf, resV, List.map_cons, List.map_nil, List.cons_append, List.nil_append, List.append_nil, List.getElem?_cons_zero, List.getElem?_cons_succ, List.getElem?_nil, Option.getD_some, Option.getD_none, ↓reduceIte, Nat.reduceEqDiff, Nat.reduceAdd, Nat.zero_ne_one, Nat.one_ne_zero, Nat.succ_ne_zero, if_true, if_false, Bool.false_eq_true, beq_self_eq_true, Bool.not_true, Bool.not_false, bne_self_eq_false, Bool.true_beq, Bool.false_beq, beq_true, beq_false, F_muntinlaw20_FrontShifts, F_muntinlaw20_FrontShifts.r0, F_muntinlaw20_FrontShifts.r1, F_muntinlaw20_FrontShifts.r2, F_muntinlaw20_FrontShifts.r3, F_muntinlaw20_FrontShifts.r4, F_muntinlaw20_FrontShifts.r5, F_muntinlaw20_FrontShifts.r6, F_muntinlaw20_FrontShifts.r7, F_muntinlaw20_FrontShifts.r8, F_muntinlaw20_FrontShifts.r9, F_muntinlaw20_FrontShifts.r10, F_muntinlaw20_FrontShifts.r11, F_muntinlaw20_FrontShifts.r12, F_muntinlaw20_FrontShifts.r13, F_muntinlaw20_FrontShifts.r14, F_muntinlaw20_FrontShifts.r15, F_muntinlaw20_FrontShifts.r16, F_muntinlaw20_FrontShifts.r17, F_muntinlaw20_FrontShifts.code, hk7, eC _, Option.map_none, Option.map_some, p7.to.at, p7.to.ld, Int.toNat_natCast, wc _, hf, hg, g0, f0, hgf', hn2, Option.isSome_some, f1, hp, hx]
      · have hp : ((past i f : Nat) : Int) = f := by
          simp at hx
          simp [past, show ¬i < f by omega]
        simp (disch := first | omega | decide) only [here_eq, W_seq, W_region, W_block, W_skip, W_exit, W_ret, W_cond', WB_b, WO_cons, WO_wait, WO_nil, WS, W_draw0, W_draw1, numb_nil, numb_cons, WD_cons, WD_wait, WD_nil, WDS, List.length_cons, List.length_nil, Hp.bump_n, Nat.zero_add,  WA_some, WA_none, Ex.then_normal, Ex.then_exit, Ex.then_ret, Ex.blk_normal, Ex.blk_exit, Ex.blk_ret, wantB_is, V.is_b, Fr.put_some, Fr.put_none, Fr.set_at, Fr.ev_t, Fr.ev_c, Fr.start_at, Hp.puts_nil, Hp.puts_cons, opt_some, opt_none, pickV_b, convV_i, extV_tu, act_mv, act_cst, act_pick, act_alloc, act_box, act_bin, act_un, act_conv, act_eq, act_ixa, act_ld, act_len, act_ext, act_clo, act_fa, act_app, act_bsl, act_slc, act_mn, act_mx, mnV_i, mxV_i, Hp.put_new, Option.map_some, Option.map_none, eInt_sz, eInt_c, eI8_sz, eI8_c, eV_sz, eV_c, evs_nil, evs_cons, bsl_i1, bsl_i2, bsl_i3, bsl_i4, bsl_i6, bsl_i12, bin_add, bin_sub, bin_rem, bin_lss, bin_leq, bin_gtr, bin_geq, eqV_sc, eqV_bl, un_not, un_neg, Ret, resOfs, resOf, resV, List.map_cons, List.map_nil, List.cons_append, List.nil_append, List.append_nil, List.getElem?_cons_zero, List.getElem?_cons_succ, List.getElem?_nil, Option.getD_some, Option.getD_none, ↓reduceIte, Nat.reduceEqDiff, Nat.reduceAdd, Nat.zero_ne_one, Nat.one_ne_zero, Nat.succ_ne_zero, if_true, if_false, Bool.false_eq_true, beq_self_eq_true, Bool.not_true, Bool.not_false, bne_self_eq_false, Bool.true_beq, Bool.false_beq, beq_true, beq_false, F_muntinlaw20_FrontShifts, F_muntinlaw20_FrontShifts.r0, F_muntinlaw20_FrontShifts.r1, F_muntinlaw20_FrontShifts.r2, F_muntinlaw20_FrontShifts.r3, F_muntinlaw20_FrontShifts.r4, F_muntinlaw20_FrontShifts.r5, F_muntinlaw20_FrontShifts.r6, F_muntinlaw20_FrontShifts.r7, F_muntinlaw20_FrontShifts.r8, F_muntinlaw20_FrontShifts.r9, F_muntinlaw20_FrontShifts.r10, F_muntinlaw20_FrontShifts.r11, F_muntinlaw20_FrontShifts.r12, F_muntinlaw20_FrontShifts.r13, F_muntinlaw20_FrontShifts.r14, F_muntinlaw20_FrontShifts.r15, F_muntinlaw20_FrontShifts.r16, F_muntinlaw20_FrontShifts.r17, F_muntinlaw20_FrontShifts.code, hk7, eC _, Option.map_none, Option.map_some, p7.to.at, p7.to.ld, Int.toNat_natCast, wc _, hf, hg, g0, f0, hgf', hn2, Option.isSome_some, f1, hp, hx]
end Mu
