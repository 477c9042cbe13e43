/- Layer 3: the order of a graph. -/
import Derived.Test.YtofdeafffbkgbaaMuM04b
set_option linter.unusedVariables false
set_option linter.unusedSimpArgs false
set_option maxRecDepth 10000
namespace Mu
theorem mContains {arcs : List T_api_Arc} {f : T_api_Arc → Option Bool} {g : T_api_Arc → Bool} (hn : arcs.length ≤ 1000000) (h : ∀ a ∈ arcs, f a = some (g a)) : p_slices_ContainsFunc_api_Arc arcs f = some (arcs.any g) := by
  have h1 : loopF (p_slices_IndexFunc_api_Arc.s0 arcs f) big 0 = some (match (List.range arcs.length).find? (fun i => g (gi arcs i)) with | some i => .inr (i : Int) | none => .inl ()) := by
    refine loop_find (n := arcs.length) (P := fun i => g (gi arcs i)) (f := fun i => (i : Int)) (big_lt (by omega)) (fun i hi => ?_) ?_
    · simp only [p_slices_IndexFunc_api_Arc.s0]
      rw [ifd_pos (by omega), ck_pos (by omega), Int.toNat_natCast, h _ (gi_mem hi), Option.bind_some, ckI64 (by omega)]
      cases g (gi arcs i) <;> rfl
    · simp only [p_slices_IndexFunc_api_Arc.s0]
      rw [ifd_neg (by omega)]
  unfold p_slices_ContainsFunc_api_Arc p_slices_IndexFunc_api_Arc
  rw [h1, Option.bind_some]
  cases hf : (List.range arcs.length).find? (fun i => g (gi arcs i)) with
  | none =>
    rw [List.find?_range_eq_none] at hf
    have : arcs.any g = false := by
      rw [List.any_eq_false]
      intro a ha
      obtain ⟨i, hi, rfl⟩ := List.mem_iff_getElem.1 ha
      have := hf i hi
      rw [gi_eq hi] at this
      simpa using this
    rw [this]; rfl
  | some i =>
    rw [List.find?_range_eq_some] at hf
    obtain ⟨h1, h2, _⟩ := hf
    have hi : i < arcs.length := by simpa using h2
    have : arcs.any g = true := by
      rw [List.any_eq_true]
      exact ⟨gi arcs i, gi_mem hi, h1⟩
    rw [this]
    dsimp only
    rw [Option.bind_some, dec_t (by omega)]
def badArc (n : Int) (a : T_api_Arc) : Bool := (((((decide (a.From < 0)) || (decide (n ≤ a.From))) || (decide (a.To < 0))) || (decide (n ≤ a.To))) || (decide (a.Weight < 0))) || (decide (1000000 < a.Weight))
instance {n : Nat} {arcs : List T_api_Arc} : Decidable (RA n arcs) := by unfold RA; exact inferInstance
theorem mRight {n : Int} {arcs : List T_api_Arc} : p_dag_right n arcs = some (decide (0 ≤ n ∧ n ≤ 4096 ∧ arcs.length ≤ 16384 ∧ RA n.toNat arcs)) := by
  unfold p_dag_right
  by_cases c : 0 ≤ n ∧ n ≤ 4096 ∧ arcs.length ≤ 16384
  · rw [if_neg (by simp; omega), mContains (arcs := arcs) (f := fun y0 => p_dag_right_1 y0 n) (g := badArc n) (by omega) (fun a _ => rfl), Option.bind_some]
    congr 1
    cases h : arcs.any (badArc n) with
    | true =>
      rw [List.any_eq_true] at h
      obtain ⟨a, ha, hb⟩ := h
      rw [dec_f]; rfl
      rintro ⟨_, _, _, hr⟩
      have := hr a ha
      simp [badArc] at hb
      omega
    | false =>
      rw [List.any_eq_false] at h
      rw [dec_t]; rfl
      refine ⟨c.1, c.2.1, c.2.2, fun a ha => ?_⟩
      have := h a ha
      simp [badArc] at this
      omega
  · rw [if_pos (by simp; omega), dec_f (by omega)]
theorem outs_take {arcs : List T_api_Arc} {k : Nat} (h : k < arcs.length) (v : Int) : outs (arcs.take (k + 1)) v = if v = (gi arcs k).From then outs (arcs.take k) v ++ [(gi arcs k).To] else outs (arcs.take k) v := by
  unfold outs
  rw [take_gi h, List.filter_append, List.map_append]
  by_cases c : v = (gi arcs k).From
  · rw [if_pos c]; simp [c.symm]
  · rw [if_neg c]; simp [Ne.symm c]
theorem ahd_take {arcs : List T_api_Arc} {k : Nat} (h : k < arcs.length) (w : Int) : ahd (arcs.take (k + 1)) [] w = if w = (gi arcs k).To then ahd (arcs.take k) [] w + 1 else ahd (arcs.take k) [] w := by
  unfold ahd
  rw [take_gi h, List.countP_append]
  by_cases c : w = (gi arcs k).To
  · rw [if_pos c]; simp [c.symm]
  · rw [if_neg c]; simp [Ne.symm c]
/-- The lists of what is next, as far as the arcs are gone through. -/
def nexts (n : Nat) (arcs : List T_api_Arc) : List (List Int) := (List.range n).map fun v : Nat => outs arcs v
def opens (n : Nat) (arcs : List T_api_Arc) : List Int := (List.range n).map fun w : Nat => (ahd arcs [] w : Int)
theorem nexts_len {n : Nat} {arcs : List T_api_Arc} : (nexts n arcs).length = n := by simp [nexts]
theorem opens_len {n : Nat} {arcs : List T_api_Arc} : (opens n arcs).length = n := by simp [opens]
theorem nexts_nil {n : Nat} : nexts n [] = List.replicate n [] := by
  unfold nexts; rw [List.eq_replicate_iff]; simp [outs]
theorem opens_nil {n : Nat} : opens n [] = List.replicate n 0 := by
  unfold opens; rw [List.eq_replicate_iff]; simp [ahd]
theorem gi_nexts {n : Nat} {arcs : List T_api_Arc} {v : Int} (h0 : 0 ≤ v) (h : v < n) : gi (nexts n arcs) v.toNat = outs arcs v := by
  unfold nexts; rw [gi_map_range (by omega), Int.toNat_of_nonneg h0]
theorem gi_opens {n : Nat} {arcs : List T_api_Arc} {v : Int} (h0 : 0 ≤ v) (h : v < n) : gi (opens n arcs) v.toNat = ahd arcs [] v := by
  unfold opens; rw [gi_map_range (by omega), Int.toNat_of_nonneg h0]
theorem nexts_step {n : Nat} {arcs : List T_api_Arc} {k : Nat} (hk : k < arcs.length) (h0 : 0 ≤ (gi arcs k).From) (h : (gi arcs k).From < n) : (nexts n (arcs.take k)).set (gi arcs k).From.toNat (outs (arcs.take k) (gi arcs k).From ++ [(gi arcs k).To]) = nexts n (arcs.take (k + 1)) := by
  apply list_ext (by rw [List.length_set, nexts_len, nexts_len])
  intro i hi
  rw [List.length_set, nexts_len] at hi
  have hg := gi_nexts (n := n) (arcs := arcs.take (k + 1)) (v := (i : Int)) (by omega) (by omega)
  have hg2 := gi_nexts (n := n) (arcs := arcs.take k) (v := (i : Int)) (by omega) (by omega)
  rw [Int.toNat_natCast] at hg hg2
  rw [gi_set (by rw [nexts_len]; omega), hg, hg2, outs_take hk]
  by_cases c : (i : Int) = (gi arcs k).From
  · rw [if_pos c, if_pos (by omega), c]
  · rw [if_neg c, if_neg (by omega)]
theorem opens_step {n : Nat} {arcs : List T_api_Arc} {k : Nat} (hk : k < arcs.length) (h0 : 0 ≤ (gi arcs k).To) (h : (gi arcs k).To < n) : (opens n (arcs.take k)).set (gi arcs k).To.toNat ((ahd (arcs.take k) [] (gi arcs k).To : Int) + 1) = opens n (arcs.take (k + 1)) := by
  apply list_ext (by rw [List.length_set, opens_len, opens_len])
  intro i hi
  rw [List.length_set, opens_len] at hi
  have hg := gi_opens (n := n) (arcs := arcs.take (k + 1)) (v := (i : Int)) (by omega) (by omega)
  have hg2 := gi_opens (n := n) (arcs := arcs.take k) (v := (i : Int)) (by omega) (by omega)
  rw [Int.toNat_natCast] at hg hg2
  rw [gi_set (by rw [opens_len]; omega), hg, hg2, ahd_take hk]
  by_cases c : (i : Int) = (gi arcs k).To
  · rw [if_pos c, if_pos (by omega), c]; omega
  · rw [if_neg c, if_neg (by omega)]
theorem oNext {n : Nat} {arcs : List T_api_Arc} (hr : RA n arcs) (hl : arcs.length ≤ 40000) : loopF (p_dag_Order.s0 arcs) big ((List.replicate n [] : List (List Int)), List.replicate n (0 : Int), 0) = some (nexts n arcs, opens n arcs) := by
  refine loop_to (fun k : Nat => (nexts n (arcs.take k), opens n (arcs.take k), (k : Int))) (n := arcs.length) (big_lt (by omega)) (by simp [nexts_nil, opens_nil]) (fun k hk => ?_) ?_
  · have ha := hr _ (gi_mem hk)
    have hc := ahd_le (arcs := arcs.take k) (l := []) (w := (gi arcs k).To)
    have ho := outs_le (arcs := arcs.take k) (v := (gi arcs k).From)
    rw [List.length_take] at hc ho
    simp only [p_dag_Order.s0]
    rw [ifd_pos (by omega), ck_pos (by omega), Int.toNat_natCast, gi_nexts ha.1 ha.2.1, gi_opens ha.2.2.1 ha.2.2.2.1, ck_pos (by rw [nexts_len]; omega), ck_pos (by simp; omega), ck_pos (by rw [opens_len]; omega), ckI64 (by omega), ckI64 (by omega), nexts_step hk ha.1 ha.2.1, opens_step hk ha.2.2.1 ha.2.2.2.1, show ((k + 1 : Nat) : Int) = (k : Int) + 1 by omega]
  · simp only [p_dag_Order.s0]
    rw [ifd_neg (by omega), List.take_length]
theorem upTo_succ {k : Nat} : upTo (k + 1) = upTo k ++ [(k : Int)] := by unfold upTo; rw [List.range_succ, List.map_append]; rfl
theorem oStart {n : Nat} {arcs : List T_api_Arc} (hn : n ≤ 40000) : ∃ r, loopF (p_dag_Order.s1 (opens n arcs)) big (([] : List T_heap_item_int), 0, 0) = some r ∧ ((hv r.1).Perm ((upTo n).filter fun w => decide (ahd arcs [] w = 0)) ∧ r.2 = (hv r.1).length) := by
  refine loop_inv (fun (k : Nat) (s : List T_heap_item_int × Int × Int) => (hv s.1).Perm ((upTo k).filter fun w => decide (ahd arcs [] w = 0)) ∧ s.2.1 = (hv s.1).length ∧ s.2.2 = k) (n := n) (big_lt (by omega)) ⟨.refl _, rfl, rfl⟩ ?_ ?_
  · rintro k ⟨h, t, x⟩ hk ⟨hp, ht, hx⟩
    dsimp only at hp ht hx ⊢
    subst hx; subst ht
    have hlen : (hv h).length ≤ k := by
      rw [hp.length_eq]
      have := List.length_filter_le (fun w => decide (ahd arcs [] w = 0)) (upTo k)
      rwa [upTo_len] at this
    have hh : h.length = (hv h).length := by simp [hv]
    have hg := gi_opens (n := n) (arcs := arcs) (v := (k : Int)) (by omega) (by omega)
    rw [Int.toNat_natCast] at hg
    simp only [p_dag_Order.s1]
    rw [ifd_pos (by rw [opens_len]; omega), ck_pos (by rw [opens_len]; omega), Int.toNat_natCast, hg, upTo_succ, List.filter_append]
    by_cases c : ahd arcs [] (k : Int) = 0
    · obtain ⟨m, h1, h2⟩ := mPush (l := h) (t := ((hv h).length : Int)) (x := (k : Int)) (by omega) (by omega)
      rw [ifd_pos (by omega), h1, Option.bind_some, ckI64 (by omega)]
      refine ⟨_, rfl, ?_, ?_, ?_⟩
      · dsimp only
        refine h2.trans ?_
        rw [List.filter_cons, if_pos (by simp [c])]
        exact hp.append_right _
      · dsimp only
        rw [h2.length_eq]; simp
      · dsimp only; omega
    · rw [ifd_neg (by omega), ckI64 (by omega)]
      refine ⟨_, rfl, ?_, rfl, ?_⟩
      · dsimp only
        rw [List.filter_cons, if_neg (by simp [c]), List.filter_nil, List.append_nil]
        exact hp
      · dsimp only; omega
  · rintro ⟨h, t, x⟩ ⟨hp, ht, hx⟩
    dsimp only at hp ht hx ⊢
    subst hx
    simp only [p_dag_Order.s1]
    rw [ifd_neg (by rw [opens_len]; omega)]
    exact ⟨_, rfl, hp, ht⟩
theorem KI.start {n : Nat} {arcs : List T_api_Arc} {H : List Int} (h : H.Perm ((upTo n).filter fun w => decide (ahd arcs [] w = 0))) : KI n arcs (fun w => (ahd arcs [] w : Int)) [] H := by
  refine KI.perm ⟨?_, fun x => ?_, .nil⟩ h.symm
  · rw [List.nil_append]; exact List.Nodup.sublist List.filter_sublist upTo_nodup
  · rw [List.nil_append, List.mem_filter, mem_upTo, decide_eq_true_eq]; omega
/-- What is open, in numbers. -/
def IsO (n : Nat) (o : List Int) (f : Int → Int) : Prop := o.length = n ∧ ∀ w : Int, 0 ≤ w → w < n → gi o w.toNat = f w
theorem oInner {n : Nat} {arcs : List T_api_Arc} {l : List Int} {v : Int} (hr : RA n arcs) (hn : n ≤ 40000) (hl : arcs.length ≤ 40000) (hv0 : 0 ≤ v) (hv1 : v < n) {o : List Int} {h : List T_heap_item_int} {t : Int} (ho : IsO n o (opn arcs l v 0)) (hk : KI n arcs (opn arcs l v 0) l (hv h)) (ht : t = (l ++ hv h).length) :
    ∃ r, loopF (p_dag_Order.s3 (nexts n arcs) v) big (o, h, t, 0) = some r ∧ (IsO n r.1 (fun w => (ahd arcs l w : Int)) ∧ KI n arcs (fun w => (ahd arcs l w : Int)) l (hv r.2.1) ∧ r.2.2 = (l ++ hv r.2.1).length) := by
  have hol := outs_le (arcs := arcs) (v := v)
  refine loop_inv (fun (k : Nat) (s : List Int × List T_heap_item_int × Int × Int) => IsO n s.1 (opn arcs l v k) ∧ KI n arcs (opn arcs l v k) l (hv s.2.1) ∧ s.2.2.1 = (l ++ hv s.2.1).length ∧ s.2.2.2 = k) (n := (outs arcs v).length) (big_lt (by omega)) ⟨ho, hk, ht, rfl⟩ ?_ ?_
  · rintro k ⟨o, h, t, x⟩ hkk ⟨ho, hk, ht, hx⟩
    dsimp only at ho hk ht hx ⊢
    subst hx; subst ht
    obtain ⟨ho1, ho2⟩ := ho
    have hlen := nodup_len hk.nd (fun x hx => ⟨((hk.mem x).1 hx).1, ((hk.mem x).1 hx).2.1⟩)
    have hh : h.length = (hv h).length := by simp [hv]
    rw [List.length_append] at hlen
    obtain ⟨a, ha, hf, hto⟩ := mem_outs.1 (gi_mem hkk)
    have hra := hr a ha
    have hw0 : 0 ≤ gi (outs arcs v) k := by omega
    have hw1 : gi (outs arcs v) k < n := by omega
    have hb := opn_le (arcs := arcs) (l := l) (v := v) (k := k) (w := gi (outs arcs v) k)
    have hb0 := opn_nonneg (arcs := arcs) (l := l) (v := v) (k := k) (w := gi (outs arcs v) k)
    have hst := opn_step (l := l) hkk (gi (outs arcs v) k)
    rw [if_pos rfl] at hst
    have hgo := ho2 _ hw0 hw1
    have hset : IsO n (o.set (gi (outs arcs v) k).toNat (opn arcs l v k (gi (outs arcs v) k) - 1)) (opn arcs l v (k + 1)) := by
      refine ⟨by rw [List.length_set, ho1], fun w h0 h1 => ?_⟩
      rw [gi_set (by omega), ho2 w h0 h1]
      have := opn_step (l := l) hkk w
      by_cases c : w = gi (outs arcs v) k
      · rw [c, if_pos rfl]; omega
      · rw [if_neg (by omega)]; rw [if_neg c] at this; omega
    simp only [p_dag_Order.s3]
    rw [gi_nexts hv0 hv1, ifd_pos (by omega), ck_pos (by omega), Int.toNat_natCast, ck_pos (by omega), hgo, ckI64 (by omega), ck_pos (by rw [List.length_set]; omega), gi_set (by omega), if_pos rfl]
    by_cases c : opn arcs l v (k + 1) (gi (outs arcs v) k) = 0
    · obtain ⟨m, h1, h2⟩ := mPush (l := h) (t := (((l ++ hv h).length : Nat) : Int)) (x := gi (outs arcs v) k) (by omega) (by rw [List.length_append]; omega)
      rw [ifd_pos (by omega), h1, Option.bind_some, ckI64 (by omega)]
      refine ⟨_, rfl, hset, (hk.push hkk ⟨hw0, hw1⟩ c).perm h2.symm, ?_, ?_⟩
      · dsimp only
        rw [List.length_append, List.length_append, h2.length_eq]; simp; omega
      · dsimp only; omega
    · rw [ifd_neg (by omega), ckI64 (by omega)]
      exact ⟨_, rfl, hset, hk.wait hkk c, rfl, by dsimp only; omega⟩
  · rintro ⟨o, h, t, x⟩ ⟨ho, hk, ht, hx⟩
    dsimp only at ho hk ht hx ⊢
    subst hx
    simp only [p_dag_Order.s3]
    rw [gi_nexts hv0 hv1, ifd_neg (by omega)]
    rw [opn_end] at ho hk
    exact ⟨_, rfl, ho, hk, ht⟩
/-- What the order is. -/
structure Ordd (n : Nat) (arcs : List T_api_Arc) (l : List Int) : Prop where
  nd : l.Nodup
  mem : ∀ x, x ∈ l ↔ 0 ≤ x ∧ x < n ∧ Peel arcs x
  tp : Topo arcs l
/-- After a Pop. -/
theorem oPop {n : Nat} {arcs : List T_api_Arc} {l : List Int} {h : List T_heap_item_int} {t : Int} (hn : n ≤ 40000) (hk : KI n arcs (fun w => (ahd arcs l w : Int)) l (hv h)) (ht : t = (l ++ hv h).length) :
    ∃ v ok m, p_heap_Heap_int_Pop ⟨h, t⟩ lt2 = some (v, ok, ⟨m, t⟩) ∧ ((ok = true ∧ KI n arcs (fun w => (ahd arcs l w : Int)) l (v :: hv m) ∧ t = (l ++ v :: hv m).length) ∨ (ok = false ∧ KI n arcs (fun w => (ahd arcs l w : Int)) l [])) := by
  have hlen := nodup_len hk.nd (fun x hx => ⟨((hk.mem x).1 hx).1, ((hk.mem x).1 hx).2.1⟩)
  have hh : h.length = (hv h).length := by simp [hv]
  rw [List.length_append] at hlen
  cases h with
  | nil => exact ⟨0, false, [], mPop_nil, .inr ⟨rfl, hk⟩⟩
  | cons a b =>
    obtain ⟨v, m, h1, h2⟩ := mPop (l := a :: b) (t := t) (by omega) (by simp)
    exact ⟨v, true, m, h1, .inl ⟨rfl, hk.perm h2, by rw [ht, List.length_append, List.length_append, h2.length_eq]⟩⟩
theorem oOuter {n : Nat} {arcs : List T_api_Arc} (hr : RA n arcs) (hn : n ≤ 40000) (hl : arcs.length ≤ 40000) {o : List Int} {h : List T_heap_item_int} {t v : Int} {ok : Bool} (ho : IsO n o (fun w => (ahd arcs [] w : Int))) (hk : (ok = true ∧ KI n arcs (fun w => (ahd arcs [] w : Int)) [] (v :: hv h) ∧ t = ([] ++ v :: hv h).length) ∨ (ok = false ∧ KI n arcs (fun w => (ahd arcs [] w : Int)) [] [])) :
    ∃ r, loopF (p_dag_Order.s2 (nexts n arcs)) big (o, h, t, ([] : List Int), v, ok) = some r ∧ KI n arcs (fun w => (ahd arcs r w : Int)) r [] := by
  refine loop_meas (fun s : List Int × List T_heap_item_int × Int × List Int × Int × Bool => n - s.2.2.2.1.length) (fun s => IsO n s.1 (fun w => (ahd arcs s.2.2.2.1 w : Int)) ∧ ((s.2.2.2.2.2 = true ∧ KI n arcs (fun w => (ahd arcs s.2.2.2.1 w : Int)) s.2.2.2.1 (s.2.2.2.2.1 :: hv s.2.1) ∧ s.2.2.1 = (s.2.2.2.1 ++ s.2.2.2.2.1 :: hv s.2.1).length) ∨ (s.2.2.2.2.2 = false ∧ KI n arcs (fun w => (ahd arcs s.2.2.2.1 w : Int)) s.2.2.2.1 []))) (big_lt (by dsimp only; omega)) ⟨ho, hk⟩ ?_
  rintro ⟨o, h, t, l, v, ok⟩ ⟨ho, hk⟩
  dsimp only at ho hk ⊢
  simp only [p_dag_Order.s2]
  rcases hk with ⟨rfl, hk, ht⟩ | ⟨rfl, hk⟩
  · left
    obtain ⟨hvl, hv0, hv1, hk'⟩ := hk.pop
    have hm : ∀ x ∈ l, 0 ≤ x ∧ x < n := fun x hx => by
      have := (hk.mem x).1 (by simp [hx]); exact ⟨this.1, this.2.1⟩
    have nd : l.Nodup := (List.nodup_append.1 hk.nd).1
    have hlen := nodup_short nd hm ⟨hv0, hv1⟩ hvl
    have ho' : IsO n o (opn arcs (l ++ [v]) v 0) := ⟨ho.1, fun w h0 h1 => by
      rw [ho.2 w h0 h1]; unfold opn; rw [List.drop_zero, ← ahd_snoc hvl w arcs]⟩
    obtain ⟨⟨o', h', t'⟩, e1, ho2, hk2, ht2⟩ := oInner hr hn hl hv0 hv1 (t := t) ho' hk' (by rw [ht]; simp)
    dsimp only at ho2 hk2 ht2
    obtain ⟨v', ok', m, e2, hd⟩ := oPop hn hk2 ht2
    rw [if_pos rfl, ck_pos (by simp; omega), ck_pos (by rw [nexts_len]; omega), e1, Option.bind_some]
    dsimp only
    rw [e2, Option.bind_some]
    exact ⟨_, rfl, ⟨ho2, hd⟩, by dsimp only; rw [List.length_append]; simp; omega⟩
  · right
    rw [if_neg (by decide)]
    exact ⟨_, rfl, hk⟩
theorem mOrder {n : Nat} {arcs : List T_api_Arc} (hr : RA n arcs) (hn : n ≤ 4096) (hl : arcs.length ≤ 16384) : ∃ l, Ordd n arcs l ∧ p_dag_Order n arcs = some (if l.length < n then ([], 11) else (l, 0)) := by
  obtain ⟨⟨h, t⟩, e1, hp, ht⟩ := oStart (arcs := arcs) (n := n) (by omega)
  dsimp only at hp ht
  have hk := KI.start hp
  obtain ⟨v, ok, m, e2, hd⟩ := oPop (by omega) hk (t := t) (by rw [ht]; rfl)
  obtain ⟨l, e3, hk3⟩ := oOuter hr (by omega) (by omega) (o := opens n arcs) ⟨opens_len, fun w h0 h1 => gi_opens h0 h1⟩ hd
  refine ⟨l, ⟨by have := hk3.nd; rwa [List.append_nil] at this, fun x => ?_, hk3.tp⟩, ?_⟩
  · constructor
    · intro hx
      have := (hk3.mem x).1 (by simpa using hx)
      exact ⟨this.1, this.2.1, (hk3.peel hr this.1 this.2.1).1 hx⟩
    · rintro ⟨h0, h1, h2⟩
      exact (hk3.peel hr h0 h1).2 h2
  · unfold p_dag_Order
    rw [mRight, Option.bind_some, dec_t ⟨by omega, by omega, hl, by rwa [Int.toNat_natCast]⟩, if_neg (by decide), ck_pos (by omega), Int.toNat_natCast, oNext hr (by omega), Option.bind_some]
    dsimp only [p_heap_New_int]
    rw [Option.bind_some]
    dsimp only
    rw [e1, Option.bind_some]
    dsimp only
    rw [e2, Option.bind_some]
    dsimp only
    rw [e3, Option.bind_some]
    by_cases c : l.length < n
    · rw [ifd_pos (by omega), if_pos c]
    · rw [ifd_neg (by omega), if_neg c]
end Mu
