/- Layer 4: the layers are the least coordinates. -/
import Derived.Test.YtofdeafffbkgbaaMuM04c
set_option linter.unusedVariables false
set_option linter.unusedSimpArgs false
set_option maxRecDepth 10000
namespace Mu
theorem lNext {n : Nat} {arcs : List T_api_Arc} (hr : RA n arcs) (hl : arcs.length ≤ 40000) : loopF (p_layer_Layers.s0 arcs) big ((List.replicate n [] : List (List Int)), 0) = some (nexts n arcs) := by
  refine loop_to (fun k : Nat => (nexts n (arcs.take k), (k : Int))) (n := arcs.length) (big_lt (by omega)) (by simp [nexts_nil]) (fun k hk => ?_) ?_
  · have ha := hr _ (gi_mem hk)
    have ho := outs_le (arcs := arcs.take k) (v := (gi arcs k).From)
    rw [List.length_take] at ho
    simp only [p_layer_Layers.s0]
    rw [ifd_pos (by omega), ck_pos (by omega), Int.toNat_natCast, gi_nexts ha.1 ha.2.1, ck_pos (by rw [nexts_len]; omega), ck_pos (by simp; omega), ckI64 (by omega), nexts_step hk ha.1 ha.2.1, show ((k + 1 : Nat) : Int) = (k : Int) + 1 by omega]
  · simp only [p_layer_Layers.s0]
    rw [ifd_neg (by omega), List.take_length]
theorem lInner {n : Nat} {arcs : List T_api_Arc} (hr : RA n arcs) (hn : n ≤ 40000) (hl : arcs.length ≤ 40000) {x : List Int} {j : Nat} {P : List Int} {v : Int} (hP : P.length ≤ 40000) (hv : gi x j = v) (hv0 : 0 ≤ v) (hv1 : v < n) (hd : ∀ w ∈ outs arcs v, w ∉ P ∧ w ≠ v) {f : Int → Int} {o : List Int} (ho : IsO n o f) (h : LJ n arcs P v 0 f) :
    ∃ r, loopF (p_layer_Layers.s2 x (nexts n arcs) j) big (o, 0) = some r ∧ ∃ f, IsO n r f ∧ LI n arcs (P ++ [v]) f := by
  have hol := outs_le (arcs := arcs) (v := v)
  refine loop_inv (fun (k : Nat) (s : List Int × Int) => (∃ f, IsO n s.1 f ∧ LJ n arcs P v k f) ∧ s.2 = k) (n := (outs arcs v).length) (big_lt (by omega)) ⟨⟨f, ho, h⟩, rfl⟩ ?_ ?_
  · rintro k ⟨o, i⟩ hk ⟨⟨f, ⟨ho1, ho2⟩, hj⟩, hi⟩
    dsimp only at ho1 ho2 hi ⊢
    subst hi
    obtain ⟨a, ha, hf, hto⟩ := mem_outs.1 (gi_mem hk)
    have hra := hr a ha
    have hw0 : 0 ≤ gi (outs arcs v) k := by omega
    have hw1 : gi (outs arcs v) k < n := by omega
    have hdd := hd _ (gi_mem hk)
    have hp := hj.pos _ hw0 hw1
    have hpv := hj.pos _ hv0 hv1
    simp only [p_layer_Layers.s2]
    rw [Int.toNat_natCast, hv, gi_nexts hv0 hv1, ifd_pos (by omega), ck_pos (by omega), Int.toNat_natCast, ck_pos (by omega), ck_pos (by omega), ho2 _ hv0 hv1, ho2 _ hw0 hw1, ckI64 (by omega), ckI64 (by omega)]
    refine ⟨_, rfl, ⟨_, ⟨by rw [List.length_set, ho1], fun w h0 h1 => ?_⟩, hj.step hr ⟨hv0, hv1⟩ hk rfl hdd.1 hdd.2⟩, by dsimp only; omega⟩
    rw [gi_set (by omega), ho2 w h0 h1]
    by_cases c : w = gi (outs arcs v) k
    · rw [if_pos c, if_pos (by omega)]
    · rw [if_neg c, if_neg (by omega)]
  · rintro ⟨o, i⟩ ⟨⟨f, ho, hj⟩, hi⟩
    dsimp only at ho hi ⊢
    subst hi
    simp only [p_layer_Layers.s2]
    rw [Int.toNat_natCast, hv, gi_nexts hv0 hv1, ifd_neg (by omega)]
    exact ⟨_, rfl, f, ho, hj.stop⟩
theorem lOuter {n : Nat} {arcs : List T_api_Arc} (hr : RA n arcs) (hn : n ≤ 40000) (hl : arcs.length ≤ 40000) {l : List Int} (h : Ordd n arcs l) :
    ∃ r, loopF (p_layer_Layers.s1 l (nexts n arcs)) big (List.replicate n (0 : Int), 0) = some r ∧ ∃ f, IsO n r f ∧ LI n arcs l f := by
  have hln := nodup_len h.nd (fun x hx => ⟨((h.mem x).1 hx).1, ((h.mem x).1 hx).2.1⟩)
  refine loop_inv (fun (k : Nat) (s : List Int × Int) => (∃ f, IsO n s.1 f ∧ LI n arcs (l.take k) f) ∧ s.2 = k) (n := l.length) (big_lt (by omega)) ⟨⟨fun _ => 0, ⟨by simp, fun w h0 h1 => ?_⟩, ⟨fun v _ _ => by simp, fun a _ hp => by simp at hp, fun v _ _ hp => by simp at hp⟩⟩, rfl⟩ ?_ ?_
  · rw [gi_eq (by simp; omega)]; simp
  · rintro k ⟨o, i⟩ hk ⟨⟨f, ho, hj⟩, hi⟩
    dsimp only at ho hi ⊢
    subst hi
    have hm := (h.mem _).1 (gi_mem hk)
    have hsplit : l = l.take k ++ gi l k :: l.drop (k + 1) := by
      rw [← drop_gi hk, List.take_append_drop]
    have hd : ∀ w ∈ outs arcs (gi l k), w ∉ l.take k ∧ w ≠ gi l k := by
      intro w hw
      obtain ⟨a, ha, hf, hto⟩ := mem_outs.1 hw
      have hnd := h.nd
      rw [hsplit, List.nodup_append] at hnd
      have hout : gi l k ∉ l.take k := fun hh => hnd.2.2 _ hh _ (by simp) rfl
      constructor
      · intro hw
        obtain ⟨s, t, e⟩ := List.append_of_mem hw
        have := h.tp s w (t ++ gi l k :: l.drop (k + 1)) (hsplit.trans (by rw [e]; simp)) a ha hto
        rw [hf] at this
        exact hout (by rw [e]; simp [this])
      · intro hw
        have := h.tp _ _ _ hsplit a ha (hto.trans hw)
        rw [hf] at this
        exact hout this
    obtain ⟨r, e1, f', ho', hj'⟩ := lInner hr hn hl (x := l) (j := k) (P := l.take k) (by rw [List.length_take]; omega) rfl hm.1 hm.2.1 hd ho (hj.start hm.1 hm.2.1)
    simp only [p_layer_Layers.s1]
    rw [ifd_pos (by omega), ck_pos (by omega), Int.toNat_natCast, ck_pos (by rw [nexts_len]; omega), e1, Option.bind_some, ckI64 (by omega)]
    exact ⟨_, rfl, ⟨f', ho', by rw [take_gi hk]; exact hj'⟩, by dsimp only; omega⟩
  · rintro ⟨o, i⟩ ⟨⟨f, ho, hj⟩, hi⟩
    dsimp only at ho hi ⊢
    subst hi
    simp only [p_layer_Layers.s1]
    rw [ifd_neg (by omega)]
    rw [List.take_length] at hj
    exact ⟨_, rfl, f, ho, hj⟩
theorem mLayersBad {n : Nat} {arcs : List T_api_Arc} (hr : RA n arcs) (hn : n ≤ 4096) (hl : arcs.length ≤ 16384) {x : Int} (h0 : 0 ≤ x) (h1 : x < n) (h : ¬ Peel arcs x) : p_layer_Layers n arcs = some ([], 11) := by
  obtain ⟨l, ho, e⟩ := mOrder hr hn hl
  have := nodup_short ho.nd (fun x hx => ⟨((ho.mem x).1 hx).1, ((ho.mem x).1 hx).2.1⟩) ⟨h0, h1⟩ (fun hx => h ((ho.mem x).1 hx).2.2)
  unfold p_layer_Layers
  rw [e, if_pos this, Option.bind_some]
  rfl
theorem mLayers {n : Nat} {arcs : List T_api_Arc} (hr : RA n arcs) (hn : n ≤ 4096) (hl : arcs.length ≤ 16384) (hp : ∀ x : Int, 0 ≤ x → x < n → Peel arcs x) : ∃ x, p_layer_Layers n arcs = some (x, 0) ∧ Lay n arcs x := by
  obtain ⟨l, ho, e⟩ := mOrder hr hn hl
  have hln := nodup_all ho.nd (fun x => by rw [ho.mem x]; exact ⟨fun h => ⟨h.1, h.2.1⟩, fun h => ⟨h.1, h.2, hp x h.1 h.2⟩⟩)
  obtain ⟨x, e1, f, hf, hi⟩ := lOuter hr (by omega) (by omega) ho
  have hin : ∀ a ∈ arcs, a.From ∈ l := fun a ha => (ho.mem _).2 ⟨(hr a ha).1, (hr a ha).2.1, hp _ (hr a ha).1 (hr a ha).2.1⟩
  refine ⟨x, ?_, ⟨hf.1, fun v hv => ?_, fun a ha => ?_, fun v hv h0 => ?_⟩⟩
  · unfold p_layer_Layers
    rw [e, if_neg (by omega), Option.bind_some]
    dsimp only
    rw [ifn_neg rfl, ck_pos (by omega), Int.toNat_natCast, lNext hr (by omega), Option.bind_some, e1, Option.bind_some]
  · have := hf.2 (v : Int) (by omega) (by omega)
    rw [Int.toNat_natCast] at this
    have h2 := hi.pos v (by omega) (by omega)
    omega
  · have hra := hr a ha
    rw [hf.2 _ hra.1 hra.2.1, hf.2 _ hra.2.2.1 hra.2.2.2.1]
    exact hi.fit a ha (hin a ha)
  · have := hf.2 (v : Int) (by omega) (by omega)
    rw [Int.toNat_natCast] at this
    obtain ⟨a, ha, h1, h2, h3⟩ := hi.tight v (by omega) (by omega) (by omega)
    refine ⟨a, ha, h1, ?_⟩
    rw [hf.2 _ (hr a ha).1 (hr a ha).2.1]; omega
theorem Lay.least {n : Nat} {arcs : List T_api_Arc} {x : List Int} (h : Lay n arcs x) (hr : RA n arcs) (hu : ∀ a ∈ arcs, a.From < a.To) {y : List Int} {m : Int} (hy : ∀ a ∈ arcs, gi y a.From.toNat + 1 ≤ gi y a.To.toNat) (hm : ∀ v : Nat, v < n → m ≤ gi y v) : ∀ v : Nat, v < n → gi x v + m ≤ gi y v := by
  intro v
  induction v using Nat.strongRecOn with
  | _ v ih =>
    intro hv
    by_cases c : 0 < gi x v
    · obtain ⟨a, ha, h1, h2⟩ := h.tight v hv c
      have hra := hr a ha
      have := hu a ha
      have q := ih a.From.toNat (by omega) (by omega)
      have := hy a ha
      rw [show a.To.toNat = v by omega] at this
      omega
    · have := h.pos v hv
      have := hm v hv
      omega
/-! the given graphs -/
structure Gr (n : Nat) (arcs : List T_api_Arc) : Prop where
  ra : RA n arcs
  up : ∀ a ∈ arcs, a.From < a.To
  len : arcs.length ≤ 40
theorem mGraph {z : T_muntinref03_Raw} {most : Nat} (hN : 0 ≤ z.N ∧ z.N ≤ 255) (hA : ∀ y ∈ z.Arcs, 0 ≤ y.a ∧ y.a ≤ 255 ∧ 0 ≤ y.b ∧ y.b ≤ 255 ∧ 0 ≤ y.c ∧ y.c ≤ 255) (hm : 0 < most) (hm2 : most ≤ 1000) : ∃ n : Nat, ∃ arcs, 0 < n ∧ n ≤ most ∧ Gr n arcs ∧ p_muntinref03_Make z most = some ((n : Int), arcs) := by
  have e : z.N.tmod most = ((z.N.toNat % most : Nat) : Int) := by
    obtain ⟨k, hk⟩ := Int.eq_ofNat_of_zero_le hN.1
    rw [hk, Int.toNat_natCast, Int.tmod_eq_emod_of_nonneg (by omega)]; omega
  have hlt := Nat.mod_lt z.N.toNat hm
  generalize hk : 1 + z.N.toNat % most = n
  have e1 : 1 + z.N.tmod most = (n : Int) := by omega
  have : ∃ r, loopF (p_muntinref03_Make.s0 z most) big (([] : List T_api_Arc), 0) = some r ∧ Gr n r := by
    refine loop_inv (fun (k : Nat) (s : List T_api_Arc × Int) => RA n s.1 ∧ (∀ a ∈ s.1, a.From < a.To) ∧ s.1.length ≤ k ∧ s.2 = k) (n := min z.Arcs.length 40) (big_lt (by omega)) ⟨fun a ha => by simp at ha, fun a ha => by simp at ha, by simp, rfl⟩ ?_ ?_
    · rintro k ⟨l, i⟩ hk ⟨h1, h2, h3, h4⟩
      dsimp only at h1 h2 h3 h4 ⊢
      subst h4
      have hk1 : k < z.Arcs.length := by omega
      have hA1 := hA _ (gi_mem hk1)
      simp only [p_muntinref03_Make.s0]
      rw [if_pos (by simp; omega), ck_pos (by omega), Int.toNat_natCast, e1]
      generalize gi z.Arcs k = t at hA1 ⊢
      obtain ⟨ta, tb, tc⟩ := t
      dsimp only at hA1
      have g0 : (⟨ta, tb, tc⟩ : A3 Int).get 0 = ta := rfl
      have g1 : (⟨ta, tb, tc⟩ : A3 Int).get 1 = tb := rfl
      have g2 : (⟨ta, tb, tc⟩ : A3 Int).get 2 = tc := rfl
      have hn0 : (0 : Int) < n := by omega
      have a0 := Int.emod_nonneg ta (b := n) (by omega)
      have a1 := Int.emod_lt_of_pos ta hn0
      have b0 := Int.emod_nonneg tb (b := n) (by omega)
      have b1 := Int.emod_lt_of_pos tb hn0
      rw [g0, g1, g2, ckK64 (by omega), ck_pos (by omega), ckK64 (by omega), Int.tmod_eq_emod_of_nonneg hA1.1, Int.tmod_eq_emod_of_nonneg hA1.2.2.1, Int.tmod_eq_emod_of_nonneg hA1.2.2.2.2.1]
      generalize ta % (n : Int) = u at a0 a1
      generalize tb % (n : Int) = v at b0 b1
      have hx : ∃ p q : Int, (if decide (v < u) = true then some (v, u) else some (u, v)) = some (p, q) ∧ 0 ≤ p ∧ p < n ∧ 0 ≤ q ∧ q < n ∧ p ≤ q := by
        by_cases c : v < u
        · exact ⟨v, u, by rw [ifd_pos c], by omega, by omega, by omega, by omega, by omega⟩
        · exact ⟨u, v, by rw [ifd_neg c], by omega, by omega, by omega, by omega, by omega⟩
      obtain ⟨p, q, e3, p0, p1, q0, q1, pq⟩ := hx
      rw [e3, Option.bind_some]
      dsimp only
      by_cases c : p < q
      · rw [ifd_pos c, ckK64 (by omega), ck_pos (by simp; omega), ckI64 (by omega)]
        have hmem : ∀ a ∈ l ++ [(⟨p, q, tc % 8⟩ : T_api_Arc)], a ∈ l ∨ a = ⟨p, q, tc % 8⟩ := fun a ha => by simpa using ha
        refine ⟨_, rfl, fun a ha => ?_, fun a ha => ?_, by simp; omega, by dsimp only; omega⟩
        · rcases hmem a ha with ha | rfl
          · exact h1 a ha
          · dsimp only; omega
        · rcases hmem a ha with ha | rfl
          · exact h2 a ha
          · exact c
      · rw [ifd_neg c, ckI64 (by omega)]
        exact ⟨_, rfl, h1, h2, by dsimp only; omega, by dsimp only; omega⟩
    · rintro ⟨l, i⟩ ⟨h1, h2, h3, h4⟩
      dsimp only at h1 h2 h3 h4 ⊢
      subst h4
      simp only [p_muntinref03_Make.s0]
      rw [if_neg (by simp; omega)]
      exact ⟨_, rfl, h1, h2, by omega⟩
  obtain ⟨l, e2, hg⟩ := this
  refine ⟨n, l, by omega, by omega, hg, ?_⟩
  unfold p_muntinref03_Make
  rw [ckK64 (by omega), ck_pos (by omega), ckI64 (by omega), e2, Option.bind_some, e1]
end Mu
