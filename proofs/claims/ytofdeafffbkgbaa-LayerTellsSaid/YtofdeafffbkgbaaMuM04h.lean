/- Layer 4: LayerTells and LayerMore. -/
import Derived.Test.YtofdeafffbkgbaaMuM04g
set_option linter.unusedVariables false
set_option linter.unusedSimpArgs false
set_option maxRecDepth 10000
namespace Mu
theorem rRight {n : Int} {arcs : List T_api_Arc} : p_muntinref03_Right n arcs = some (decide (0 ≤ n ∧ n ≤ 4096 ∧ arcs.length ≤ 16384 ∧ RA n.toNat arcs)) := by
  unfold p_muntinref03_Right
  by_cases c : 0 ≤ n ∧ n ≤ 4096 ∧ arcs.length ≤ 16384
  · have h : loopF (p_muntinref03_Right.s0 n arcs) big 0 = some (match (List.range arcs.length).find? (fun i => badArc n (gi arcs i)) with | some i => .inr () | none => .inl ()) := by
      refine loop_find (n := arcs.length) (P := fun i => badArc n (gi arcs i)) (f := fun i => ()) (big_lt (by omega)) (fun i hi => ?_) ?_
      · simp only [p_muntinref03_Right.s0]
        rw [ifd_pos (by omega), ck_pos (by omega), Int.toNat_natCast, ckI64 (by omega)]
        show (if badArc n (gi arcs i) = true then _ else _) = _
        cases badArc n (gi arcs i) <;> rfl
      · simp only [p_muntinref03_Right.s0]
        rw [ifd_neg (by omega)]
    have q : (decide (n < 0) || decide (4096 < n) || decide (16384 < (arcs.length : Int))) = false := by simp; omega
    rw [q, if_neg Bool.false_ne_true, h, Option.bind_some]
    cases hf : (List.range arcs.length).find? (fun i => badArc n (gi arcs i)) with
    | none =>
      rw [List.find?_range_eq_none] at hf
      dsimp only
      rw [dec_t]
      refine ⟨c.1, c.2.1, c.2.2, fun a ha => ?_⟩
      obtain ⟨i, hi, rfl⟩ := List.mem_iff_getElem.1 ha
      have := hf i hi
      rw [gi_eq hi] at this
      simp [badArc] at this
      omega
    | some i =>
      rw [List.find?_range_eq_some] at hf
      obtain ⟨h1, h2, _⟩ := hf
      have hi : i < arcs.length := by simpa using h2
      dsimp only
      rw [dec_f]
      rintro ⟨_, _, _, hr⟩
      have := hr _ (gi_mem hi)
      simp [badArc] at h1
      omega
  · rw [if_pos (by simp; omega), dec_f (by omega)]
/-- Is v free? -/
def freeP (arcs : List T_api_Arc) (i_ : List Bool) (v : Nat) : Prop := gi i_ v = false ∧ ∀ a ∈ arcs, a.To = v → gi i_ a.From.toNat = true
theorem rFree {n : Nat} {arcs : List T_api_Arc} {i_ : List Bool} (hr : RA n arcs) (hl : i_.length = n) (hn : arcs.length ≤ 40000) {v : Nat} : ∃ r, loopF (p_muntinref03_Order.s2 arcs i_ v) big (!(gi i_ v), 0) = some r ∧ (r = true ↔ freeP arcs i_ v) := by
  refine loop_meas (fun s : Bool × Int => arcs.length - s.2.toNat) (fun s => 0 ≤ s.2 ∧ s.2 ≤ arcs.length ∧ (s.1 = true ↔ gi i_ v = false ∧ ∀ j, j < s.2.toNat → (gi arcs j).To = v → gi i_ (gi arcs j).From.toNat = true)) (big_lt (by dsimp only; omega)) ⟨by dsimp only; omega, by dsimp only; omega, ?_⟩ ?_
  · dsimp only
    constructor
    · intro h; exact ⟨by simpa using h, fun j hj => by simp at hj⟩
    · intro h; simp [h.1]
  · rintro ⟨f, i⟩ ⟨h0, h1, h2⟩
    dsimp only at h0 h1 h2 ⊢
    obtain ⟨i, rfl⟩ := Int.eq_ofNat_of_zero_le h0
    rw [Int.toNat_natCast] at h2
    simp only [p_muntinref03_Order.s2]
    cases f with
    | false =>
      right
      rw [if_neg (by simp)]
      refine ⟨_, rfl, ?_⟩
      constructor
      · intro h; cases h
      · intro h
        exact h2.2 ⟨h.1, fun j hj ht => h.2 _ (gi_mem (by omega)) ht⟩
    | true =>
      have h3 := h2.1 rfl
      by_cases c : i < arcs.length
      · left
        have ha := hr _ (gi_mem c)
        rw [if_pos (by simp; omega), ck_pos (by omega), Int.toNat_natCast]
        have e : (if (!decide ((gi arcs i).To = (v : Int))) = true then some true else ck ((0 : Int) ≤ ((gi arcs i).From) ∧ ((gi arcs i).From) < (i_.length : Int)) (some (gi i_ ((gi arcs i).From : Int).toNat))) = some (decide ((gi arcs i).To = (v : Int) → gi i_ (gi arcs i).From.toNat = true)) := by
          by_cases d : (gi arcs i).To = (v : Int)
          · rw [ifn_neg d, ck_pos (by omega)]
            cases q : gi i_ (gi arcs i).From.toNat with
            | true => rw [dec_t (fun _ => rfl)]
            | false => rw [dec_f (fun h => by have := h d; cases this)]
          · rw [ifn_pos d, dec_t (fun h => absurd h d)]
        rw [e, Option.bind_some, ckI64 (by omega)]
        refine ⟨_, rfl, ⟨by dsimp only; omega, by dsimp only; omega, ?_⟩, by dsimp only; omega⟩
        dsimp only
        rw [decide_eq_true_eq, show ((i : Int) + 1).toNat = i + 1 by omega]
        constructor
        · intro h
          refine ⟨h3.1, fun j hj ht => ?_⟩
          by_cases q : j = i
          · subst q; exact h ht
          · exact h3.2 j (by omega) ht
        · intro h ht; exact h.2 i (by omega) ht
      · right
        rw [if_neg (by simp; omega)]
        refine ⟨_, rfl, ?_⟩
        constructor
        · intro _
          refine ⟨h3.1, fun a ha ht => ?_⟩
          obtain ⟨j, hj, rfl⟩ := List.mem_iff_getElem.1 ha
          have := h3.2 j (by omega)
          rw [gi_eq hj] at this
          exact this ht
        · intro _; rfl
theorem rNext {n : Nat} {arcs : List T_api_Arc} {i_ : List Bool} (hr : RA n arcs) (hl : i_.length = n) (hn : arcs.length ≤ 40000) (hN : n ≤ 40000) : ∃ r, loopF (p_muntinref03_Order.s1 arcs i_) big (-1, (n : Int) - 1) = some r ∧ ((r = -1 ∧ ∀ u, u < n → ¬ freeP arcs i_ u) ∨ ∃ u : Nat, r = u ∧ u < n ∧ freeP arcs i_ u) := by
  refine loop_inv (fun (k : Nat) (s : Int × Int) => s.2 = (n : Int) - 1 - k ∧ ((s.1 = -1 ∧ ∀ u, n - k ≤ u → u < n → ¬ freeP arcs i_ u) ∨ ∃ u : Nat, s.1 = u ∧ u < n ∧ freeP arcs i_ u)) (n := n) (big_lt (by omega)) ⟨by dsimp only; omega, .inl ⟨rfl, fun u h1 h2 => by omega⟩⟩ ?_ ?_
  · rintro k ⟨x, v⟩ hk ⟨h1, h2⟩
    dsimp only at h1 h2 ⊢
    obtain ⟨w, hw⟩ : ∃ w : Nat, v = (w : Int) := ⟨v.toNat, by omega⟩
    subst hw
    obtain ⟨r, e, hf⟩ := rFree hr hl hn (v := w)
    simp only [p_muntinref03_Order.s1]
    rw [ifd_pos (by omega), ck_pos (by omega), Int.toNat_natCast, e, Option.bind_some]
    cases r with
    | true =>
      rw [if_pos rfl, ckI64 (by omega)]
      exact ⟨_, rfl, by dsimp only; omega, .inr ⟨w, rfl, by omega, hf.1 rfl⟩⟩
    | false =>
      rw [if_neg (by decide), ckI64 (by omega)]
      refine ⟨_, rfl, by dsimp only; omega, ?_⟩
      dsimp only
      rcases h2 with ⟨a, b⟩ | h2
      · refine .inl ⟨a, fun u h3 h4 => ?_⟩
        by_cases c : u = w
        · subst c; intro hh; have := hf.2 hh; cases this
        · exact b u (by omega) h4
      · exact .inr h2
  · rintro ⟨x, v⟩ ⟨h1, h2⟩
    dsimp only at h1 h2 ⊢
    simp only [p_muntinref03_Order.s1]
    rw [ifd_neg (by omega)]
    refine ⟨_, rfl, ?_⟩
    rcases h2 with ⟨a, b⟩ | h2
    · exact .inl ⟨a, fun u h => b u (by omega) h⟩
    · exact .inr h2
theorem rOrder {n : Nat} {arcs : List T_api_Arc} (hr : RA n arcs) (hn : n ≤ 4096) (hl : arcs.length ≤ 16384) : ∃ l e, p_muntinref03_Order n arcs = some (l, e) ∧ ((e = 0 ∧ ∀ x : Int, 0 ≤ x → x < n → Peel arcs x) ∨ (e = 11 ∧ ¬ ∀ x : Int, 0 ≤ x → x < n → Peel arcs x)) := by
  have : ∃ r : List Int ⊕ Unit, loopF (p_muntinref03_Order.s0 n arcs) big (List.replicate n false, ([] : List Int)) = some r ∧ match r with | .inl _ => (∀ x : Int, 0 ≤ x → x < n → Peel arcs x) | .inr _ => ¬ ∀ x : Int, 0 ≤ x → x < n → Peel arcs x := by
    refine loop_meas (fun s : List Bool × List Int => n - s.2.length) (fun s => s.1.length = n ∧ s.2.Nodup ∧ (∀ x ∈ s.2, (0 ≤ x ∧ x < n) ∧ Peel arcs x) ∧ ∀ u : Nat, u < n → (gi s.1 u = true ↔ (u : Int) ∈ s.2)) (big_lt (by dsimp only; omega)) ⟨by simp, by simp, fun x hx => by simp at hx, fun u hu => ?_⟩ ?_
    · dsimp only
      rw [gi_eq (by simpa using hu)]; simp
    · rintro ⟨i_, l⟩ ⟨h1, h2, h3, h4⟩
      dsimp only at h1 h2 h3 h4 ⊢
      have hlen := nodup_len h2 (fun x hx => (h3 x hx).1)
      simp only [p_muntinref03_Order.s0]
      by_cases c : l.length < n
      · rw [ifd_pos (by omega), ckI64 (by omega)]
        obtain ⟨r, e, hf⟩ := rNext hr h1 (by omega) (by omega)
        rw [e, Option.bind_some]
        rcases hf with ⟨rfl, hf⟩ | ⟨u, rfl, hu, hf⟩
        · right
          rw [ifd_pos (by decide)]
          refine ⟨_, rfl, fun hall => ?_⟩
          have key : ∀ x : Int, Peel arcs x → 0 ≤ x → x < n → x ∈ l := by
            intro x hx
            induction hx with
            | mk v hv ih =>
              intro v0 v1
              obtain ⟨w, rfl⟩ := Int.eq_ofNat_of_zero_le v0
              by_cases q : (w : Int) ∈ l
              · exact q
              · refine absurd ⟨?_, fun a ha ht => ?_⟩ (hf w (by omega))
                · cases z : gi i_ w with
                  | false => rfl
                  | true => exact absurd ((h4 w (by omega)).1 z) q
                · have hra := hr a ha
                  have := ih a ha ht hra.1 hra.2.1
                  refine (h4 _ (by omega)).2 ?_
                  rwa [Int.toNat_of_nonneg hra.1]
          have := nodup_all h2 (fun x => ⟨fun hx => (h3 x hx).1, fun hx => key x (hall x hx.1 hx.2) hx.1 hx.2⟩)
          omega
        · left
          have hul : (u : Int) ∉ l := fun hh => by
            have := (h4 u hu).2 hh
            rw [hf.1] at this; cases this
          rw [ifd_neg (by omega), ck_pos (by omega), ck_pos (by simp; omega), Int.toNat_natCast]
          refine ⟨_, rfl, ⟨by simp [h1], ?_, fun x hx => ?_, fun w hw => ?_⟩, by dsimp only; rw [List.length_append]; simp; omega⟩
          · dsimp only
            rw [List.nodup_append]
            exact ⟨h2, by simp, fun a ha b hb => by
              rw [List.mem_singleton] at hb; subst hb; exact fun e => hul (e ▸ ha)⟩
          · dsimp only at hx
            rw [List.mem_append, List.mem_singleton] at hx
            rcases hx with hx | rfl
            · exact h3 x hx
            · refine ⟨by omega, .mk _ fun a ha ht => ?_⟩
              have hra := hr a ha
              have := (h4 a.From.toNat (by omega)).1 (hf.2 a ha ht)
              rw [Int.toNat_of_nonneg hra.1] at this
              exact (h3 _ this).2
          · dsimp only
            rw [gi_set (by omega), List.mem_append, List.mem_singleton]
            by_cases q : w = u
            · subst q; simp
            · rw [if_neg q, h4 w hw]; simp; omega
      · right
        rw [ifd_neg (by omega)]
        refine ⟨_, rfl, fun x h0 h5 => ?_⟩
        by_cases q : x ∈ l
        · exact (h3 x q).2
        · have := nodup_short h2 (fun x hx => (h3 x hx).1) ⟨h0, h5⟩ q
          omega
  obtain ⟨r, e, hR⟩ := this
  unfold p_muntinref03_Order
  rw [rRight, Option.bind_some, dec_t ⟨by omega, by omega, hl, by rwa [Int.toNat_natCast]⟩, if_neg (by decide), ck_pos (by omega), Int.toNat_natCast, e, Option.bind_some]
  cases r with
  | inl l => exact ⟨_, _, rfl, .inl ⟨rfl, hR⟩⟩
  | inr l => exact ⟨_, _, rfl, .inr ⟨rfl, hR⟩⟩
theorem rOrderBad {n : Nat} {arcs : List T_api_Arc} (hr : ¬ RA n arcs) : p_muntinref03_Order n arcs = some ([], 2) := by
  unfold p_muntinref03_Order
  rw [rRight, Option.bind_some, dec_f (fun h => hr (by have := h.2.2.2; rwa [Int.toNat_natCast] at this)), if_pos (by decide)]
theorem mLayersArg {n : Nat} {arcs : List T_api_Arc} (hr : ¬ RA n arcs) : p_layer_Layers n arcs = some ([], 2) := by
  unfold p_layer_Layers p_dag_Order
  rw [mRight, Option.bind_some, dec_f (fun h => hr (by have := h.2.2.2; rwa [Int.toNat_natCast] at this)), if_pos (by decide), Option.bind_some]
  rfl
theorem set_self {l : List Int} {i : Nat} {x : Int} (hi : i < l.length) (hx : x = gi l i) : l.set i x = l := by
  apply list_ext (by simp)
  intro j hj
  rw [gi_set hi]
  split
  · rename_i h; rw [hx, h]
  · rfl
theorem rRaise {n : Nat} {arcs : List T_api_Arc} (hg : Gr n arcs) (hn : n ≤ 1000) {r : Nat} {l x : List Int} (hx : Lay n arcs x) (h : RS n arcs r l) (hle : ∀ v : Nat, v < n → gi l v ≤ gi x v) : ∃ l', loopF (p_muntinref04_Layers.s1 arcs) big (l, 0) = some l' ∧ (RS n arcs (r + 1) l' ∧ ∀ v : Nat, v < n → gi l' v ≤ gi x v) := by
  have hA := hg.len
  refine loop_inv (fun (k : Nat) (s : List Int × Int) => (RS n arcs r s.1 ∧ (∀ i, i < k → (gi arcs i).To = r → sat s.1 (gi arcs i)) ∧ ∀ v : Nat, v < n → gi s.1 v ≤ gi x v) ∧ s.2 = k) (n := arcs.length) (big_lt (by omega)) ⟨⟨h, fun i hi => by omega, hle⟩, rfl⟩ ?_ ?_
  · rintro k ⟨l, j⟩ hk ⟨⟨h1, h2, h4⟩, h3⟩
    dsimp only at h1 h2 h3 h4 ⊢
    subst h3
    have ha := hg.ra _ (gi_mem hk)
    have hlen := h1.len
    have p2 := h1.pos (gi arcs k).From.toNat (by omega)
    have hf := hx.fit _ (gi_mem hk)
    have q1 := h4 (gi arcs k).From.toNat (by omega)
    have q2 := h4 (gi arcs k).To.toNat (by omega)
    have hgo : ∃ l', p_muntinref04_Layers.s1 arcs (l, (k : Int)) = some (.inl (l', (k : Int) + 1)) ∧ l' = l.set (gi arcs k).To.toNat (max (gi l (gi arcs k).To.toNat) (gi l (gi arcs k).From.toNat + 1)) := by
      simp only [p_muntinref04_Layers.s1]
      rw [ifd_pos (by omega), ck_pos (by omega), Int.toNat_natCast, ck_pos (by omega), ck_pos (by omega)]
      by_cases c : gi l (gi arcs k).To.toNat ≤ gi l (gi arcs k).From.toNat
      · rw [ifd_pos c, ckI64 (by omega), ckI64 (by omega)]
        exact ⟨_, rfl, by rw [show max (gi l (gi arcs k).To.toNat) (gi l (gi arcs k).From.toNat + 1) = gi l (gi arcs k).From.toNat + 1 by omega]⟩
      · rw [ifd_neg c, ckI64 (by omega)]
        exact ⟨_, rfl, (set_self (by omega) (by omega)).symm⟩
    obtain ⟨l', e, hl'⟩ := hgo
    have st := h1.step hg hk h2 hl'
    refine ⟨_, e, ⟨st.1, st.2, fun v hv => ?_⟩, by dsimp only; omega⟩
    dsimp only
    rw [hl', gi_set (by omega)]
    split
    · rename_i c; subst c; omega
    · exact h4 v hv
  · rintro ⟨l, j⟩ ⟨⟨h1, h2, h4⟩, h3⟩
    dsimp only at h1 h2 h3 h4 ⊢
    subst h3
    simp only [p_muntinref04_Layers.s1]
    rw [ifd_neg (by omega)]
    refine ⟨_, rfl, ⟨h1.len, h1.pos, fun a ha hr => ?_⟩, h4⟩
    by_cases c : a.To < r
    · exact h1.fit a ha c
    · obtain ⟨i, hi, rfl⟩ := List.mem_iff_getElem.1 ha
      have := h2 i hi (by rw [gi_eq hi]; omega)
      rwa [gi_eq hi] at this
theorem rLayers {n : Nat} {arcs : List T_api_Arc} (hg : Gr n arcs) (hn : n ≤ 1000) {x : List Int} (hx : Lay n arcs x) : p_muntinref04_Layers n arcs = some x := by
  have z : ∀ v : Nat, v < n → gi (List.replicate n (0 : Int)) v = 0 := fun v hv => by rw [gi_eq (by simpa using hv)]; simp
  have : ∃ l, loopF (p_muntinref04_Layers.s0 n arcs) big (List.replicate n (0 : Int), 0) = some l ∧ l = x := by
    refine loop_inv (fun (k : Nat) (s : List Int × Int) => (RS n arcs k s.1 ∧ ∀ v : Nat, v < n → gi s.1 v ≤ gi x v) ∧ s.2 = k) (n := n + 1) (big_lt (by omega)) ⟨⟨⟨by simp, fun v hv => ?_, fun a ha ht => ?_⟩, fun v hv => ?_⟩, rfl⟩ ?_ ?_
    · dsimp only; rw [z v hv]; omega
    · have := hg.ra a ha; omega
    · dsimp only; rw [z v hv]; exact (hx.pos v hv).1
    · rintro k ⟨l, j⟩ hk ⟨⟨h1, h2⟩, h3⟩
      dsimp only at h1 h2 h3 ⊢
      subst h3
      obtain ⟨l', e, h4⟩ := rRaise hg hn hx h1 h2
      simp only [p_muntinref04_Layers.s0]
      rw [ifd_pos (by omega), e, Option.bind_some, ckI64 (by omega)]
      exact ⟨_, rfl, h4, by dsimp only; omega⟩
    · rintro ⟨l, j⟩ ⟨⟨h1, h2⟩, h3⟩
      dsimp only at h1 h2 h3 ⊢
      subst h3
      simp only [p_muntinref04_Layers.s0]
      rw [ifd_neg (by omega)]
      refine ⟨_, rfl, list_ext (h1.len.trans hx.len.symm) fun i hi => ?_⟩
      have hi' : i < n := by have := h1.len; omega
      have a := h2 i hi'
      have b := hx.least hg.ra hg.up (y := l) (m := 0) (fun a ha => h1.fit a ha (by have := hg.ra a ha; omega)) (fun v hv => (h1.pos v hv).1) i hi'
      omega
  obtain ⟨l, e, rfl⟩ := this
  unfold p_muntinref04_Layers
  rw [ck_pos (by omega), Int.toNat_natCast, e, Option.bind_some]
theorem rSpan {x : List Int} {M m : Int} (hx : x.length ≤ 1000000) (hb : ∀ i, i < x.length → 0 ≤ gi x i ∧ gi x i ≤ 1000000) (h0 : 0 < x.length) (h : ∀ i, i < x.length → m ≤ gi x i ∧ gi x i ≤ M) (hM : ∃ i, i < x.length ∧ gi x i = M) (hm : ∃ i, i < x.length ∧ gi x i = m) : p_muntinref04_Span x = some (M - m) := by
  have : ∃ r, loopF (p_muntinref04_Span.s0 x) big (0, 0, 0) = some r ∧ (r.1 = m ∧ r.2 = M) := by
    refine loop_inv (fun (k : Nat) (s : Int × Int × Int) => s.2.2 = k ∧ (0 < k → (∀ i, i < k → s.1 ≤ gi x i ∧ gi x i ≤ s.2.1) ∧ (∃ i, i < k ∧ gi x i = s.1) ∧ ∃ i, i < k ∧ gi x i = s.2.1)) (n := x.length) (big_lt (by omega)) ⟨rfl, fun h => by omega⟩ ?_ ?_
    · rintro k ⟨lo, hi, j⟩ hk ⟨h1, h2⟩
      dsimp only at h1 h2 ⊢
      subst h1
      simp only [p_muntinref04_Span.s0]
      rw [ifd_pos (by omega)]
      by_cases c : k = 0
      · rw [ifd_pos (show (k : Int) = 0 by omega), Option.bind_some, if_pos rfl, ck_pos (by omega), Option.bind_some, ifd_pos (show (k : Int) = 0 by omega), Option.bind_some, if_pos rfl, ck_pos (by omega), ckI64 (by omega), Int.toNat_natCast]
        refine ⟨_, rfl, by dsimp only; omega, fun _ => ⟨fun i hi => ?_, ⟨k, by omega, rfl⟩, ⟨k, by omega, rfl⟩⟩⟩
        have : i = k := by omega
        subst this
        exact ⟨Int.le_refl _, Int.le_refl _⟩
      · obtain ⟨g1, ⟨a, a1, a2⟩, ⟨b, b1, b2⟩⟩ := h2 (by omega)
        have hlo : ∃ lo', ((if decide (gi x (k : Int).toNat < lo) = true then ck ((0 : Int) ≤ (k : Int) ∧ (k : Int) < (x.length : Int)) (some (gi x (k : Int).toNat)) else some lo) = some lo') ∧ lo' ≤ gi x k ∧ lo' ≤ lo ∧ (lo' = gi x k ∨ lo' = lo) := by
          rw [Int.toNat_natCast, ck_pos (by omega)]
          by_cases d : gi x k < lo
          · exact ⟨gi x k, by rw [ifd_pos d], by omega, by omega, .inl rfl⟩
          · exact ⟨lo, by rw [ifd_neg d], by omega, by omega, .inr rfl⟩
        obtain ⟨lo', l1, l2, l3, l4⟩ := hlo
        rw [ifd_neg (show ¬ (k : Int) = 0 by omega), ck_pos (by omega), Option.bind_some, l1, Option.bind_some, ifd_neg (show ¬ (k : Int) = 0 by omega), ck_pos (by omega), Option.bind_some, Int.toNat_natCast, ck_pos (by omega)]
        have inv : ∀ hi', gi x k ≤ hi' → hi ≤ hi' → (hi' = gi x k ∨ hi' = hi) → (0 < k + 1 → (∀ i, i < k + 1 → lo' ≤ gi x i ∧ gi x i ≤ hi') ∧ (∃ i, i < k + 1 ∧ gi x i = lo') ∧ ∃ i, i < k + 1 ∧ gi x i = hi') := by
          intro hi' e1 e2 e3 _
          refine ⟨fun i hi => ?_, ?_, ?_⟩
          · by_cases q : i = k
            · subst q; omega
            · have := g1 i (by omega); omega
          · rcases l4 with l4 | l4
            · exact ⟨k, by omega, l4.symm⟩
            · exact ⟨a, by omega, by omega⟩
          · rcases e3 with e3 | e3
            · exact ⟨k, by omega, e3.symm⟩
            · exact ⟨b, by omega, by omega⟩
        by_cases d : hi < gi x k
        · rw [ifd_pos d, ckI64 (by omega)]
          exact ⟨_, rfl, by dsimp only; omega, inv (gi x k) (Int.le_refl _) (by omega) (.inl rfl)⟩
        · rw [ifd_neg d, ckI64 (by omega)]
          exact ⟨_, rfl, by dsimp only; omega, inv hi (by omega) (Int.le_refl _) (.inr rfl)⟩
    · rintro ⟨lo, hi, j⟩ ⟨h1, h2⟩
      dsimp only at h1 h2 ⊢
      subst h1
      simp only [p_muntinref04_Span.s0]
      rw [ifd_neg (by omega)]
      refine ⟨_, rfl, ?_⟩
      obtain ⟨g1, ⟨a, a1, a2⟩, ⟨b, b1, b2⟩⟩ := h2 h0
      obtain ⟨c, c1, c2⟩ := hM
      obtain ⟨d, d1, d2⟩ := hm
      have := g1 c c1
      have := g1 d d1
      have := h a a1
      have := h b b1
      dsimp only
      omega
  obtain ⟨⟨lo, hi⟩, e, h1, h2⟩ := this
  dsimp only at h1 h2
  subst h1; subst h2
  obtain ⟨c, c1, c2⟩ := hM
  obtain ⟨d, d1, d2⟩ := hm
  have := hb c c1
  have := hb d d1
  unfold p_muntinref04_Span
  rw [e, Option.bind_some]
  dsimp only
  rw [ckI64 (by omega)]
end Mu
