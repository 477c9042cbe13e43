/- Layer 2: what a heap of numbers holds. -/
import Derived.Test.YtofdeafffbkgbaaMuM04
set_option linter.unusedVariables false
set_option linter.unusedSimpArgs false
set_option maxRecDepth 10000
namespace Mu
abbrev lt2 : Int → Int → Option Bool := fun y0 y1 => p_dag_Order_1 y0 y1
/-- What it holds. -/
def hv (l : List T_heap_item_int) : List Int := l.map (·.x)
theorem count_set_add {α : Type} [DecidableEq α] [Inhabited α] : ∀ {l : List α} {i : Nat} (a b : α), i < l.length → (l.set i a).count b + (if gi l i = b then 1 else 0) = l.count b + (if a = b then 1 else 0)
  | x :: l, 0, a, b, h => by
    show (a :: l).count b + (if x = b then 1 else 0) = _
    simp only [List.count_cons, beq_iff_eq]; omega
  | x :: l, i + 1, a, b, h => by
    have := count_set_add (l := l) (i := i) a b (by simpa using h)
    show (x :: l.set i a).count b + (if gi l i = b then 1 else 0) = _
    simp only [List.count_cons]; omega
def sw (l : List T_heap_item_int) (i k : Nat) : List T_heap_item_int := (l.set i (gi l k)).set k (gi l i)
theorem sw_len {l : List T_heap_item_int} {i k : Nat} : (sw l i k).length = l.length := by simp [sw]
theorem sw_perm {l : List T_heap_item_int} {i k : Nat} (hi : i < l.length) (hk : k < l.length) : (sw l i k).Perm l := by
  rw [List.perm_iff_count]
  intro b
  have h1 := count_set_add (l := l) (i := i) (gi l k) b hi
  have h2 := count_set_add (l := l.set i (gi l k)) (i := k) (gi l i) b (by rw [List.length_set]; exact hk)
  have e : gi (l.set i (gi l k)) k = gi l k := by rw [gi_set hi]; split <;> rfl
  rw [e] at h2
  unfold sw
  omega
theorem hAhead {l : List T_heap_item_int} {t : Int} {i k : Nat} (hi : i < l.length) (hk : k < l.length) : ∃ b, p_heap_Heap_int_ahead ⟨l, t⟩ i k lt2 = some b := by
  simp only [p_heap_Heap_int_ahead, lt2, p_dag_Order_1, Option.bind_some]
  rw [ck_pos (by omega), ck_pos (by omega)]
  split
  · exact ⟨_, rfl⟩
  · split
    · exact ⟨_, rfl⟩
    · exact ⟨_, rfl⟩
theorem hSwap {l : List T_heap_item_int} {t : Int} {i k : Nat} (hi : i < l.length) (hk : k < l.length) : p_heap_Heap_int_swap ⟨l, t⟩ i k lt2 = some ⟨sw l i k, t⟩ := by
  simp only [p_heap_Heap_int_swap]
  rw [ck_pos (by omega), ck_pos (by omega), ck_pos (by rw [List.length_set]; omega)]
  rfl
theorem hPushLoop {l : List T_heap_item_int} {t : Int} (hl : l.length < 1000000000) (h0 : 0 < l.length) : ∃ r, loopF (p_heap_Heap_int_Push.s0 lt2) big (l, t, (l.length : Int) - 1) = some r ∧ (r.1.Perm l ∧ r.2 = t) := by
  refine loop_meas (fun s : List T_heap_item_int × Int × Int => s.2.2.toNat) (fun s => s.1.Perm l ∧ s.2.1 = t ∧ 0 ≤ s.2.2 ∧ s.2.2 < l.length) (big_lt (by dsimp only; omega)) ⟨.refl _, rfl, by dsimp only; omega, by dsimp only; omega⟩ ?_
  rintro ⟨m, u, i⟩ ⟨hp, hu, hi0, hi⟩
  dsimp only at hp hu hi0 hi ⊢
  subst hu
  have hm := hp.length_eq
  simp only [p_heap_Heap_int_Push.s0]
  by_cases c : 0 < i
  · obtain ⟨n, rfl⟩ : ∃ n : Nat, i = ((n + 1 : Nat) : Int) := ⟨(i - 1).toNat, by omega⟩
    have e : (((n + 1 : Nat) : Int) - 1).tdiv 2 = ((n / 2 : Nat) : Int) := by
      rw [show ((n + 1 : Nat) : Int) - 1 = (n : Int) by omega, Int.tdiv_eq_ediv_of_nonneg (by omega)]; omega
    obtain ⟨b, hb⟩ := hAhead (l := m) (t := u) (i := n + 1) (k := n / 2) (by omega) (by omega)
    rw [e, ifd_pos c, ckI64 (by omega), ck_pos ⟨by omega, by constructor <;> omega⟩, hb, Option.bind_some, Option.bind_some]
    cases b with
    | false => right; exact ⟨(m, u), rfl, hp, rfl⟩
    | true =>
      left
      rw [if_pos rfl, ckI64 (by omega), ck_pos ⟨by omega, by constructor <;> omega⟩, hSwap (by omega) (by omega), Option.bind_some]
      exact ⟨_, rfl, ⟨(sw_perm (by omega) (by omega)).trans hp, rfl, by dsimp only; omega, by dsimp only; omega⟩, by dsimp only; omega⟩
  · right
    rw [ifd_neg c, Option.bind_some, if_neg (by decide)]
    exact ⟨_, rfl, hp, rfl⟩
theorem mPush {l : List T_heap_item_int} {t x : Int} (hl : l.length < 900000000) (ht : 0 ≤ t ∧ t < 900000000) : ∃ m, p_heap_Heap_int_Push ⟨l, t⟩ x lt2 = some ⟨m, t + 1⟩ ∧ (hv m).Perm (hv l ++ [x]) := by
  obtain ⟨r, h1, h2, h3⟩ := hPushLoop (l := l ++ [⟨x, t + 1⟩]) (t := t + 1) (by simp; omega) (by simp)
  refine ⟨r.1, ?_, ?_⟩
  · unfold p_heap_Heap_int_Push
    dsimp only
    rw [ckI64 (by omega), ck_pos (by simp; omega), ckI64 (by simp; omega), h1, Option.bind_some, ← h3]
  · have := h2.map (·.x)
    simpa [hv] using this
theorem hSink {l : List T_heap_item_int} {t : Int} (hl : l.length < 1000000000) : ∃ m, p_heap_Heap_int_sink ⟨l, t⟩ lt2 = some ⟨m, t⟩ ∧ m.Perm l := by
  have : ∃ r, loopF (p_heap_Heap_int_sink.s0 lt2) big (l, t, 0) = some r ∧ (r.1.Perm l ∧ r.2 = t) := by
    refine loop_meas (fun s : List T_heap_item_int × Int × Int => l.length - s.2.2.toNat) (fun s => s.1.Perm l ∧ s.2.1 = t ∧ 0 ≤ s.2.2 ∧ s.2.2 ≤ l.length) (big_lt (by dsimp only; omega)) ⟨.refl _, rfl, by dsimp only; omega, by dsimp only; omega⟩ ?_
    rintro ⟨m, u, i⟩ ⟨hp, hu, hi0, hi⟩
    dsimp only at hp hu hi0 hi ⊢
    subst hu
    have hm := hp.length_eq
    obtain ⟨n, rfl⟩ : ∃ n : Nat, i = (n : Int) := ⟨i.toNat, by omega⟩
    simp only [p_heap_Heap_int_sink.s0]
    rw [ckI64 (by omega), ckI64 (by omega)]
    by_cases c : (m.length : Int) ≤ 2 * (n : Int) + 1
    · right; rw [ifd_pos c]; exact ⟨_, rfl, hp, rfl⟩
    · rw [ifd_neg c, ckI64 (by omega)]
      have hb : ∃ b : Bool, (if decide (2 * (n : Int) + 1 + 1 < (m.length : Int)) = true then (p_heap_Heap_int_ahead (⟨m, u⟩ : T_heap_Heap_int) (2 * (n : Int) + 1 + 1) (2 * (n : Int) + 1) lt2).bind fun x => some x else some false) = some b ∧ (b = true → 2 * n + 2 < m.length) := by
        by_cases d : 2 * (n : Int) + 1 + 1 < (m.length : Int)
        · obtain ⟨b, hb⟩ := hAhead (l := m) (t := u) (i := 2 * n + 2) (k := 2 * n + 1) (by omega) (by omega)
          have e1 : ((2 * n + 2 : Nat) : Int) = 2 * (n : Int) + 1 + 1 := by omega
          have e2 : ((2 * n + 1 : Nat) : Int) = 2 * (n : Int) + 1 := by omega
          rw [e1, e2] at hb
          exact ⟨b, by rw [ifd_pos d, hb]; rfl, fun _ => by omega⟩
        · exact ⟨false, by rw [ifd_neg d], fun h => by cases h⟩
      obtain ⟨b, hb, hbt⟩ := hb
      rw [hb, Option.bind_some]
      have hk : ∃ k : Nat, (if b = true then some (2 * (n : Int) + 1 + 1) else some (2 * (n : Int) + 1)) = some ((k : Nat) : Int) ∧ n < k ∧ k < m.length := by
        cases b with
        | true => exact ⟨2 * n + 2, by rw [if_pos rfl]; congr 1, by omega, by have := hbt rfl; omega⟩
        | false => exact ⟨2 * n + 1, by rw [if_neg (by decide)]; congr 1, by omega, by omega⟩
      obtain ⟨k, hk, k1, k2⟩ := hk
      rw [hk, Option.bind_some]
      obtain ⟨b', hb'⟩ := hAhead (l := m) (t := u) (i := k) (k := n) k2 (by omega)
      rw [hb', Option.bind_some]
      cases b' with
      | false => right; exact ⟨_, rfl, hp, rfl⟩
      | true =>
        left
        rw [if_neg (by decide), hSwap (by omega) k2, Option.bind_some]
        exact ⟨_, rfl, ⟨(sw_perm (by omega) k2).trans hp, rfl, by dsimp only; omega, by dsimp only; omega⟩, by dsimp only; omega⟩
  obtain ⟨r, h1, h2, h3⟩ := this
  refine ⟨r.1, ?_, h2⟩
  unfold p_heap_Heap_int_sink
  dsimp only
  rw [h1, Option.bind_some, ← h3]
theorem mPop_nil {t : Int} : p_heap_Heap_int_Pop ⟨[], t⟩ lt2 = some (0, false, ⟨[], t⟩) := rfl
theorem mPop {l : List T_heap_item_int} {t : Int} (hl : l.length < 900000000) (hn : l ≠ []) : ∃ v m, p_heap_Heap_int_Pop ⟨l, t⟩ lt2 = some (v, true, ⟨m, t⟩) ∧ (hv l).Perm (v :: hv m) := by
  have h0 : 0 < l.length := by cases l with
    | nil => exact absurd rfl hn
    | cons a b => simp
  have hs : (sw l 0 (l.length - 1)).length = l.length := sw_len
  obtain ⟨m, h1, h2⟩ := hSink (l := (sw l 0 (l.length - 1)).take (l.length - 1)) (t := t) (by rw [List.length_take]; omega)
  refine ⟨(gi l 0).x, m, ?_, ?_⟩
  · have e : ((l.length : Int) - 1) = ((l.length - 1 : Nat) : Int) := by omega
    have q := hSwap (l := l) (t := t) (i := 0) (k := l.length - 1) (by omega) (by omega)
    simp only [p_heap_Heap_int_Pop, p_heap_Heap_int_Top, p_heap_Heap_int_Len, Option.bind_some]
    rw [ifd_neg (by omega), ck_pos (by omega), Option.bind_some]
    dsimp only
    rw [if_neg (by decide), ckI64 (by omega), e, show (0 : Int) = ((0 : Nat) : Int) by rfl, q, Option.bind_some]
    dsimp only
    rw [ck_pos (by omega), Int.toNat_natCast, h1, Option.bind_some]
    rfl
  · have p1 := sw_perm (l := l) (i := 0) (k := l.length - 1) (by omega) (by omega)
    have e : sw l 0 (l.length - 1) = (sw l 0 (l.length - 1)).take (l.length - 1) ++ [gi l 0] := by
      have := take_gi (l := sw l 0 (l.length - 1)) (n := l.length - 1) (by omega)
      rw [show l.length - 1 + 1 = (sw l 0 (l.length - 1)).length by omega, List.take_length] at this
      rw [this]
      congr 1
      · rw [← this]
      · unfold sw; rw [gi_set (by rw [List.length_set]; omega), if_pos rfl]
    have p2 : l.Perm (gi l 0 :: m) := by
      refine p1.symm.trans ?_
      rw [e]
      exact List.perm_append_comm.trans (List.Perm.cons _ h2.symm)
    have := p2.map (·.x)
    simpa [hv] using this
end Mu
