/- Layer 10: GridPlays. -/
import Derived.Test.YteedifiifkghkaaMuM10e
set_option linter.unusedVariables false
set_option linter.unusedSimpArgs false
set_option maxRecDepth 10000
namespace Mu
theorem kGridWakes : p_muntinlaw10_wakes = some true := by decide +kernel
theorem mGridNew : ∀ k : Nat, k < 8 → p_grid_New (k : Int) = some (some ⟨List.replicate k noC⟩, 0) := by decide +kernel
theorem mSame {a : List T_api_Cell} (h : a.length ≤ 1000000) : p_muntinref10_Same a a = some true := by
  have e : loopF (p_muntinref10_Same.s0 a a) big 0 = some (.inl ()) := by
    refine loop_to (fun n : Nat => (n : Int)) (n := a.length) (big_lt (by omega)) rfl (fun n hn => ?_) ?_
    · simp only [p_muntinref10_Same.s0]
      rw [ifd_pos (by omega), ck_pos (by omega), ck_pos (by omega), if_neg (by simp), ckI64 (by omega)]
      rfl
    · simp only [p_muntinref10_Same.s0]
      rw [ifd_neg (by omega)]
  unfold p_muntinref10_Same
  rw [ifn_neg rfl, e, Option.bind_some]
theorem Rg.start {n : Nat} (h : n ≤ 4096) : Rg (List.replicate n noC) := by
  refine ⟨by simpa using h, fun v d hv hd => ?_⟩
  simp only [List.length_replicate] at hv
  have : gi (List.replicate n noC) v = noC := by rw [gi_eq (by simpa using hv)]; simp
  unfold Mu.nx
  rw [this]
  exact .inl (nx_noC hd).1
theorem gpStep {acts : List T_muntinlaw10_Act} {x4 : Int} {l : List T_api_Cell} (h : Rg l) {i : Nat} (hi : i < 2) : ∃ l', Rg l' ∧ p_muntinlaw10_GridPlays.s1 acts x4 (l, l, i) = some (.inl (l', l', (i : Int) + 1)) := by
  simp only [p_muntinlaw10_GridPlays.s1]
  rw [ifd_pos (by simp; omega), ck_pos (by simp; omega)]
  obtain ⟨X, hX⟩ : ∃ X, X = gi [gi (acts.take (min (acts.length : Int) 40 : Int).toNat) (x4 : Int).toNat, (⟨(gi (acts.take (min (acts.length : Int) 40 : Int).toNat) (x4 : Int).toNat).Do, (max 0 ((gi (acts.take (min (acts.length : Int) 40 : Int).toNat) (x4 : Int).toNat).V)).tmod 10, (max 0 ((gi (acts.take (min (acts.length : Int) 40 : Int).toNat) (x4 : Int).toNat).D)).tmod 4, (max 0 ((gi (acts.take (min (acts.length : Int) 40 : Int).toNat) (x4 : Int).toNat).W)).tmod 10, max (-2) (((gi (acts.take (min (acts.length : Int) 40 : Int).toNat) (x4 : Int).toNat).Owner).tmod 5)⟩ : T_muntinlaw10_Act)] (i : Int).toNat := ⟨_, rfl⟩
  rw [← hX]
  have tail : ∀ l' : List T_api_Cell, Rg l' → ∃ x18 x19 x20, p_grid_Grid_Next ⟨l'⟩ X.V X.D = some (x18, x19, x20) ∧
      (if (((decide (0 ≤ (X.V))) && (decide ((X.V) < (l'.length : Int)))) && (decide (0 ≤ (X.D)))) && (decide ((X.D) < 4)) then
        ck ((0 : Int) ≤ (max 0 (X.V)) ∧ (max 0 (X.V)) < (l'.length : Int)) <|
        ck ((0 : Int) ≤ ((max 0 (X.D)).tmod 4) ∧ ((max 0 (X.D)).tmod 4) < 4) <|
        some (decide (0 ≤ (((gi l' (max 0 (X.V) : Int).toNat).Next).get ((max 0 (X.D)).tmod 4))))
      else
        some false) = some x20 ∧
      (if x20 then
          ck ((0 : Int) ≤ (X.V) ∧ (X.V) < (l'.length : Int)) <|
          ck ((0 : Int) ≤ (X.D) ∧ (X.D) < 4) <|
          some ((!(decide (x18 = ((gi l' (X.V : Int).toNat).Next).get (X.D)))) || (!(decide (x19 = ((gi l' (X.V : Int).toNat).Owner).get (X.D)))))
        else
          some false) = some false ∧ ((!x20) && ((!(decide (x18 = 0))) || (!(decide (x19 = 0))))) = false := by
    intro l' hr
    by_cases c : 0 ≤ X.V ∧ X.V < l'.length ∧ 0 ≤ X.D ∧ X.D < 4
    · obtain ⟨c1, c2, c3, c4⟩ := c
      rw [dec_t c1, dec_t c2, dec_t c3, dec_t c4, show max 0 X.V = X.V by omega, show max 0 X.D = X.D by omega]
      obtain ⟨v, hv⟩ := Int.eq_ofNat_of_zero_le c1
      obtain ⟨d, hd⟩ := Int.eq_ofNat_of_zero_le c3
      rw [hv, hd]
      have ht : ((d : Int)).tmod 4 = d := by
        match d, (show d < 4 by omega) with
        | 0, _ | 1, _ | 2, _ | 3, _ => rfl
      have hn := hr.nx v d (by omega) (by omega)
      have e1 : (gi l' v).Next.get (d : Int) = nx l' v d := rfl
      have e2 : (gi l' v).Owner.get (d : Int) = ow l' v d := rfl
      rw [mNext (by omega) (by omega), ht, Int.toNat_natCast, e1, e2]
      by_cases e : nx l' v d = -1
      · rw [if_pos e]
        refine ⟨0, 0, false, rfl, ?_, rfl, rfl⟩
        rw [if_pos (by decide), ck_pos (by omega), ck_pos (by omega), dec_f (by omega)]
      · rw [if_neg e]
        refine ⟨_, _, true, rfl, ?_, ?_, rfl⟩
        · rw [if_pos (by decide), ck_pos (by omega), ck_pos (by omega), dec_t (by omega)]
        · rw [if_pos rfl, ck_pos (by omega), ck_pos (by omega)]; simp
    · refine ⟨0, 0, false, mNextBad c, ?_, rfl, rfl⟩
      rw [if_neg (by simp; omega)]
  have fin : ∀ l' : List T_api_Cell, Rg l' → ∃ l'', Rg l'' ∧ ((p_grid_Grid_Next (⟨l'⟩ : T_grid_Grid) (X.V) (X.D)).bind fun (x18, x19, x20) =>
      (if (((decide (0 ≤ (X.V))) && (decide ((X.V) < (l'.length : Int)))) && (decide (0 ≤ (X.D)))) && (decide ((X.D) < 4)) then
        ck ((0 : Int) ≤ (max 0 (X.V)) ∧ (max 0 (X.V)) < (l'.length : Int)) <|
        ck ((0 : Int) ≤ ((max 0 (X.D)).tmod 4) ∧ ((max 0 (X.D)).tmod 4) < 4) <|
        some (decide (0 ≤ (((gi l' (max 0 (X.V) : Int).toNat).Next).get ((max 0 (X.D)).tmod 4))))
      else
        some false).bind fun t =>
      (if !(decide (x20 = t)) then
        some true
      else
        (if x20 then
          ck ((0 : Int) ≤ (X.V) ∧ (X.V) < (l'.length : Int)) <|
          ck ((0 : Int) ≤ (X.D) ∧ (X.D) < 4) <|
          some ((!(decide (x18 = ((gi l' (X.V : Int).toNat).Next).get (X.D)))) || (!(decide (x19 = ((gi l' (X.V : Int).toNat).Owner).get (X.D)))))
        else
          some false).bind fun t2 =>
        some t2).bind fun t1 =>
      if t1 || ((!x20) && ((!(decide (x18 = 0))) || (!(decide (x19 = 0))))) then
        some (Sum.inr (Sum.inr ()))
      else
        ck (in64 ((i : Int) + 1)) <|
        some (Sum.inl (l', l', (i : Int) + 1))) = some (Sum.inl (l'', l'', (i : Int) + 1) : (List T_api_Cell × List T_api_Cell × Int) ⊕ ((List T_api_Cell × List T_api_Cell) ⊕ Unit)) := by
    intro l' hr
    obtain ⟨x18, x19, x20, e1, e2, e3, e4⟩ := tail l' hr
    refine ⟨l', hr, ?_⟩
    rw [e1, Option.bind_some]
    dsimp only
    rw [e2, Option.bind_some, ifn_neg rfl, e3, Option.bind_some, Option.bind_some, e4, Bool.or_self, if_neg Bool.false_ne_true, ckI64 (by omega)]
  by_cases a : X.Do.tmod 4 = 2
  · rw [ifd_pos a]
    obtain ⟨u, e, l', s1, s2, hr⟩ := gSplit h X.V X.D
    rw [s1, Option.bind_some]
    dsimp only
    rw [s2, Option.bind_some]
    dsimp only
    rw [if_neg (by simp), Option.bind_some]
    exact fin l' hr
  · rw [ifd_neg a]
    by_cases b : X.Do.tmod 4 = 3
    · rw [ifd_pos b]
      by_cases c : 30 < (l.length : Int)
      · rw [ifd_pos c, Option.bind_some]
        dsimp only
        rw [ckI64 (by omega)]
        exact ⟨l, h, rfl⟩
      · have m1 := mNew (n := 1) (by omega)
        have e1 : List.replicate 1 noC = [noC] := rfl
        rw [ifd_neg c, mAdd (by omega), Option.bind_some]
        dsimp only
        rw [if_neg (by simp)]
        unfold p_slices_Clone_api_Cell
        rw [ck_pos (by omega), Option.bind_some, show (1 : Int) = ((1 : Nat) : Int) from rfl, m1, Option.bind_some, e1, ck_pos (by simp; omega), Option.bind_some]
        exact fin _ (h.add (by omega))
    · rw [ifd_neg b]
      obtain ⟨e, l', s1, s2, hr⟩ := gJoin h X.V X.D X.W X.Owner
      rw [s1, Option.bind_some]
      dsimp only
      rw [s2, Option.bind_some]
      dsimp only
      rw [if_neg (by simp), Option.bind_some]
      exact fin l' hr
theorem gpInner {acts : List T_muntinlaw10_Act} {x4 : Int} {l : List T_api_Cell} (h : Rg l) : ∃ r, loopF (p_muntinlaw10_GridPlays.s1 acts x4) big (l, l, 0) = some r ∧ ∃ l', r = .inl (l', l') ∧ Rg l' := by
  refine loop_inv (fun (k : Nat) (s : List T_api_Cell × List T_api_Cell × Int) => ∃ l, s = (l, l, (k : Int)) ∧ Rg l) (n := 2) (big_lt (by omega)) ⟨l, rfl, h⟩ ?_ ?_
  · rintro k s hk ⟨l, rfl, hr⟩
    obtain ⟨l', hr', e⟩ := gpStep (acts := acts) (x4 := x4) hr hk
    exact ⟨_, e, l', by rw [show ((k + 1 : Nat) : Int) = (k : Int) + 1 by omega], hr'⟩
  · rintro s ⟨l, rfl, hr⟩
    simp only [p_muntinlaw10_GridPlays.s1]
    rw [ifd_neg (by simp)]
    exact ⟨_, rfl, l, rfl, hr⟩
theorem GridPlays_main (n : Int) (acts : List T_muntinlaw10_Act) (hn : Wf .u8 n) (mA : acts.length ≤ Go.maxLen) (bA : ∀ y ∈ acts, Ok_T_muntinlaw10_Act y) : p_muntinlaw10_GridPlays n acts = some true := by
  obtain ⟨n0, n1⟩ := hn.u8
  obtain ⟨k, hk, hk7⟩ : ∃ k : Nat, n.tmod 8 = k ∧ k < 8 := by
    refine ⟨(n.tmod 8).toNat, ?_, ?_⟩
    · rw [Int.tmod_eq_emod_of_nonneg n0]; omega
    · rw [Int.tmod_eq_emod_of_nonneg n0]; omega
  have mN := mNew (n := k) (by omega)
  have hmin : ((acts.take (min (acts.length : Int) 40 : Int).toNat).length : Int) = min (acts.length : Int) 40 := by rw [List.length_take]; omega
  unfold p_muntinlaw10_GridPlays
  rw [hk, ckK64 (by omega), mGridNew k hk7, Option.bind_some]
  dsimp only
  rw [mN, Option.bind_some, kGridWakes, Option.bind_some, if_neg (by decide), ck_pos (by omega), Option.bind_some]
  have : ∃ r, loopF (p_muntinlaw10_GridPlays.s0 acts) big (List.replicate k noC, List.replicate k noC, 0) = some r ∧ r = .inl () := by
    refine loop_inv (fun (j : Nat) (s : List T_api_Cell × List T_api_Cell × Int) => ∃ l, s = (l, l, (j : Int)) ∧ Rg l) (n := (acts.take (min (acts.length : Int) 40 : Int).toNat).length) (big_lt (by omega)) ⟨_, rfl, Rg.start (by omega)⟩ ?_ ?_
    · rintro j s hj ⟨l, rfl, hr⟩
      obtain ⟨r, e, l', rfl, hr'⟩ := gpInner (acts := acts) (x4 := (j : Int)) hr
      have hL := hr'.len
      simp only [p_muntinlaw10_GridPlays.s0]
      rw [ifd_pos (by omega), ck_pos (by omega), e, Option.bind_some]
      dsimp only [p_grid_Grid_Len, p_grid_Grid_Cells, p_slices_Clone_api_Cell]
      rw [Option.bind_some, ifn_neg rfl, ck_pos (by omega), Option.bind_some, Option.bind_some, mSame (by omega), Option.bind_some, Option.bind_some, if_neg (by decide), ckI64 (by omega)]
      exact ⟨_, rfl, l', by rw [show ((j + 1 : Nat) : Int) = (j : Int) + 1 by omega], hr'⟩
    · rintro s ⟨l, rfl, hr⟩
      simp only [p_muntinlaw10_GridPlays.s0]
      rw [ifd_neg (by omega)]
      exact ⟨_, rfl, rfl⟩
  obtain ⟨r, e, rfl⟩ := this
  rw [e, Option.bind_some]
end Mu
