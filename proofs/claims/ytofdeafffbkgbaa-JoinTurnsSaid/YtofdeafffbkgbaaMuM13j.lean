/- Layer 13: JoinTurns. -/
import Derived.Test.YtofdeafffbkgbaaMuM13i
import Derived.Test.YtofdeafffbkgbaaMuM10h
set_option linter.unusedVariables false
set_option linter.unusedSimpArgs false
set_option maxRecDepth 10000
namespace Mu
theorem adj_trn {l : List T_api_Cell} {a b : Nat} (ha : a < l.length) : Adj (trn l) a b ↔ Adj l a b := by
  constructor
  · rintro ⟨d, hd, e⟩
    exact ⟨(d + 3) % 4, by omega, by rw [(nx_trn ha hd).1] at e; exact e⟩
  · rintro ⟨d, hd, e⟩
    refine ⟨(d + 1) % 4, by omega, ?_⟩
    rw [(nx_trn ha (by omega)).1, show ((d + 1) % 4 + 3) % 4 = d by omega]; exact e
theorem rch_trn {l : List T_api_Cell} (hc : Ck l) {v n w : Nat} (hv : v < l.length) : Rch (trn l) v n w ↔ Rch l v n w := by
  constructor
  · intro h
    induction h with
    | zero => exact .zero
    | succ _ hab ih => exact .succ ih ((adj_trn (ih.lt hc hv)).1 hab)
  · intro h
    induction h with
    | zero => exact .zero
    | succ h2 hab ih => exact .succ ih ((adj_trn (h2.lt hc hv)).2 hab)
theorem rb_trn {l : List T_api_Cell} (hc : Ck l) {v w : Nat} (hv : v < l.length) : rb (trn l) v w = rb l v w := by
  rw [Bool.eq_iff_iff, rb_iff, rb_iff]
  exact ⟨fun ⟨n, h⟩ => ⟨n, (rch_trn hc hv).1 h⟩, fun ⟨n, h⟩ => ⟨n, (rch_trn hc hv).2 h⟩⟩
theorem partTo_congr {l l' : List T_api_Cell} {v k : Nat} (h : ∀ w, w < k → rb l' v w = rb l v w) : partTo l' v k = partTo l v k := by
  unfold partTo
  congr 1
  apply List.filter_congr
  intro w hw
  rw [List.mem_range] at hw
  rw [h w hw]
theorem PS_trn {l : List T_api_Cell} (hc : Ck l) : ∀ n, n ≤ l.length → PS (trn l) n = PS l n
  | 0, _ => by simp only [PS, trn_len]
  | n + 1, hn => by
    have ih := PS_trn hc n (by omega)
    simp only [PS, ih, trn_len]
    rw [partTo_congr (l := l) (l' := trn l) (fun w _ => rb_trn hc (by omega))]
    have : metTo (trn l) n (PS l n).2 l.length = metTo l n (PS l n).2 l.length := by
      apply list_ext (by rw [metTo_length, metTo_length, trn_len])
      intro i hi
      rw [metTo_length, trn_len] at hi
      rw [gi_metTo (by rw [trn_len]; exact hi), gi_metTo hi, rb_trn hc (by omega)]
    rw [this]
/-! the split edge -/
theorem spl_rch {l : List T_api_Cell} (hc : Ck l) {v d w : Nat} (hv : v < l.length) (hd : d < 4) (hw : nx l v d = w) {a : Nat} (ha : a < l.length) :
    (∀ b, b < l.length → ((∃ n, Rch (spl l v d w (ow l v d)) a n b) ↔ ∃ n, Rch l a n b)) ∧ ((∃ n, Rch (spl l v d w (ow l v d)) a n l.length) ↔ ∃ n, Rch l a n v) := by
  obtain ⟨hwl, hwv, hcs⟩ := hc.spl hv hd hw
  have N := fun i e hi he => (nx_spl (o := ow l v d) hv hwl hd (i := i) (e := e) hi he).1
  have hback : nx l w ((d + 2) % 4) = v := by
    rcases hc.s v d hv hd with ⟨a, _⟩ | ⟨w', a, b1, b2, b3, b4, _⟩
    · omega
    · have : w = w' := by omega
      subst this; exact b3
  have A1 : Adj (spl l v d w (ow l v d)) v l.length := ⟨d, hd, by rw [N v d (by omega) hd, if_neg (by omega), if_neg (by omega), if_pos ⟨rfl, rfl⟩]⟩
  have A2 : Adj (spl l v d w (ow l v d)) l.length w := ⟨d, hd, by rw [N _ d (by omega) hd, if_pos rfl, if_pos rfl]⟩
  have A3 : Adj (spl l v d w (ow l v d)) w l.length := ⟨(d + 2) % 4, by omega, by rw [N w _ (by omega) (by omega), if_neg (by omega), if_pos ⟨rfl, rfl⟩]⟩
  have A4 : Adj (spl l v d w (ow l v d)) l.length v := ⟨(d + 2) % 4, by omega, by rw [N _ _ (by omega) (by omega), if_pos rfl, if_neg (by omega), if_pos rfl]⟩
  have fwd : ∀ n x, Rch (spl l v d w (ow l v d)) a n x → (x < l.length → ∃ m, Rch l a m x) ∧ (x = l.length → ∃ m, Rch l a m v) := by
    intro n x h
    induction h with
    | zero => exact ⟨fun _ => ⟨0, .zero⟩, fun e => by omega⟩
    | @succ n x y hx hab ih =>
      have hxl := hx.lt hcs (by rw [spl_len]; omega)
      rw [spl_len] at hxl
      obtain ⟨e, he, hn⟩ := hab
      rw [N x e (by omega) he] at hn
      by_cases q : x = l.length
      · obtain ⟨m, hm⟩ := ih.2 q
        rw [if_pos q] at hn
        refine ⟨fun hy => ?_, fun hy => ?_⟩
        · split at hn
          · have : y = w := by omega
            subst this
            exact ⟨m + 1, .succ hm ⟨d, hd, hw⟩⟩
          · split at hn
            · have : y = v := by omega
              subst this; exact ⟨m, hm⟩
            · omega
        · split at hn
          · omega
          · split at hn
            · omega
            · omega
      · obtain ⟨m, hm⟩ := ih.1 (by omega)
        rw [if_neg q] at hn
        refine ⟨fun hy => ?_, fun hy => ?_⟩
        · split at hn
          · omega
          · split at hn
            · omega
            · exact ⟨m + 1, .succ hm ⟨e, he, hn⟩⟩
        · split at hn
          · rename_i c
            obtain ⟨rfl, _⟩ := c
            exact ⟨m + 1, .succ hm ⟨(d + 2) % 4, by omega, hback⟩⟩
          · split at hn
            · rename_i c
              obtain ⟨rfl, _⟩ := c
              exact ⟨m, hm⟩
            · have := hc.lt (v := x) (d := e) (by omega) he
              omega
  have bwd : ∀ n x, Rch l a n x → ∃ m, Rch (spl l v d w (ow l v d)) a m x := by
    intro n x h
    induction h with
    | zero => exact ⟨0, .zero⟩
    | @succ n x y hx hab ih =>
      obtain ⟨m, hm⟩ := ih
      have hxl := hx.lt hc ha
      obtain ⟨e, he, hn⟩ := hab
      by_cases q1 : x = w ∧ e = (d + 2) % 4
      · obtain ⟨rfl, rfl⟩ := q1
        have : y = v := by omega
        subst this
        exact ⟨m + 1 + 1, .succ (.succ hm A3) A4⟩
      · by_cases q2 : x = v ∧ e = d
        · obtain ⟨rfl, rfl⟩ := q2
          have : y = w := by omega
          subst this
          exact ⟨m + 1 + 1, .succ (.succ hm A1) A2⟩
        · exact ⟨m + 1, .succ hm ⟨e, he, by rw [N x e (by omega) he, if_neg (by omega), if_neg q1, if_neg q2]; exact hn⟩⟩
  refine ⟨fun b hb => ⟨fun ⟨n, h⟩ => (fwd n b h).1 hb, fun ⟨n, h⟩ => bwd n b h⟩, ⟨fun ⟨n, h⟩ => (fwd n _ h).2 rfl, fun ⟨n, h⟩ => ?_⟩⟩
  obtain ⟨m, hm⟩ := bwd n v h
  exact ⟨m + 1, .succ hm A1⟩
def ext (v u : Int) (p : List Int) : List Int := if v ∈ p then p ++ [u] else p
theorem mem_partTo {l : List T_api_Cell} {v k w : Nat} : (w : Int) ∈ partTo l v k ↔ w < k ∧ rb l v w = true := by
  unfold partTo
  rw [List.mem_map]
  constructor
  · rintro ⟨x, hx, e⟩
    rw [List.mem_filter, List.mem_range] at hx
    have : x = w := by omega
    subst this; exact hx
  · rintro h
    exact ⟨w, by rw [List.mem_filter, List.mem_range]; exact h, rfl⟩
theorem PS_met {l : List T_api_Cell} : ∀ n, n ≤ l.length → ∀ u, u < n → gi (PS l n).2 u = true
  | 0, _, u, hu => by omega
  | n + 1, hn, u, hu => by
    have ih := PS_met (l := l) n (by omega)
    simp only [PS]
    by_cases c : gi (PS l n).2 n = true
    · rw [if_pos c]
      by_cases q : u = n
      · subst q; exact c
      · exact ih u (by omega)
    · rw [if_neg c]
      dsimp only
      rw [gi_metTo (show u < l.length by omega), if_pos (show u < l.length by omega)]
      by_cases q : u = n
      · subst q; rw [rb_iff.2 ⟨0, .zero⟩]; simp
      · rw [ih u (by omega)]; rfl
theorem PS_spl {l : List T_api_Cell} (hc : Ck l) {v d w : Nat} (hv : v < l.length) (hd : d < 4) (hw : nx l v d = w) : ∀ n, n ≤ l.length → (PS (spl l v d w (ow l v d)) n).1 = (PS l n).1.map (ext v l.length) ∧ (PS (spl l v d w (ow l v d)) n).2 = (PS l n).2 ++ [gi (PS l n).2 v]
  | 0, _ => by
    simp only [PS, spl_len]
    refine ⟨rfl, ?_⟩
    rw [List.replicate_succ', gi_eq (by simpa using hv)]; simp
  | n + 1, hn => by
    obtain ⟨i1, i2⟩ := PS_spl hc hv hd hw n (by omega)
    have hp := PS_len (l := l) n
    have R := spl_rch hc hv hd hw (a := n) (by omega)
    have R1 : ∀ b, b < l.length → rb (spl l v d w (ow l v d)) n b = rb l n b := fun b hb => by rw [Bool.eq_iff_iff, rb_iff, rb_iff]; exact R.1 b hb
    have R2 : rb (spl l v d w (ow l v d)) n l.length = rb l n v := by rw [Bool.eq_iff_iff, rb_iff, rb_iff]; exact R.2
    have g : gi ((PS l n).2 ++ [gi (PS l n).2 v]) n = gi (PS l n).2 n := gi_append_left (by omega)
    simp only [PS, i1, i2, spl_len, g]
    by_cases c : gi (PS l n).2 n = true
    · rw [if_pos c, if_pos c]; exact ⟨i1, i2⟩
    · rw [if_neg c, if_neg c]
      dsimp only
      constructor
      · rw [List.map_append]
        congr 1
        have e1 : partTo (spl l v d w (ow l v d)) n l.length = partTo l n l.length := partTo_congr (fun b hb => R1 b hb)
        show [partTo (spl l v d w (ow l v d)) n (l.length + 1)] = [ext v l.length (partTo l n l.length)]
        congr 1
        unfold ext
        by_cases q : rb l n v = true
        · rw [partTo_on (by rw [R2]; exact q), e1, if_pos (mem_partTo.2 ⟨hv, q⟩)]
        · have q' : rb l n v = false := by simpa using q
          rw [partTo_off (by rw [R2]; exact q'), e1, if_neg (fun h => q (mem_partTo.1 h).2)]
      · apply list_ext (by rw [metTo_length, List.length_append, metTo_length, spl_len]; rfl)
        intro i hi
        rw [metTo_length, spl_len] at hi
        rw [gi_metTo (by rw [spl_len]; exact hi), if_pos (by omega)]
        by_cases q : i < l.length
        · rw [gi_append_left (by omega), R1 i q, gi_append_left (by rw [metTo_length]; omega), gi_metTo q, if_pos q]
        · have e : i = l.length := by omega
          subst e
          have a1 := gi_append_right (l := (PS l n).2) (m := [gi (PS l n).2 v]) (i := 0)
          have a2 := gi_append_right (l := metTo l n (PS l n).2 l.length) (m := [gi (metTo l n (PS l n).2 l.length) v]) (i := 0)
          rw [hp.2, Nat.add_zero] at a1
          rw [metTo_length, Nat.add_zero] at a2
          rw [a1, a2, R2]
          show (gi (PS l n).2 v || rb l n v) = gi (metTo l n (PS l n).2 l.length) v
          rw [gi_metTo hv, if_pos hv]
theorem PS_splEnd {l : List T_api_Cell} (hc : Ck l) {v d w : Nat} (hv : v < l.length) (hd : d < 4) (hw : nx l v d = w) : (PS (spl l v d w (ow l v d)) (l.length + 1)).1 = (PS l l.length).1.map (ext v l.length) := by
  obtain ⟨i1, i2⟩ := PS_spl hc hv hd hw l.length (by omega)
  have hp := PS_len (l := l) l.length
  have g : gi (PS (spl l v d w (ow l v d)) l.length).2 l.length = true := by
    rw [i2]
    have a1 := gi_append_right (l := (PS l l.length).2) (m := [gi (PS l l.length).2 v]) (i := 0)
    rw [hp.2, Nat.add_zero] at a1
    rw [a1]
    exact PS_met l.length (by omega) v hv
  rw [PS, if_pos g, i1]
theorem mContainsI {s : List Int} {v : Int} (hs : s.length ≤ 1000000) : p_slices_Contains_int s v = some (decide (v ∈ s)) := by
  have h : loopF (p_slices_Index_int.s0 s v) big 0 = some (match (List.range s.length).find? (fun i => decide (v = gi s i)) with | some i => .inr (i : Int) | none => .inl ()) := by
    refine loop_find (n := s.length) (P := fun i => decide (v = gi s i)) (f := fun i => (i : Int)) (big_lt (by omega)) (fun i hi => ?_) ?_
    · simp only [p_slices_Index_int.s0]
      rw [ifd_pos (by omega), ck_pos (by omega), Int.toNat_natCast, ckI64 (by omega)]
      by_cases c : v = gi s i
      · rw [ifd_pos c, ifd_pos c]
      · rw [ifd_neg c, ifd_neg c]
    · simp only [p_slices_Index_int.s0]
      rw [ifd_neg (by omega)]
  unfold p_slices_Contains_int p_slices_Index_int
  rw [h, Option.bind_some]
  cases hf : (List.range s.length).find? (fun i => decide (v = gi s i)) with
  | none =>
    rw [List.find?_range_eq_none] at hf
    rw [dec_f (c := v ∈ s)]
    · rfl
    · intro hm
      obtain ⟨i, hi, e⟩ := List.mem_iff_getElem.1 hm
      have := hf i hi
      rw [gi_eq hi] at this
      simp [e] at this
  | some i =>
    rw [List.find?_range_eq_some] at hf
    obtain ⟨h1, h2, _⟩ := hf
    have hi : i < s.length := by simpa using h2
    have e : v = gi s i := by simpa using h1
    rw [dec_t (c := v ∈ s) (by rw [e]; exact gi_mem hi)]
    dsimp only
    rw [Option.bind_some, dec_t (by omega)]
theorem mEdge {l : List T_api_Cell} (hl : l.length ≤ 1000) {a b : Int} (ha : 0 ≤ a ∧ a ≤ 255) (hb : 0 ≤ b ∧ b ≤ 255) : ∃ r, p_muntinref10_Edge l a b = some r ∧ (r = (0, 0, false) ∨ ∃ v d : Nat, r = ((v : Int), (d : Int), true) ∧ v < l.length ∧ d < 4 ∧ 0 ≤ nx l v d) := by
  have : ∃ r, loopF (p_muntinref10_Edge.s0 l a b) big 0 = some r ∧ (r = .inl () ∨ ∃ v d : Nat, r = .inr ((v : Int), (d : Int)) ∧ v < l.length ∧ d < 4 ∧ 0 ≤ nx l v d) := by
    refine loop_meas (fun i : Int => 4 * l.length - i.toNat) (fun i => 0 ≤ i ∧ i ≤ 4 * l.length) (big_lt (by omega)) (by omega) ?_
    rintro i ⟨h0, h1⟩
    simp only [p_muntinref10_Edge.s0]
    rw [ckI64 (by omega)]
    by_cases c : i < 4 * (l.length : Int)
    · have hpos : 0 < l.length := by omega
      obtain ⟨x, ex, hx⟩ : ∃ x : Nat, a.tmod (max (l.length : Int) 1) = x ∧ x < l.length := by
        refine ⟨(a % (l.length : Int)).toNat, ?_, ?_⟩
        · rw [show max (l.length : Int) 1 = l.length by omega, Int.tmod_eq_emod_of_nonneg ha.1]
          have := Int.emod_nonneg a (b := (l.length : Int)) (by omega)
          omega
        · have := Int.emod_lt_of_pos a (show (0 : Int) < l.length by omega)
          have := Int.emod_nonneg a (b := (l.length : Int)) (by omega)
          omega
      obtain ⟨y, ey, hy⟩ : ∃ y : Nat, b.tmod 4 = y ∧ y < 4 := by
        refine ⟨(b % 4).toNat, ?_, by omega⟩
        rw [Int.tmod_eq_emod_of_nonneg hb.1]; omega
      obtain ⟨z, ez, hz⟩ : ∃ z : Nat, (4 * (x : Int) + (y : Int) + i).tmod (4 * (l.length : Int)) = z ∧ z < 4 * l.length := by
        refine ⟨((4 * (x : Int) + (y : Int) + i) % (4 * (l.length : Int))).toNat, ?_, ?_⟩
        · rw [Int.tmod_eq_emod_of_nonneg (by omega)]
          have := Int.emod_nonneg (4 * (x : Int) + (y : Int) + i) (b := 4 * (l.length : Int)) (by omega)
          omega
        · have := Int.emod_lt_of_pos (4 * (x : Int) + (y : Int) + i) (show (0 : Int) < 4 * l.length by omega)
          have := Int.emod_nonneg (4 * (x : Int) + (y : Int) + i) (b := 4 * (l.length : Int)) (by omega)
          omega
      have e1 : (z : Int).tdiv 4 = ((z / 4 : Nat) : Int) := by rw [Int.tdiv_eq_ediv_of_nonneg (by omega)]; omega
      have e2 : (z : Int).tmod 4 = ((z % 4 : Nat) : Int) := by rw [Int.tmod_eq_emod_of_nonneg (by omega)]; omega
      rw [ifd_pos c, ck_pos (by omega), ex, ey, ckI64 (by omega), ckI64 (by omega), ckI64 (by omega), ck_pos (by omega), ez, e1, e2, ck_pos ⟨by omega, by constructor <;> omega⟩, ck_pos (by omega), ck_pos (by omega), Int.toNat_natCast]
      have en : (gi l (z / 4)).Next.get ((z % 4 : Nat) : Int) = nx l (z / 4) (z % 4) := rfl
      rw [en]
      by_cases q : 0 ≤ nx l (z / 4) (z % 4)
      · right
        rw [ifd_pos q]
        exact ⟨_, rfl, .inr ⟨z / 4, z % 4, rfl, by omega, by omega, q⟩⟩
      · left
        rw [ifd_neg q, ckI64 (by omega)]
        exact ⟨_, rfl, by omega, by omega⟩
    · right
      rw [ifd_neg c]
      exact ⟨_, rfl, .inl rfl⟩
  obtain ⟨r, e, h⟩ := this
  unfold p_muntinref10_Edge
  rw [e, Option.bind_some]
  rcases h with rfl | ⟨v, d, rfl, h⟩
  · exact ⟨_, rfl, .inl rfl⟩
  · exact ⟨_, rfl, .inr ⟨v, d, rfl, h⟩⟩
theorem rSplitOk {l : List T_api_Cell} {v d w : Nat} (hl : l.length < 4096) (hv : v < l.length) (hd : d < 4) (hw : nx l v d = w) (hwl : w < l.length) : p_muntinref10_Split l v d = some (spl l v d w (ow l v d), (l.length : Int), 0) := by
  have hl1 : (l ++ [noC]).length = l.length + 1 := by simp
  have m1 := mNew (n := 1) (by omega)
  have ho : (gi l v).Owner.get (d : Int) = ow l v d := rfl
  have hn : (gi l v).Next.get (d : Int) = nx l v d := rfl
  have q : (decide ((v : Int) < 0) || decide ((l.length : Int) ≤ (v : Int)) || decide ((d : Int) < 0) || decide (3 < (d : Int))) = false := by simp; omega
  have e1 : gi (List.replicate 1 noC) (0 : Int).toNat = noC := rfl
  have w1 := mWith (l := l ++ [noC]) (v := v) (d := d) (w := l.length) (o := ow l v d) (by omega) (by omega)
  have w2 := mWith (l := wth (l ++ [noC]) v d l.length (ow l v d)) (v := l.length) (d := d) (w := w) (o := ow l v d) (by rw [wth_length]; omega) (by omega)
  unfold p_muntinref10_Split
  rw [q, if_neg Bool.false_ne_true, ck_pos (by omega), ck_pos (by omega), Int.toNat_natCast, ho, hn, hw, ifd_neg (by omega), ifd_neg (by omega), show (1 : Int) = ((1 : Nat) : Int) from rfl, m1, Option.bind_some, show (-((1 : Nat) : Int)) = -1 from rfl, mWith (by omega) (by omega), Option.bind_some, wth_none, ck_pos (by simp), e1, ck_pos (by rw [List.length_singleton]; omega), w1, Option.bind_some, w2, Option.bind_some]
  rfl
theorem JoinTurns_main (z : T_muntinref10_Places) (at_ : A2 Int) (m1 : z.At.length ≤ Go.maxLen) (b1 : ∀ y ∈ z.At, Ok_u8 y) (m2 : z.Bits.length ≤ Go.maxLen) (b2 : ∀ y ∈ z.Bits, Ok_u8 y) (m3 : z.Own.length ≤ Go.maxLen) (b3 : ∀ y ∈ z.Own, Ok_i8 y) (hm : Ok_A2_u8 at_) : p_muntinlaw13_JoinTurns z at_ = some true := by
  obtain ⟨l, pts, e1, hM, hlen⟩ := mMake (z := z) (most := 16) (okZ m1 b1 b3) (by omega)
  have hc := hM.ck
  have h0 := hm.1.u8
  have h1 := hm.2.u8
  have hN : l.length ≤ 64 := by omega
  have hL := trn_len (l := l)
  have hp := PS_len (l := l) l.length
  have hpp := PS_part (l := l) l.length
  have g0 : at_.get 0 = at_.a := rfl
  have g1 : at_.get 1 = at_.b := rfl
  have pt := mJoinParts hc.turn (by omega)
  rw [hL, PS_trn hc l.length (by omega)] at pt
  unfold p_muntinlaw13_JoinTurns
  rw [e1, Option.bind_some]
  dsimp only
  rw [mJoinParts hc hN, Option.bind_some]
  dsimp only
  rw [mTurned (by omega), Option.bind_some, pt, Option.bind_some]
  dsimp only
  rw [kJoinWakes, Option.bind_some, if_neg (by simp)]
  have eq : loopF (p_muntinlaw13_JoinTurns.s0 (PS l l.length).1 (PS l l.length).1) big 0 = some (.inl ()) := by
    refine loop_to (fun n : Nat => (n : Int)) (n := (PS l l.length).1.length) (big_lt (by omega)) rfl (fun n hn => ?_) ?_
    · simp only [p_muntinlaw13_JoinTurns.s0]
      have := hpp _ (gi_mem hn)
      rw [ifd_pos (by omega), ck_pos (by omega), Int.toNat_natCast, mEqual (by omega), Option.bind_some, if_neg (by decide), ckI64 (by omega), ck_pos (by omega)]
      rfl
    · simp only [p_muntinlaw13_JoinTurns.s0]
      rw [ifd_neg (by omega)]
  rw [eq, Option.bind_some]
  dsimp only
  rw [g0, g1, ckK64 (by omega), ckK64 (by omega)]
  obtain ⟨r, e2, hr⟩ := mEdge (l := l) (by omega) h0 h1
  rw [e2, Option.bind_some]
  rcases hr with rfl | ⟨v, d, rfl, hv, hd, hn⟩
  · rfl
  · dsimp only
    obtain ⟨w, hw⟩ := Int.eq_ofNat_of_zero_le hn
    obtain ⟨hwl, hwv, hcs⟩ := hc.spl hv hd hw
    have sp := mJoinParts hcs (by rw [spl_len]; omega)
    rw [spl_len, PS_splEnd hc hv hd hw] at sp
    rw [if_neg (by decide), rSplitOk (by omega) hv hd hw hwl, Option.bind_some]
    dsimp only
    rw [sp, Option.bind_some]
    dsimp only
    rw [if_neg (by simp)]
    generalize (PS l l.length).1 = P at *
    have fin : ∃ r, loopF (p_muntinlaw13_JoinTurns.s1 (v : Int) (l.length : Int) (P.map (ext v l.length))) big (P, 0) = some r ∧ r = .inl () := by
      refine loop_inv (fun (k : Nat) (s : List (List Int) × Int) => (s.1.length = P.length ∧ ∀ i, k ≤ i → i < P.length → gi s.1 i = gi P i) ∧ s.2 = k) (n := P.length) (big_lt (by omega)) ⟨⟨rfl, fun _ _ _ => rfl⟩, rfl⟩ ?_ ?_
      · rintro k ⟨p, j⟩ hk ⟨⟨h1, h2⟩, h3⟩
        dsimp only at h1 h2 h3 ⊢
        subst h3
        have gk := h2 k (by omega) hk
        have hpl := hpp _ (gi_mem hk)
        have gr : gi (P.map (ext v l.length)) k = ext v l.length (gi P k) := by rw [gi_eq (by simpa using hk), gi_eq hk]; simp
        have hex : (ext v l.length (gi P k)).length ≤ l.length + 1 := by
          unfold ext; split
          · rw [List.length_append]; simp; omega
          · omega
        simp only [p_muntinlaw13_JoinTurns.s1]
        rw [ifd_pos (by rw [List.length_map]; omega), ck_pos (by omega), Int.toNat_natCast, gk, mContainsI (by omega), Option.bind_some]
        by_cases c : (v : Int) ∈ gi P k
        · rw [ifd_pos c, ck_pos (by simp; omega), Option.bind_some, ck_pos (by rw [List.length_set]; omega), ck_pos (by rw [List.length_map]; omega), gi_set (by omega), if_pos rfl, gr]
          have : ext v l.length (gi P k) = gi P k ++ [(l.length : Int)] := by unfold ext; rw [if_pos c]
          rw [this] at hex ⊢
          rw [mEqual (by omega), Option.bind_some, if_neg (by decide), ckI64 (by omega)]
          refine ⟨_, rfl, ⟨by rw [List.length_set]; exact h1, fun i hi hi2 => ?_⟩, by dsimp only; omega⟩
          dsimp only
          rw [gi_set (by omega), if_neg (by omega)]
          exact h2 i (by omega) hi2
        · rw [ifd_neg c, Option.bind_some, ck_pos (by omega), ck_pos (by rw [List.length_map]; omega), gk, gr]
          have : ext v l.length (gi P k) = gi P k := by unfold ext; rw [if_neg c]
          rw [this, mEqual (by omega), Option.bind_some, if_neg (by decide), ckI64 (by omega)]
          exact ⟨_, rfl, ⟨h1, fun i hi hi2 => h2 i (by omega) hi2⟩, by dsimp only; omega⟩
      · rintro ⟨p, j⟩ ⟨⟨h1, h2⟩, h3⟩
        dsimp only at h1 h2 h3 ⊢
        subst h3
        simp only [p_muntinlaw13_JoinTurns.s1]
        rw [ifd_neg (by rw [List.length_map]; omega)]
        exact ⟨_, rfl, rfl⟩
    obtain ⟨r, e3, rfl⟩ := fin
    rw [e3, Option.bind_some]
end Mu
