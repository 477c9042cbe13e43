/- Layer 10: GridSplits, GridTurns, GridChecks. -/
import Derived.Test.YtofdeafffbkgbaaMuM10h
set_option linter.unusedVariables false
set_option linter.unusedSimpArgs false
set_option maxRecDepth 10000
namespace Mu
theorem natTmod {a : Int} {n : Nat} (ha : 0 ≤ a) (hn : 0 < n) : ∃ k : Nat, a.tmod (n : Int) = k ∧ k < n := by
  refine ⟨a.toNat % n, ?_, Nat.mod_lt _ hn⟩
  obtain ⟨k, rfl⟩ := Int.eq_ofNat_of_zero_le ha
  rw [Int.toNat_natCast, Int.tmod_eq_emod_of_nonneg (by omega)]; omega
theorem okPl {z : T_muntinref10_Places} (m1 : z.At.length ≤ Go.maxLen) (b1 : ∀ y ∈ z.At, Ok_u8 y) (b3 : ∀ y ∈ z.Own, Ok_i8 y) : OkZ z := ⟨m1, b1, b3⟩
theorem set_nx {l : List T_api_Cell} {v d i e : Nat} {x : Int} (hv : v < l.length) (hd : d < 4) (he : e < 4) : nx (l.set v { gi l v with Next := (gi l v).Next.set (d : Int) x }) i e = (if i = v ∧ e = d then x else nx l i e) ∧ ow (l.set v { gi l v with Next := (gi l v).Next.set (d : Int) x }) i e = ow l i e := by
  unfold nx ow
  rw [gi_set hv]
  by_cases c : i = v
  · subst c
    rw [if_pos rfl]
    dsimp only
    rw [A4_get_set hd he]
    by_cases q : e = d
    · rw [if_pos q, if_pos ⟨rfl, q⟩]; exact ⟨rfl, rfl⟩
    · rw [if_neg q, if_neg (fun h => q h.2)]; exact ⟨rfl, rfl⟩
  · rw [if_neg c, if_neg (fun h => c h.1)]; exact ⟨rfl, rfl⟩
theorem GridSplits_main (z : T_muntinref10_Places) (at_ : A2 Int) (m1 : z.At.length ≤ Go.maxLen) (b1 : ∀ y ∈ z.At, Ok_u8 y) (m2 : z.Bits.length ≤ Go.maxLen) (b2 : ∀ y ∈ z.Bits, Ok_u8 y) (m3 : z.Own.length ≤ Go.maxLen) (b3 : ∀ y ∈ z.Own, Ok_i8 y) (hm : Ok_A2_u8 at_) : p_muntinlaw10_GridSplits z at_ = some true := by
  obtain ⟨l, pts, e1, hM, hlen⟩ := mMake (z := z) (most := 12) (okPl m1 b1 b3) (by omega)
  have hc := hM.ck
  have h0 := hm.1.u8
  have h1 := hm.2.u8
  have hk : chkP l = 0 := Ck_iff.2 ⟨by omega, hc⟩
  unfold p_muntinlaw10_GridSplits
  rw [e1, Option.bind_some]
  dsimp only
  rw [mOf (by omega), Option.bind_some, hk, if_pos rfl]
  dsimp only
  rw [kGridWakes, Option.bind_some]
  by_cases c : l.length = 0
  · rw [if_pos (by simp [c]), Option.bind_some]; rfl
  · obtain ⟨v, ev, hv⟩ := natTmod h0.1 (show 0 < l.length by omega)
    obtain ⟨d, ed, hd⟩ := natTmod (n := 4) h1.1 (by omega)
    have g0 : at_.get 0 = at_.a := rfl
    have g1 : at_.get 1 = at_.b := rfl
    rw [show ((4 : Nat) : Int) = 4 from rfl] at ed
    have q : ((!true || !decide ((0 : Int) = 0)) || decide ((l.length : Int) = 0)) = false := by rw [dec_f (show ¬ (l.length : Int) = 0 by omega)]; rfl
    rw [q, if_neg Bool.false_ne_true, g0, g1, ckK64 (by omega), ck_pos (by omega), ckK64 (by omega), Option.bind_some, ev, ed, mNext hv hd, Option.bind_some]
    by_cases e : nx l v d = -1
    · rw [if_pos e]
      dsimp only
      rw [mSplitNo hv hd e, Option.bind_some]
      dsimp only
      rw [if_pos (by decide), ifd_pos rfl]
      unfold p_grid_Grid_Cells p_slices_Clone_api_Cell
      dsimp only
      rw [ck_pos (by omega), Option.bind_some, Option.bind_some, mSame (by omega), Option.bind_some, Option.bind_some]
    · obtain ⟨w, hw⟩ : ∃ w : Nat, nx l v d = w := by
        rcases hc.s v d hv hd with ⟨a, _⟩ | ⟨w, a, _⟩
        · exact absurd a e
        · exact ⟨w, a⟩
      obtain ⟨hwl, hwv, hcs⟩ := hc.spl hv hd hw
      have hsl := spl_len (l := l) (v := v) (d := d) (w := w) (o := ow l v d)
      have N := fun i e hi he => nx_spl (o := ow l v d) hv hwl hd (i := i) (e := e) hi he
      have hks : chkP (spl l v d w (ow l v d)) = 0 := Ck_iff.2 ⟨by omega, hcs⟩
      have hb : (((d : Int) + 2).tmod 4) = (((d + 2) % 4 : Nat) : Int) := by
        match d, hd with
        | 0, _ | 1, _ | 2, _ | 3, _ => rfl
      have nv : nx (spl l v d w (ow l v d)) v d = (l.length : Int) := by rw [(N v d (by omega) hd).1, if_neg (by omega), if_neg (by omega), if_pos ⟨rfl, rfl⟩]
      have ov : ow (spl l v d w (ow l v d)) v d = ow l v d := by rw [(N v d (by omega) hd).2, if_neg (by omega), if_neg (by omega), if_pos ⟨rfl, rfl⟩]
      have nu : nx (spl l v d w (ow l v d)) l.length d = (w : Int) := by rw [(N _ d (by omega) hd).1, if_pos rfl, if_pos rfl]
      have ou : ow (spl l v d w (ow l v d)) l.length d = ow l v d := by rw [(N _ d (by omega) hd).2, if_pos rfl, if_pos rfl]
      have x1 := mNext (l := spl l v d w (ow l v d)) (v := v) (d := d) (by omega) hd
      have x2 := mNext (l := spl l v d w (ow l v d)) (v := l.length) (d := d) (by omega) hd
      rw [nv, ov, if_neg (show ¬ (l.length : Int) = -1 by omega)] at x1
      rw [nu, ou, if_neg (show ¬ (w : Int) = -1 by omega)] at x2
      rw [if_neg e]
      dsimp only
      rw [mSplitOk (by omega) hv hd hw hwl, Option.bind_some]
      dsimp only
      rw [if_neg (by decide), x1, Option.bind_some]
      dsimp only
      rw [x2, Option.bind_some]
      dsimp only
      unfold p_grid_Grid_Cells p_slices_Clone_api_Cell
      dsimp only
      have hcond : ((!decide ((0 : Int) = 0)) || (!decide ((l.length : Int) = (l.length : Int)))) = false := by simp
      rw [ck_pos (by omega), Option.bind_some, Option.bind_some, hcond, if_neg Bool.false_ne_true, ckI64 (by omega), hsl, dec_t (by omega), Option.bind_some, hw]
      have hcond2 : (((((((!true) || (!(decide ((l.length : Int) = (l.length : Int))))) || (!true)) || (!(decide (ow l v d = ow l v d)))) || (!(decide ((w : Int) = (w : Int))))) || (!true)) || (!(decide (ow l v d = ow l v d)))) = false := by simp
      rw [hcond2, if_neg Bool.false_ne_true, mCheck (by omega), Option.bind_some, hks, dec_t rfl, Option.bind_some, if_neg (by decide), ckI64 (by omega), ck_pos (by omega), ck_pos (by omega), ck_pos (by rw [List.length_set]; omega), hb, ck_pos (by omega), Int.toNat_natCast, Int.toNat_natCast, Int.toNat_natCast]
      rw [ck_pos (by simp only [List.length_set]; omega)]
      have fin : (((spl l v d w (ow l v d)).set v { gi (spl l v d w (ow l v d)) v with Next := (gi (spl l v d w (ow l v d)) v).Next.set (d : Int) (w : Int) }).set w { gi ((spl l v d w (ow l v d)).set v { gi (spl l v d w (ow l v d)) v with Next := (gi (spl l v d w (ow l v d)) v).Next.set (d : Int) (w : Int) }) w with Next := (gi ((spl l v d w (ow l v d)).set v { gi (spl l v d w (ow l v d)) v with Next := (gi (spl l v d w (ow l v d)) v).Next.set (d : Int) (w : Int) }) w).Next.set (((d + 2) % 4 : Nat) : Int) (v : Int) }).take l.length = l := by
        apply list_ext (by simp only [List.length_take, List.length_set, hsl]; omega)
        intro i hi
        have hi' : i < l.length := by simp only [List.length_take, List.length_set, hsl] at hi; omega
        have tk : ∀ m : List T_api_Cell, m.length = l.length + 1 → gi (m.take l.length) i = gi m i := by
          intro m hm
          rw [gi_eq (by rw [List.length_take]; omega), gi_eq (by omega), List.getElem_take]
        rw [tk _ (by simp only [List.length_set, hsl])]
        refine cell_ext fun e he => ?_
        have A := set_nx (l := spl l v d w (ow l v d)) (v := v) (d := d) (i := i) (e := e) (x := (w : Int)) (by omega) hd he
        have B := set_nx (l := (spl l v d w (ow l v d)).set v { gi (spl l v d w (ow l v d)) v with Next := (gi (spl l v d w (ow l v d)) v).Next.set (d : Int) (w : Int) }) (v := w) (d := (d + 2) % 4) (i := i) (e := e) (x := (v : Int)) (by rw [List.length_set]; omega) (by omega) he
        have B1 := B.1
        have B2 := B.2
        rw [A.1, (N i e (by omega) he).1, if_neg (show ¬ i = l.length by omega)] at B1
        rw [A.2, (N i e (by omega) he).2, if_neg (show ¬ i = l.length by omega)] at B2
        have C : (nx l w ((d + 2) % 4) = v ∧ ow l w ((d + 2) % 4) = ow l v d) := by
          rcases hc.s v d hv hd with ⟨a, _⟩ | ⟨w', a, b1, b2, b3, b4, _⟩
          · omega
          · have : w = w' := by omega
            subst this; exact ⟨b3, b4⟩
        refine ⟨B1.trans ?_, B2.trans ?_⟩
        · show _ = nx l i e
          by_cases q1 : i = w ∧ e = (d + 2) % 4
          · rw [if_pos q1, q1.1, q1.2, C.1]
          · rw [if_neg q1, if_neg q1]
            by_cases q2 : i = v ∧ e = d
            · rw [if_pos q2, q2.1, q2.2, hw]
            · rw [if_neg q2, if_neg q2]
        · show _ = ow l i e
          by_cases q1 : i = w ∧ e = (d + 2) % 4
          · rw [if_pos q1, q1.1, q1.2, C.2]
          · rw [if_neg q1]
            by_cases q2 : i = v ∧ e = d
            · rw [if_pos q2, q2.1, q2.2]
            · rw [if_neg q2]
      rw [fin, mSame (by omega), Option.bind_some]
end Mu
