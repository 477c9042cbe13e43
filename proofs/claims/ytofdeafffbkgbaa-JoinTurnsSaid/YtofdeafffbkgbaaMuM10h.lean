/- Layer 10: turned cells; what Split and Of answer. -/
import Derived.Test.YtofdeafffbkgbaaMuM10g
import Derived.Test.YtofdeafffbkgbaaMuM10f
set_option linter.unusedVariables false
set_option linter.unusedSimpArgs false
set_option maxRecDepth 10000
namespace Mu
def tc (c : T_api_Cell) : T_api_Cell := ⟨⟨c.Next.d, c.Next.a, c.Next.b, c.Next.c⟩, ⟨c.Owner.d, c.Owner.a, c.Owner.b, c.Owner.c⟩⟩
/-- The cells, turned once to the left. -/
def trn (l : List T_api_Cell) : List T_api_Cell := (List.range l.length).map fun v => tc (gi l v)
theorem trn_len {l : List T_api_Cell} : (trn l).length = l.length := by simp [trn]
theorem mTurned {l : List T_api_Cell} (hl : l.length ≤ 100000000) : p_muntinref10_Turned l = some (trn l) := by
  unfold p_muntinref10_Turned
  rw [bd_eq (x := trn l)]
  refine loop_to (fun n : Nat => ((List.range n).map fun v => tc (gi l v), (n : Int))) (n := l.length) (big_lt (by omega)) rfl (fun n hn => ?_) ?_
  · have inner : loopF (p_muntinref10_Turned.s1 l n) big (gi l n, 0) = some (tc (gi l n)) := by
      have g : (n : Int).toNat = n := Int.toNat_natCast n
      obtain ⟨c, hc⟩ : ∃ c, c = gi l n := ⟨_, rfl⟩
      refine loop_to (fun k : Nat => ((⟨⟨if 3 < k then c.Next.d else c.Next.a, if 0 < k then c.Next.a else c.Next.b, if 1 < k then c.Next.b else c.Next.c, if 2 < k then c.Next.c else c.Next.d⟩, ⟨if 3 < k then c.Owner.d else c.Owner.a, if 0 < k then c.Owner.a else c.Owner.b, if 1 < k then c.Owner.b else c.Owner.c, if 2 < k then c.Owner.c else c.Owner.d⟩⟩ : T_api_Cell), (k : Int))) (n := 4) (big_lt (by omega)) (by rw [← hc]; rfl) (fun k hk => ?_) ?_
      · simp only [p_muntinref10_Turned.s1]
        rw [g, ← hc]
        match k, hk with
        | 0, _ | 1, _ | 2, _ | 3, _ => rfl
      · simp only [p_muntinref10_Turned.s1]
        rw [← hc]
        rfl
    simp only [p_muntinref10_Turned.s0]
    rw [ifd_pos (by omega), ck_pos (by omega), Int.toNat_natCast, inner, Option.bind_some, ck_pos (by simp; omega), ckI64 (by omega), List.range_succ, List.map_append, show ((n + 1 : Nat) : Int) = (n : Int) + 1 by omega]
    rfl
  · simp only [p_muntinref10_Turned.s0]
    rw [ifd_neg (by omega)]
    rfl
theorem nx_trn {l : List T_api_Cell} {v e : Nat} (hv : v < l.length) (he : e < 4) : nx (trn l) v e = nx l v ((e + 3) % 4) ∧ ow (trn l) v e = ow l v ((e + 3) % 4) := by
  have g : gi (trn l) v = tc (gi l v) := gi_map_range hv
  unfold nx ow
  rw [g]
  match e, he with
  | 0, _ | 1, _ | 2, _ | 3, _ => exact ⟨rfl, rfl⟩
theorem Ck.turn {l : List T_api_Cell} (h : Ck l) : Ck (trn l) := by
  refine ⟨fun v d hv hd => ?_⟩
  rw [trn_len] at hv ⊢
  rw [(nx_trn hv hd).1, (nx_trn hv hd).2]
  rcases h.s v ((d + 3) % 4) hv (by omega) with h | ⟨w, a, b, c, f, g, k⟩
  · exact .inl h
  · refine .inr ⟨w, a, b, c, ?_, ?_, k⟩
    · rw [(nx_trn b (by omega)).1, show ((d + 2) % 4 + 3) % 4 = ((d + 3) % 4 + 2) % 4 by omega]; exact f
    · rw [(nx_trn b (by omega)).2, show ((d + 2) % 4 + 3) % 4 = ((d + 3) % 4 + 2) % 4 by omega]; exact g
theorem Ck.turnBack {l : List T_api_Cell} (h : Ck (trn l)) : Ck l := by
  refine ⟨fun v d hv hd => ?_⟩
  have hs := h.s v ((d + 1) % 4) (by rw [trn_len]; exact hv) (by omega)
  rw [(nx_trn hv (by omega)).1, (nx_trn hv (by omega)).2, show ((d + 1) % 4 + 3) % 4 = d by omega, trn_len] at hs
  rcases hs with h | ⟨w, a, b, c, f, g, k⟩
  · exact .inl h
  · refine .inr ⟨w, a, b, c, ?_, ?_, k⟩
    · rw [(nx_trn b (by omega)).1, show (((d + 1) % 4 + 2) % 4 + 3) % 4 = (d + 2) % 4 by omega] at f; exact f
    · rw [(nx_trn b (by omega)).2, show (((d + 1) % 4 + 2) % 4 + 3) % 4 = (d + 2) % 4 by omega] at g; exact g
theorem trn_spl {l : List T_api_Cell} {v d w : Nat} {o : Int} (hv : v < l.length) (hw : w < l.length) (hd : d < 4) : trn (spl l v d w o) = spl (trn l) v ((d + 1) % 4) w o := by
  apply list_ext (by rw [trn_len, spl_len, spl_len, trn_len])
  intro i hi
  rw [trn_len, spl_len] at hi
  have hL := trn_len (l := l)
  refine cell_ext fun e he => ?_
  show nx (trn (spl l v d w o)) i e = nx (spl (trn l) v ((d + 1) % 4) w o) i e ∧ ow (trn (spl l v d w o)) i e = ow (spl (trn l) v ((d + 1) % 4) w o) i e
  have a := nx_trn (l := spl l v d w o) (v := i) (e := e) (by rw [spl_len]; omega) he
  have b := nx_spl (l := l) (v := v) (d := d) (w := w) (i := i) (e := (e + 3) % 4) (o := o) hv hw hd (by omega) (by omega)
  have c := nx_spl (l := trn l) (v := v) (d := (d + 1) % 4) (w := w) (i := i) (e := e) (o := o) (by omega) (by omega) (by omega) (by omega) he
  rw [a.1, a.2, b.1, b.2, c.1, c.2, hL]
  by_cases q : i = l.length
  · rw [if_pos q, if_pos q, if_pos q, if_pos q]
    constructor <;> (repeat' split) <;> first | rfl | omega
  · have t := nx_trn (l := l) (v := i) (e := e) (by omega) he
    rw [if_neg q, if_neg q, if_neg q, if_neg q, t.1, t.2]
    constructor <;> (repeat' split) <;> first | rfl | omega
end Mu
