/- The proof of one statement: the run of the evaluator, carried to the model. -/
import Derived.Test.YteedifiifkghkaaRows
import Derived.Test.YteedifiifkghkaaMuC0
import Derived.Test.YteedifiifkghkaaMuC1
import Derived.Test.YteedifiifkghkaaMuK15
import Derived.Test.YteedifiifkghkaaMuK15b
import Derived.Test.YteedifiifkghkaaMuK15c
import Derived.Test.YteedifiifkghkaaMuK15d
import Derived.Test.YteedifiifkghkaaMuK15e
import Derived.Test.YteedifiifkghkaaMuMa
import Derived.WalkKit
import Derived.ProofKit
import Derived.OpenShut
import Derived.ShutString
import Derived.ChangeOld
import Derived.Below
import Derived.WideShapes
import Derived.ChangeShapes
namespace Go.Proofs.Yteedifiifkghkaa.kittyTells
open Go.ChangeShapes Go.WideShapes Go.ChangeAt Go.RowKit
set_option linter.unusedVariables false
set_option maxRecDepth 100000

theorem own : ownKnob Try.prog.godebug = none := by kernel_rfl
theorem laidOut : laidOutB Try.prog = true := by kernel_rfl

theorem walk {H : Type} {enc : TypeId × Value → H} (w : World) (a0 : Option Addr) (len0 cap0 : Nat) {d0 : DataW H} {p0 : List MemPlace} (k0 : DataW.Trod enc Try.prog w 0 (fun _ => true) true 22 (.slice a0 len0 cap0) d0 p0) (cs1 : Array Value) {d1 : DataW H} {p1 : List MemPlace} (k1 : DataW.Trod enc Try.prog w 0 (fun _ => true) true 36 (.agg cs1) d1 p1) (cs2 : Array Value) {d2 : DataW H} {p2 : List MemPlace} (k2 : DataW.Trod enc Try.prog w 0 (fun _ => true) true 36 (.agg cs2) d2 p2) :
    Calls Try.prog 6 #[.slice a0 len0 cap0, .agg cs1, .agg cs2] w fun e w' => e = .returned (.bool true) ∧ Below w.heap.size w w' := by
  have i0 := Mu.Inv.start (K := Mu.Kf) (w := w)
  obtain ⟨n0, t0⟩ := k0
  obtain ⟨ρ1, h1, v1, sv1, l1, e1, i1, le1, x1, r1, s1, m1, b1⟩ := Mu.Inv.row i0 t0 Try.underlying22 (E := Mu.e_i8) (R := Mu.Ok_i8) (ks := [some .i8]) (d := 10) (by kernel_rfl) rfl (by decide) Mu.dec_i8
  obtain ⟨n1, t1⟩ := k1
  have oy1002 := Mu.flat_open t1 (ks := [some .i64, some .i64]) (d := 10) (by kernel_rfl)
  obtain ⟨y1002, cy1002, ky1002⟩ := Mu.dec_T_kitty_Corner _ oy1002
  obtain ⟨n2, t2⟩ := k2
  have oy2003 := Mu.flat_open t2 (ks := [some .i64, some .i64]) (d := 10) (by kernel_rfl)
  obtain ⟨y2003, cy2003, ky2003⟩ := Mu.dec_T_kitty_Corner _ oy2003
  have z0 : Mu.Rel Mu.Kf ρ1 v1 (.slice a0 len0 cap0) := by have q := (List.cons.inj e1).1; rw [← show _ = sv1 from q] at r1; exact r1
  obtain ⟨u, k', hi, hu, _⟩ := Mu.p_muntinlaw15_KittyTells.ok (h := h1) (l := l1) (a := y1002) (b := y2003) s1 (Mu.KittyTells_pure l1 y1002 y2003 m1 b1 ky1002 ky2003)
  exact Mu.calls_of (f := 3) (args := [v1, .ag (Mu.e_T_kitty_Corner.c y1002), .ag (Mu.e_T_kitty_Corner.c y2003)]) Mu.match_all Mu.mixed rfl (.cons z0 (.cons (.ag (Mu.enc_rel oy1002 cy1002)) (.cons (.ag (Mu.enc_rel oy2003 cy2003)) .nil))) i1 ((hi _).2 hu.symm)

theorem lifted (os : Os) (started : os.Started) (H : Type) (enc : TypeId × Value → H) :
    ReturnsInHanded {} Try.checked os 6 .any (Rows.kittyTellsSpec.pre6 enc Try.prog Try.f6 Rows.kittyTellsRow.domain false) (Rows.kittyTellsSpec.post enc Try.prog Try.f6 false true false false) := by
  refine returnsInHanded_of_change (C := Try.checked) own started (by kernel_rfl) Try.func6
    (ChangeSpec.witness6 (enc := enc) (C := Try.checked) false ⟨#[], #[.slice none 0 0, .agg #[.int .i64 0, .int .i64 0], .agg #[.int .i64 0, .int .i64 0]], []⟩ 8 (by kernel_rfl) (by kernel_rfl) (by kernel_rfl) (by kernel_rfl)) ?_
  intro W base args ds gs before hval0 hW hcnd _
  have hval : ∀ (j : Nat) t v, Try.f6.params[j]? = some t → args[j]? = some v → Value.okWide Try.prog W .any base t v := hval0
  have hW' := hW
  obtain ⟨p, q, hA0, hV, rfl, hfz, hnd⟩ := hW
  have hA : DataW.TrodAll enc Try.prog W 0 (fun _ => true) true Try.f6.params.toList args.toList ds p := hA0
  rw [Try.params6] at hA hval
  obtain ⟨v0, vs0, d0, ds0, p0, q0, hargs, rfl, rfl, h0, r0⟩ := trodAll_cons hA
  obtain ⟨v1, vs1, d1, ds1, p1, q1, rfl, rfl, rfl, h1, r1⟩ := trodAll_cons r0
  obtain ⟨v2, vs2, d2, ds2, p2, q2, rfl, rfl, rfl, h2, r2⟩ := trodAll_cons r1
  obtain ⟨rfl, rfl, rfl⟩ := trodAll_nil r2
  obtain rfl : args = #[v0, v1, v2] := by cases args; simp_all
  obtain ⟨rfl, rfl⟩ := trodVars_none hV
  obtain ⟨a0, len0, cap0, rfl⟩ := okWide_slice Try.underlying22 (hval 0 22 v0 rfl rfl)
  have lt0 : ∀ x ∈ p0, x.block < W.heap.size := by obtain ⟨m, hm⟩ := h0; exact DataW.trod_lt m _ _ _ hm
  obtain ⟨cs1, rfl⟩ := Mu.okWide_agg (hval 1 36 v1 rfl rfl) (.inl ⟨_, Try.underlying36⟩)
  have lt1 : ∀ x ∈ p1, x.block < W.heap.size := by obtain ⟨m, hm⟩ := h1; exact DataW.trod_lt m _ _ _ hm
  obtain ⟨cs2, rfl⟩ := Mu.okWide_agg (hval 2 36 v2 rfl rfl) (.inl ⟨_, Try.underlying36⟩)
  have lt2 : ∀ x ∈ p2, x.block < W.heap.size := by obtain ⟨m, hm⟩ := h2; exact DataW.trod_lt m _ _ _ hm
  clear hA0 hval0
  refine (walk W a0 len0 cap0 h0 cs1 h1 cs2 h2).mono fun e W' ⟨he, bel⟩ => ?_
  subst he
  exact ⟨_, rfl, _, _, _, [], _, [], hW', trodAll_mk1 (shut_bool Try.underlying4 _), (trodAll_cons_mk (Below.trod laidOut (by kernel_rfl) (of_decide_eq_true (by kernel_rfl)) h0 bel lt0) (trodAll_cons_mk (Below.trod laidOut (by kernel_rfl) (of_decide_eq_true (by kernel_rfl)) h1 bel lt1) (trodAll_cons_mk (Below.trod laidOut (by kernel_rfl) (of_decide_eq_true (by kernel_rfl)) h2 bel lt2) trodAll_mk0))), rfl, bel.frame _, fun h => by cases h⟩

theorem over : Rows.kittyTellsRow.holds Try.pinned (OpenSpec.ofChange Rows.kittyTellsSpec) :=
  OpenClaim.holds_of_wide 6 Try.f6 rfl rfl rfl rfl rfl rfl rfl ⟨rfl, rfl, rfl, rfl, rfl⟩ rfl rfl rfl rfl rfl (by kernel_rfl) Try.func6 (by kernel_rfl)
    (of_decide_eq_true (by kernel_rfl)) (by unfold Func.isWrapper; first | (rw [if_pos (by decide +kernel)]; kernel_rfl) | (rw [if_neg (by decide +kernel)]; exact ⟨rfl, rfl⟩))
    (fun os started H enc _ => lifted os started H enc)

/-- The statement. -/
theorem proved : Rows.KittyTellsSaid := over
#print axioms proved
end Go.Proofs.Yteedifiifkghkaa.kittyTells
