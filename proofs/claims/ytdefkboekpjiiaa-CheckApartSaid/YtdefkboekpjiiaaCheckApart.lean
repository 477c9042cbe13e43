/- The proof of one statement: the run of the evaluator, carried to the model. -/
import Derived.Test.YtdefkboekpjiiaaRows
import Derived.Test.YtdefkboekpjiiaaMuC0
import Derived.Test.YtdefkboekpjiiaaMuC1
import Derived.Test.YtdefkboekpjiiaaMuC2
import Derived.Test.YtdefkboekpjiiaaMuK0
import Derived.Test.YtdefkboekpjiiaaMuMa
import Derived.WalkKit
import Derived.ProofKit
import Derived.OpenShut
import Derived.ShutString
import Derived.ChangeOld
import Derived.Below
import Derived.WideShapes
import Derived.ChangeShapes
namespace Go.Proofs.Ytdefkboekpjiiaa.checkApart
open Go.ChangeShapes Go.WideShapes Go.ChangeAt Go.RowKit
set_option linter.unusedVariables false
set_option maxRecDepth 100000

theorem own : ownKnob Try.prog.godebug = none := by kernel_rfl
theorem laidOut : laidOutB Try.prog = true := by kernel_rfl

theorem walk {H : Type} {enc : TypeId × Value → H} (w : World) (cs0 : Array Value) {d0 : DataW H} {p0 : List MemPlace} (k0 : DataW.Trod enc Try.prog w 0 (fun _ => true) true 110 (.agg cs0) d0 p0) (cs1 : Array Value) {d1 : DataW H} {p1 : List MemPlace} (k1 : DataW.Trod enc Try.prog w 0 (fun _ => true) true 110 (.agg cs1) d1 p1) (cs2 : Array Value) {d2 : DataW H} {p2 : List MemPlace} (k2 : DataW.Trod enc Try.prog w 0 (fun _ => true) true 111 (.agg cs2) d2 p2) :
    Calls Try.prog 12 #[.agg cs0, .agg cs1, .agg cs2] w fun e w' => e = .returned (.bool true) ∧ Below w.heap.size w w' := by
  have i0 := Mu.Inv.start (K := Mu.Kf) (w := w)
  obtain ⟨n0, t0⟩ := k0
  have oy0 := Mu.ZdH t0 (ks := [some .i16, some .i16, some .i16, some .i16]) (d := 10) (by kernel_rfl)
  obtain ⟨y0, cy0, ky0⟩ := Mu.Zem _ oy0
  obtain ⟨n1, t1⟩ := k1
  have oy1001 := Mu.ZdH t1 (ks := [some .i16, some .i16, some .i16, some .i16]) (d := 10) (by kernel_rfl)
  obtain ⟨y1001, cy1001, ky1001⟩ := Mu.Zem _ oy1001
  obtain ⟨n2, t2⟩ := k2
  have oy2002 := Mu.ZdH t2 (ks := [some .i8, some .i8]) (d := 10) (by kernel_rfl)
  obtain ⟨y2002, cy2002, ky2002⟩ := Mu.Zgo _ oy2002
  obtain ⟨u, k', hi, hu, _⟩ := Mu.zJ.ok (h := Mu.Hp.none) (a := y0) (b := y1001) (by_ := y2002)  (Mu.ZdU y0 y1001 y2002 ky0 ky1001 ky2002)
  exact Mu.ZgJ (f := 161) (args := [.ag (Mu.ZD.c y0), .ag (Mu.ZD.c y1001), .ag (Mu.zX.c y2002)]) Mu.match_all Mu.mixed rfl (.cons (.ag (Mu.Zfc oy0 cy0)) (.cons (.ag (Mu.Zfc oy1001 cy1001)) (.cons (.ag (Mu.Zfc oy2002 cy2002)) .nil))) i0 ((hi _).2 hu.symm)

theorem lifted (os : Os) (started : os.Started) (H : Type) (enc : TypeId × Value → H) :
    ReturnsInHanded {} Try.checked os 12 .any (Rows.checkApartSpec.pre6 enc Try.prog Try.f12 Rows.checkApartRow.domain false) (Rows.checkApartSpec.post enc Try.prog Try.f12 false true false false) := by
  refine returnsInHanded_of_change (C := Try.checked) own started (by kernel_rfl) Try.func12
    (ChangeSpec.witness6 (enc := enc) (C := Try.checked) false ⟨#[], #[.agg #[.int .i16 0, .int .i16 0, .int .i16 0, .int .i16 0], .agg #[.int .i16 0, .int .i16 0, .int .i16 0, .int .i16 0], .agg #[.int .i8 0, .int .i8 0]], []⟩ 8 (by kernel_rfl) (by kernel_rfl) (by kernel_rfl) (by kernel_rfl)) ?_
  intro W base args ds gs before hval0 hW hcnd _
  have hval : ∀ (j : Nat) t v, Try.f12.params[j]? = some t → args[j]? = some v → Value.okWide Try.prog W .any base t v := hval0
  have hW' := hW
  obtain ⟨p, q, hA0, hV, rfl, hfz, hnd⟩ := hW
  have hA : DataW.TrodAll enc Try.prog W 0 (fun _ => true) true Try.f12.params.toList args.toList ds p := hA0
  rw [Try.params12] at hA hval
  obtain ⟨v0, vs0, d0, ds0, p0, q0, hargs, rfl, rfl, h0, r0⟩ := trodAll_cons hA
  obtain ⟨v1, vs1, d1, ds1, p1, q1, rfl, rfl, rfl, h1, r1⟩ := trodAll_cons r0
  obtain ⟨v2, vs2, d2, ds2, p2, q2, rfl, rfl, rfl, h2, r2⟩ := trodAll_cons r1
  obtain ⟨rfl, rfl, rfl⟩ := trodAll_nil r2
  obtain rfl : args = #[v0, v1, v2] := by cases args; simp_all
  obtain ⟨rfl, rfl⟩ := trodVars_none hV
  obtain ⟨cs0, rfl⟩ := Mu.Zdv (hval 0 110 v0 rfl rfl) (.inr ⟨_, _, Try.underlying110⟩)
  have lt0 : ∀ x ∈ p0, x.block < W.heap.size := by obtain ⟨m, hm⟩ := h0; exact DataW.trod_lt m _ _ _ hm
  obtain ⟨cs1, rfl⟩ := Mu.Zdv (hval 1 110 v1 rfl rfl) (.inr ⟨_, _, Try.underlying110⟩)
  have lt1 : ∀ x ∈ p1, x.block < W.heap.size := by obtain ⟨m, hm⟩ := h1; exact DataW.trod_lt m _ _ _ hm
  obtain ⟨cs2, rfl⟩ := Mu.Zdv (hval 2 111 v2 rfl rfl) (.inr ⟨_, _, Try.underlying111⟩)
  have lt2 : ∀ x ∈ p2, x.block < W.heap.size := by obtain ⟨m, hm⟩ := h2; exact DataW.trod_lt m _ _ _ hm
  clear hA0 hval0
  refine (walk (H := H) (enc := enc) W cs0 h0 cs1 h1 cs2 h2).mono fun e W' ⟨he, bel⟩ => ?_
  subst he
  exact ⟨_, rfl, _, _, _, [], _, [], hW', trodAll_mk1 (shut_bool Try.underlying4 _), (trodAll_cons_mk (Below.trod laidOut (by kernel_rfl) (of_decide_eq_true (by kernel_rfl)) h0 bel lt0) (trodAll_cons_mk (Below.trod laidOut (by kernel_rfl) (of_decide_eq_true (by kernel_rfl)) h1 bel lt1) (trodAll_cons_mk (Below.trod laidOut (by kernel_rfl) (of_decide_eq_true (by kernel_rfl)) h2 bel lt2) trodAll_mk0))), rfl, bel.frame _, fun h => by cases h⟩

theorem over : Rows.checkApartRow.holds Try.pinned (OpenSpec.ofChange Rows.checkApartSpec) :=
  OpenClaim.holds_of_wide 12 Try.f12 rfl rfl rfl rfl rfl rfl rfl ⟨rfl, rfl, rfl, rfl, rfl⟩ rfl rfl rfl rfl rfl (by kernel_rfl) Try.func12 (by kernel_rfl)
    (of_decide_eq_true (by kernel_rfl)) (by unfold Func.isWrapper; first | (rw [if_pos (by decide +kernel)]; kernel_rfl) | (rw [if_neg (by decide +kernel)]; exact ⟨rfl, rfl⟩))
    (fun os started H enc _ => lifted os started H enc)

/-- The statement. -/
theorem proved : Rows.CheckApartSaid := over
#print axioms proved
end Go.Proofs.Ytdefkboekpjiiaa.checkApart
