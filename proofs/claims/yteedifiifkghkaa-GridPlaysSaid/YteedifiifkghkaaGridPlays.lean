/- The proof of one statement: the run of the evaluator, carried to the model. -/
import Derived.Test.YteedifiifkghkaaRows
import Derived.Test.YteedifiifkghkaaMuC0
import Derived.Test.YteedifiifkghkaaMuC1
import Derived.Test.YteedifiifkghkaaMuC2
import Derived.Test.YteedifiifkghkaaMuM10
import Derived.Test.YteedifiifkghkaaMuM10b
import Derived.Test.YteedifiifkghkaaMuM10c
import Derived.Test.YteedifiifkghkaaMuM10d
import Derived.Test.YteedifiifkghkaaMuM10e
import Derived.Test.YteedifiifkghkaaMuM10f
import Derived.Test.YteedifiifkghkaaMuMa
import Derived.WalkKit
import Derived.ProofKit
import Derived.OpenShut
import Derived.ShutString
import Derived.ChangeOld
import Derived.Below
import Derived.WideShapes
import Derived.ChangeShapes
namespace Go.Proofs.Yteedifiifkghkaa.gridPlays
open Go.ChangeShapes Go.WideShapes Go.ChangeAt Go.RowKit
set_option linter.unusedVariables false
set_option maxRecDepth 100000

theorem own : ownKnob Try.prog.godebug = none := by kernel_rfl
theorem laidOut : laidOutB Try.prog = true := by kernel_rfl

theorem walk {H : Type} {enc : TypeId × Value → H} (w : World) (a0 : Int) (w0 : (Lit.int .u8 a0).wf = true) (a1 : Option Addr) (len1 cap1 : Nat) {d1 : DataW H} {p1 : List MemPlace} (k1 : DataW.Trod enc Try.prog w 0 (fun _ => true) true 93 (.slice a1 len1 cap1) d1 p1) :
    Calls Try.prog 14 #[.int .u8 a0, .slice a1 len1 cap1] w fun e w' => e = .returned (.bool true) ∧ Below w.heap.size w w' := by
  have i0 := Mu.Inv.start (K := Mu.Kf) (w := w)
  obtain ⟨n1, t1⟩ := k1
  obtain ⟨ρ1, h1, v1, sv1, l1, e1, i1, le1, x1, r1, s1, m1, b1⟩ := Mu.Inv.row i0 t1 Try.underlying93 (E := Mu.e_T_muntinlaw10_Act) (R := Mu.Ok_T_muntinlaw10_Act) (ks := [some .u8, some .i64, some .i64, some .i64, some .i64]) (d := 10) (by kernel_rfl) rfl (by decide) Mu.dec_T_muntinlaw10_Act
  have z1 : Mu.Rel Mu.Kf ρ1 v1 (.slice a1 len1 cap1) := by have q := (List.cons.inj e1).1; rw [← show _ = sv1 from q] at r1; exact r1
  obtain ⟨u, k', hi, hu, _⟩ := Mu.p_muntinlaw10_GridPlays.ok (h := h1) (n := a0) (acts := l1) s1 (Mu.GridPlays_main a0 l1 w0 m1 b1)
  exact Mu.calls_of (f := 11) (args := [.i .u8 a0, v1]) Mu.match_all Mu.mixed rfl (.cons (.i _ _) (.cons z1 .nil)) i1 ((hi _).2 hu.symm)

theorem lifted (os : Os) (started : os.Started) (H : Type) (enc : TypeId × Value → H) :
    ReturnsInHanded {} Try.checked os 14 .any (Rows.gridPlaysSpec.pre6 enc Try.prog Try.f14 Rows.gridPlaysRow.domain false) (Rows.gridPlaysSpec.post enc Try.prog Try.f14 false true false false) := by
  refine returnsInHanded_of_change (C := Try.checked) own started (by kernel_rfl) Try.func14
    (ChangeSpec.witness6 (enc := enc) (C := Try.checked) false ⟨#[], #[.int .u8 0, .slice none 0 0], []⟩ 8 (by kernel_rfl) (by kernel_rfl) (by kernel_rfl) (by kernel_rfl)) ?_
  intro W base args ds gs before hval0 hW hcnd _
  have hval : ∀ (j : Nat) t v, Try.f14.params[j]? = some t → args[j]? = some v → Value.okWide Try.prog W .any base t v := hval0
  have hW' := hW
  obtain ⟨p, q, hA0, hV, rfl, hfz, hnd⟩ := hW
  have hA : DataW.TrodAll enc Try.prog W 0 (fun _ => true) true Try.f14.params.toList args.toList ds p := hA0
  rw [Try.params14] at hA hval
  obtain ⟨v0, vs0, d0, ds0, p0, q0, hargs, rfl, rfl, h0, r0⟩ := trodAll_cons hA
  obtain ⟨v1, vs1, d1, ds1, p1, q1, rfl, rfl, rfl, h1, r1⟩ := trodAll_cons r0
  obtain ⟨rfl, rfl, rfl⟩ := trodAll_nil r1
  obtain rfl : args = #[v0, v1] := by cases args; simp_all
  obtain ⟨rfl, rfl⟩ := trodVars_none hV
  obtain ⟨a0, rfl, rfl, rfl, w0⟩ := open_int Try.underlying5 (hval 0 5 v0 rfl rfl) h0
  obtain ⟨a1, len1, cap1, rfl⟩ := okWide_slice Try.underlying93 (hval 1 93 v1 rfl rfl)
  have lt1 : ∀ x ∈ p1, x.block < W.heap.size := by obtain ⟨m, hm⟩ := h1; exact DataW.trod_lt m _ _ _ hm
  clear hA0 hval0
  refine (walk W a0 w0 a1 len1 cap1 h1).mono fun e W' ⟨he, bel⟩ => ?_
  subst he
  exact ⟨_, rfl, _, _, _, [], _, [], hW', trodAll_mk1 (shut_bool Try.underlying4 _), (trodAll_cons_mk (shut_int Try.underlying5 w0) (trodAll_cons_mk (Below.trod laidOut (by kernel_rfl) (of_decide_eq_true (by kernel_rfl)) h1 bel lt1) trodAll_mk0)), rfl, bel.frame _, fun h => by cases h⟩

theorem over : Rows.gridPlaysRow.holds Try.pinned (OpenSpec.ofChange Rows.gridPlaysSpec) :=
  OpenClaim.holds_of_wide 14 Try.f14 rfl rfl rfl rfl rfl rfl rfl ⟨rfl, rfl, rfl, rfl, rfl⟩ rfl rfl rfl rfl rfl (by kernel_rfl) Try.func14 (by kernel_rfl)
    (of_decide_eq_true (by kernel_rfl)) (by unfold Func.isWrapper; first | (rw [if_pos (by decide +kernel)]; kernel_rfl) | (rw [if_neg (by decide +kernel)]; exact ⟨rfl, rfl⟩))
    (fun os started H enc _ => lifted os started H enc)

/-- The statement. -/
theorem proved : Rows.GridPlaysSaid := over
#print axioms proved
end Go.Proofs.Yteedifiifkghkaa.gridPlays
