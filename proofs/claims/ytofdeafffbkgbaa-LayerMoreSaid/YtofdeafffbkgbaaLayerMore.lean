/- The proof of one statement: the run of the evaluator, carried to the model. -/
import Derived.Test.YtofdeafffbkgbaaRows
import Derived.Test.YtofdeafffbkgbaaMuC0
import Derived.Test.YtofdeafffbkgbaaMuC1
import Derived.Test.YtofdeafffbkgbaaMuM10
import Derived.Test.YtofdeafffbkgbaaMuM10b
import Derived.Test.YtofdeafffbkgbaaMuM10c
import Derived.Test.YtofdeafffbkgbaaMuM04
import Derived.Test.YtofdeafffbkgbaaMuM04b
import Derived.Test.YtofdeafffbkgbaaMuM04c
import Derived.Test.YtofdeafffbkgbaaMuM04d
import Derived.Test.YtofdeafffbkgbaaMuM04e
import Derived.Test.YtofdeafffbkgbaaMuM04f
import Derived.Test.YtofdeafffbkgbaaMuM04g
import Derived.Test.YtofdeafffbkgbaaMuM04h
import Derived.Test.YtofdeafffbkgbaaMuM04i
import Derived.Test.YtofdeafffbkgbaaMuMa
import Derived.WalkKit
import Derived.ProofKit
import Derived.OpenShut
import Derived.ShutString
import Derived.ChangeOld
import Derived.Below
import Derived.WideShapes
import Derived.ChangeShapes
namespace Go.Proofs.Ytofdeafffbkgbaa.layerMore
open Go.ChangeShapes Go.WideShapes Go.ChangeAt Go.RowKit
set_option linter.unusedVariables false
set_option maxRecDepth 100000

theorem own : ownKnob Try.prog.godebug = none := by kernel_rfl
theorem laidOut : laidOutB Try.prog = true := by kernel_rfl

theorem walk {H : Type} {enc : TypeId × Value → H} (w : World) (cs0 : Array Value) {d0 : DataW H} {p0 : List MemPlace} (k0 : DataW.Trod enc Try.prog w 0 (fun _ => true) true 40 (.agg cs0) d0 p0) (cs1 : Array Value) {d1 : DataW H} {p1 : List MemPlace} (k1 : DataW.Trod enc Try.prog w 0 (fun _ => true) true 41 (.agg cs1) d1 p1) :
    Calls Try.prog 5 #[.agg cs0, .agg cs1] w fun e w' => e = .returned (.bool true) ∧ Below w.heap.size w w' := by
  have i0 := Mu.Inv.start (K := Mu.Kf) (w := w)
  obtain ⟨n0, t0⟩ := k0
  obtain ⟨ng0_2, yg0_2, g0_2⟩ := Mu.struct_field t0 Try.underlying40 0 rfl (sz := 1) (by kernel_rfl)
  have oy0 := Mu.flat_open g0_2 (ks := [some .u8]) (d := 10) (by kernel_rfl)
  obtain ⟨y0, cy0, ky0⟩ := Mu.dec_u8 _ oy0
  obtain ⟨ng0_3, yg0_3, g0_3⟩ := Mu.struct_field t0 Try.underlying40 1 rfl (sz := 1) (by kernel_rfl)
  obtain ⟨ρ1, h1, v1, sv1, l1, e1, i1, le1, x1, r1, s1, m1, b1⟩ := Mu.Inv.row i0 g0_3 Try.underlying38 (E := Mu.e_A3_u8) (R := Mu.Ok_A3_u8) (ks := [some .u8, some .u8, some .u8]) (d := 10) (by kernel_rfl) rfl (by decide) Mu.dec_A3_u8
  obtain ⟨n1, t1⟩ := k1
  have oy1003 := Mu.flat_open t1 (ks := [some .u8, some .u8]) (d := 10) (by kernel_rfl)
  obtain ⟨y1003, cy1003, ky1003⟩ := Mu.dec_A2_u8 _ oy1003
  have E40 := (Mu.glue (o := 0) (n := 1) rfl (Mu.glue e1 (Mu.glue0 (Mu.struct_len t0 Try.underlying40 (sz := 2) (by kernel_rfl)))))
  rw [List.drop_zero] at E40
  have z0 : Mu.Rel Mu.Kf ρ1 (.ag ((Mu.e_u8.c y0) ++ ([v1] ++ []))) (.agg cs0) := .ag (by show Mu.RelL _ _ _ cs0.toList; rw [show cs0.toList = _ from E40]; exact (Mu.RelL.append (Mu.enc_rel oy0 cy0) (Mu.RelL.append (.cons r1 .nil) .nil)))
  obtain ⟨u, k', hi, hu, _⟩ := Mu.p_muntinlaw04_LayerMore.ok (h := h1) (z := (⟨y0, l1⟩ : Mu.T_muntinref03_Raw)) (more := y1003) s1 (Mu.LayerMore_main (⟨y0, l1⟩ : Mu.T_muntinref03_Raw) y1003 ky0 m1 b1 ky1003)
  exact Mu.calls_of (f := 102) (args := [.ag ((Mu.e_u8.c y0) ++ ([v1] ++ [])), .ag (Mu.e_A2_u8.c y1003)]) Mu.match_all Mu.mixed rfl (.cons z0 (.cons (.ag (Mu.enc_rel oy1003 cy1003)) .nil)) i1 ((hi _).2 hu.symm)

theorem lifted (os : Os) (started : os.Started) (H : Type) (enc : TypeId × Value → H) :
    ReturnsInHanded {} Try.checked os 5 .any (Rows.layerMoreSpec.pre6 enc Try.prog Try.f5 Rows.layerMoreRow.domain false) (Rows.layerMoreSpec.post enc Try.prog Try.f5 false true false false) := by
  refine returnsInHanded_of_change (C := Try.checked) own started (by kernel_rfl) Try.func5
    (ChangeSpec.witness6 (enc := enc) (C := Try.checked) false ⟨#[], #[.agg #[.int .u8 0, .slice none 0 0], .agg #[.int .u8 0, .int .u8 0]], []⟩ 8 (by kernel_rfl) (by kernel_rfl) (by kernel_rfl) (by kernel_rfl)) ?_
  intro W base args ds gs before hval0 hW hcnd _
  have hval : ∀ (j : Nat) t v, Try.f5.params[j]? = some t → args[j]? = some v → Value.okWide Try.prog W .any base t v := hval0
  have hW' := hW
  obtain ⟨p, q, hA0, hV, rfl, hfz, hnd⟩ := hW
  have hA : DataW.TrodAll enc Try.prog W 0 (fun _ => true) true Try.f5.params.toList args.toList ds p := hA0
  rw [Try.params5] at hA hval
  obtain ⟨v0, vs0, d0, ds0, p0, q0, hargs, rfl, rfl, h0, r0⟩ := trodAll_cons hA
  obtain ⟨v1, vs1, d1, ds1, p1, q1, rfl, rfl, rfl, h1, r1⟩ := trodAll_cons r0
  obtain ⟨rfl, rfl, rfl⟩ := trodAll_nil r1
  obtain rfl : args = #[v0, v1] := by cases args; simp_all
  obtain ⟨rfl, rfl⟩ := trodVars_none hV
  obtain ⟨cs0, rfl⟩ := Mu.okWide_agg (hval 0 40 v0 rfl rfl) (.inl ⟨_, Try.underlying40⟩)
  have lt0 : ∀ x ∈ p0, x.block < W.heap.size := by obtain ⟨m, hm⟩ := h0; exact DataW.trod_lt m _ _ _ hm
  obtain ⟨cs1, rfl⟩ := Mu.okWide_agg (hval 1 41 v1 rfl rfl) (.inr ⟨_, _, Try.underlying41⟩)
  have lt1 : ∀ x ∈ p1, x.block < W.heap.size := by obtain ⟨m, hm⟩ := h1; exact DataW.trod_lt m _ _ _ hm
  clear hA0 hval0
  refine (walk W cs0 h0 cs1 h1).mono fun e W' ⟨he, bel⟩ => ?_
  subst he
  exact ⟨_, rfl, _, _, _, [], _, [], hW', trodAll_mk1 (shut_bool Try.underlying4 _), (trodAll_cons_mk (Below.trod laidOut (by kernel_rfl) (of_decide_eq_true (by kernel_rfl)) h0 bel lt0) (trodAll_cons_mk (Below.trod laidOut (by kernel_rfl) (of_decide_eq_true (by kernel_rfl)) h1 bel lt1) trodAll_mk0)), rfl, bel.frame _, fun h => by cases h⟩

theorem over : Rows.layerMoreRow.holds Try.pinned (OpenSpec.ofChange Rows.layerMoreSpec) :=
  OpenClaim.holds_of_wide 5 Try.f5 rfl rfl rfl rfl rfl rfl rfl ⟨rfl, rfl, rfl, rfl, rfl⟩ rfl rfl rfl rfl rfl (by kernel_rfl) Try.func5 (by kernel_rfl)
    (of_decide_eq_true (by kernel_rfl)) (by unfold Func.isWrapper; first | (rw [if_pos (by decide +kernel)]; kernel_rfl) | (rw [if_neg (by decide +kernel)]; exact ⟨rfl, rfl⟩))
    (fun os started H enc _ => lifted os started H enc)

/-- The statement. -/
theorem proved : Rows.LayerMoreSaid := over
#print axioms proved
end Go.Proofs.Ytofdeafffbkgbaa.layerMore
