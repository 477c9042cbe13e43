/- The proof of one statement: the run of the evaluator, carried to the model. -/
import Derived.Test.YteedifiifkghkaaRows
import Derived.Test.YteedifiifkghkaaMuC0
import Derived.Test.YteedifiifkghkaaMuC1
import Derived.Test.YteedifiifkghkaaMuM10
import Derived.Test.YteedifiifkghkaaMuM10b
import Derived.Test.YteedifiifkghkaaMuM10c
import Derived.Test.YteedifiifkghkaaMuM04
import Derived.Test.YteedifiifkghkaaMuM04b
import Derived.Test.YteedifiifkghkaaMuM04c
import Derived.Test.YteedifiifkghkaaMuM04d
import Derived.Test.YteedifiifkghkaaMuM04e
import Derived.Test.YteedifiifkghkaaMuMa
import Derived.WalkKit
import Derived.ProofKit
import Derived.OpenShut
import Derived.ShutString
import Derived.ChangeOld
import Derived.Below
import Derived.WideShapes
import Derived.ChangeShapes
namespace Go.Proofs.Yteedifiifkghkaa.layerTight
open Go.ChangeShapes Go.WideShapes Go.ChangeAt Go.RowKit
set_option linter.unusedVariables false
set_option maxRecDepth 100000

theorem own : ownKnob Try.prog.godebug = none := by kernel_rfl
theorem laidOut : laidOutB Try.prog = true := by kernel_rfl

theorem walk {H : Type} {enc : TypeId × Value → H} (w : World) (cs0 : Array Value) {d0 : DataW H} {p0 : List MemPlace} (k0 : DataW.Trod enc Try.prog w 0 (fun _ => true) true 80 (.agg cs0) d0 p0) :
    Calls Try.prog 13 #[.agg cs0] w fun e w' => e = .returned (.bool true) ∧ Below w.heap.size w w' := by
  have i0 := Mu.Inv.start (K := Mu.Kf) (w := w)
  obtain ⟨n0, t0⟩ := k0
  obtain ⟨ng0_2, yg0_2, g0_2⟩ := Mu.struct_field t0 Try.underlying80 0 rfl (sz := 1) (by kernel_rfl)
  have oy0 := Mu.flat_open g0_2 (ks := [some .u8]) (d := 10) (by kernel_rfl)
  obtain ⟨y0, cy0, ky0⟩ := Mu.dec_u8 _ oy0
  obtain ⟨ng0_3, yg0_3, g0_3⟩ := Mu.struct_field t0 Try.underlying80 1 rfl (sz := 1) (by kernel_rfl)
  obtain ⟨ρ1, h1, v1, sv1, l1, e1, i1, le1, x1, r1, s1, m1, b1⟩ := Mu.Inv.row i0 g0_3 Try.underlying78 (E := Mu.e_A3_u8) (R := Mu.Ok_A3_u8) (ks := [some .u8, some .u8, some .u8]) (d := 10) (by kernel_rfl) rfl (by decide) Mu.dec_A3_u8
  have E33 := (Mu.glue (o := 0) (n := 1) rfl (Mu.glue e1 (Mu.glue0 (Mu.struct_len t0 Try.underlying80 (sz := 2) (by kernel_rfl)))))
  rw [List.drop_zero] at E33
  have z0 : Mu.Rel Mu.Kf ρ1 (.ag ((Mu.e_u8.c y0) ++ ([v1] ++ []))) (.agg cs0) := .ag (by show Mu.RelL _ _ _ cs0.toList; rw [show cs0.toList = _ from E33]; exact (Mu.RelL.append (Mu.enc_rel oy0 cy0) (Mu.RelL.append (.cons r1 .nil) .nil)))
  obtain ⟨u, k', hi, hu, _⟩ := Mu.p_muntinlaw04_LayerTight.ok (h := h1) (z := (⟨y0, l1⟩ : Mu.T_muntinref03_Raw)) s1 (Mu.LayerTight_main (⟨y0, l1⟩ : Mu.T_muntinref03_Raw) ky0 m1 b1)
  exact Mu.calls_of (f := 10) (args := [.ag ((Mu.e_u8.c y0) ++ ([v1] ++ []))]) Mu.match_all Mu.mixed rfl (.cons z0 .nil) i1 ((hi _).2 hu.symm)

theorem lifted (os : Os) (started : os.Started) (H : Type) (enc : TypeId × Value → H) :
    ReturnsInHanded {} Try.checked os 13 .any (Rows.layerTightSpec.pre6 enc Try.prog Try.f13 Rows.layerTightRow.domain false) (Rows.layerTightSpec.post enc Try.prog Try.f13 false true false false) := by
  refine returnsInHanded_of_change (C := Try.checked) own started (by kernel_rfl) Try.func13
    (ChangeSpec.witness6 (enc := enc) (C := Try.checked) false ⟨#[], #[.agg #[.int .u8 0, .slice none 0 0]], []⟩ 8 (by kernel_rfl) (by kernel_rfl) (by kernel_rfl) (by kernel_rfl)) ?_
  intro W base args ds gs before hval0 hW hcnd _
  have hval : ∀ (j : Nat) t v, Try.f13.params[j]? = some t → args[j]? = some v → Value.okWide Try.prog W .any base t v := hval0
  have hW' := hW
  obtain ⟨p, q, hA0, hV, rfl, hfz, hnd⟩ := hW
  have hA : DataW.TrodAll enc Try.prog W 0 (fun _ => true) true Try.f13.params.toList args.toList ds p := hA0
  rw [Try.params13] at hA hval
  obtain ⟨v0, vs0, d0, ds0, p0, q0, hargs, rfl, rfl, h0, r0⟩ := trodAll_cons hA
  obtain ⟨rfl, rfl, rfl⟩ := trodAll_nil r0
  obtain rfl : args = #[v0] := by cases args; simp_all
  obtain ⟨rfl, rfl⟩ := trodVars_none hV
  obtain ⟨cs0, rfl⟩ := Mu.okWide_agg (hval 0 80 v0 rfl rfl) (.inl ⟨_, Try.underlying80⟩)
  have lt0 : ∀ x ∈ p0, x.block < W.heap.size := by obtain ⟨m, hm⟩ := h0; exact DataW.trod_lt m _ _ _ hm
  clear hA0 hval0
  refine (walk W cs0 h0).mono fun e W' ⟨he, bel⟩ => ?_
  subst he
  exact ⟨_, rfl, _, _, _, [], _, [], hW', trodAll_mk1 (shut_bool Try.underlying4 _), (trodAll_cons_mk (Below.trod laidOut (by kernel_rfl) (of_decide_eq_true (by kernel_rfl)) h0 bel lt0) trodAll_mk0), rfl, bel.frame _, fun h => by cases h⟩

theorem over : Rows.layerTightRow.holds Try.pinned (OpenSpec.ofChange Rows.layerTightSpec) :=
  OpenClaim.holds_of_wide 13 Try.f13 rfl rfl rfl rfl rfl rfl rfl ⟨rfl, rfl, rfl, rfl, rfl⟩ rfl rfl rfl rfl rfl (by kernel_rfl) Try.func13 (by kernel_rfl)
    (of_decide_eq_true (by kernel_rfl)) (by unfold Func.isWrapper; first | (rw [if_pos (by decide +kernel)]; kernel_rfl) | (rw [if_neg (by decide +kernel)]; exact ⟨rfl, rfl⟩))
    (fun os started H enc _ => lifted os started H enc)

/-- The statement. -/
theorem proved : Rows.LayerTightSaid := over
#print axioms proved
end Go.Proofs.Yteedifiifkghkaa.layerTight
