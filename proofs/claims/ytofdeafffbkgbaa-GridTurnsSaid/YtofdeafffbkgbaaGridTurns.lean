/- The proof of one statement: the run of the evaluator, carried to the model. -/
import Derived.Test.YtofdeafffbkgbaaRows
import Derived.Test.YtofdeafffbkgbaaMuC0
import Derived.Test.YtofdeafffbkgbaaMuC1
import Derived.Test.YtofdeafffbkgbaaMuM10
import Derived.Test.YtofdeafffbkgbaaMuM10b
import Derived.Test.YtofdeafffbkgbaaMuM10c
import Derived.Test.YtofdeafffbkgbaaMuM10d
import Derived.Test.YtofdeafffbkgbaaMuM10e
import Derived.Test.YtofdeafffbkgbaaMuM10f
import Derived.Test.YtofdeafffbkgbaaMuM10g
import Derived.Test.YtofdeafffbkgbaaMuM10h
import Derived.Test.YtofdeafffbkgbaaMuM10i
import Derived.Test.YtofdeafffbkgbaaMuM10j
import Derived.Test.YtofdeafffbkgbaaMuMa
import Derived.WalkKit
import Derived.ProofKit
import Derived.OpenShut
import Derived.ShutString
import Derived.ChangeOld
import Derived.Below
import Derived.WideShapes
import Derived.ChangeShapes
namespace Go.Proofs.Ytofdeafffbkgbaa.gridTurns
open Go.ChangeShapes Go.WideShapes Go.ChangeAt Go.RowKit
set_option linter.unusedVariables false
set_option maxRecDepth 100000

theorem own : ownKnob Try.prog.godebug = none := by kernel_rfl
theorem laidOut : laidOutB Try.prog = true := by kernel_rfl

theorem walk {H : Type} {enc : TypeId × Value → H} (w : World) (cs0 : Array Value) {d0 : DataW H} {p0 : List MemPlace} (k0 : DataW.Trod enc Try.prog w 0 (fun _ => true) true 74 (.agg cs0) d0 p0) :
    Calls Try.prog 9 #[.agg cs0] w fun e w' => e = .returned (.bool true) ∧ Below w.heap.size w w' := by
  have i0 := Mu.Inv.start (K := Mu.Kf) (w := w)
  obtain ⟨n0, t0⟩ := k0
  obtain ⟨ng0_2, yg0_2, g0_2⟩ := Mu.struct_field t0 Try.underlying74 0 rfl (sz := 3) (by kernel_rfl)
  obtain ⟨ng0_3, yg0_3, g0_3⟩ := Mu.struct_field g0_2 Try.underlying60 0 rfl (sz := 1) (by kernel_rfl)
  obtain ⟨ρ1, h1, v1, sv1, l1, e1, i1, le1, x1, r1, s1, m1, b1⟩ := Mu.Inv.row i0 g0_3 Try.underlying57 (E := Mu.e_u8) (R := Mu.Ok_u8) (ks := [some .u8]) (d := 10) (by kernel_rfl) rfl (by decide) Mu.dec_u8
  obtain ⟨ng0_4, yg0_4, g0_4⟩ := Mu.struct_field g0_2 Try.underlying60 1 rfl (sz := 1) (by kernel_rfl)
  obtain ⟨ρ2, h2, v2, sv2, l2, e2, i2, le2, x2, r2, s2, m2, b2⟩ := Mu.Inv.row i1 g0_4 Try.underlying57 (E := Mu.e_u8) (R := Mu.Ok_u8) (ks := [some .u8]) (d := 10) (by kernel_rfl) rfl (by decide) Mu.dec_u8
  replace s1 := s1.ext x2
  replace r1 := r1.mono le2
  obtain ⟨ng0_5, yg0_5, g0_5⟩ := Mu.struct_field g0_2 Try.underlying60 2 rfl (sz := 1) (by kernel_rfl)
  obtain ⟨ρ3, h3, v3, sv3, l3, e3, i3, le3, x3, r3, s3, m3, b3⟩ := Mu.Inv.row i2 g0_5 Try.underlying58 (E := Mu.e_i8) (R := Mu.Ok_i8) (ks := [some .i8]) (d := 10) (by kernel_rfl) rfl (by decide) Mu.dec_i8
  replace s1 := s1.ext x3
  replace s2 := s2.ext x3
  replace r1 := r1.mono le3
  replace r2 := r2.mono le3
  obtain ⟨ng0_6, yg0_6, g0_6⟩ := Mu.struct_field t0 Try.underlying74 1 rfl (sz := 1) (by kernel_rfl)
  obtain ⟨ρ4, h4, v4, sv4, l4, e4, i4, le4, x4, r4, s4, m4, b4⟩ := Mu.Inv.row i3 g0_6 Try.underlying34 (E := Mu.e_T_api_Cell) (R := Mu.Ok_T_api_Cell) (ks := [some .i64, some .i64, some .i64, some .i64, some .i64, some .i64, some .i64, some .i64]) (d := 10) (by kernel_rfl) rfl (by decide) Mu.dec_T_api_Cell
  replace s1 := s1.ext x4
  replace s2 := s2.ext x4
  replace s3 := s3.ext x4
  replace r1 := r1.mono le4
  replace r2 := r2.mono le4
  replace r3 := r3.mono le4
  obtain ⟨ng0_7, yg0_7, g0_7⟩ := Mu.struct_field t0 Try.underlying74 2 rfl (sz := 2) (by kernel_rfl)
  have oy8 := Mu.flat_open g0_7 (ks := [some .u8, some .u8]) (d := 10) (by kernel_rfl)
  obtain ⟨y8, cy8, ky8⟩ := Mu.dec_A2_u8 _ oy8
  obtain ⟨ng0_8, yg0_8, g0_8⟩ := Mu.struct_field t0 Try.underlying74 3 rfl (sz := 1) (by kernel_rfl)
  have oy9 := Mu.flat_open g0_8 (ks := [some .i64]) (d := 10) (by kernel_rfl)
  obtain ⟨y9, cy9, ky9⟩ := Mu.dec_i64 _ oy9
  have E57 := (Mu.glue e1 (Mu.glue e2 (Mu.glue e3 (Mu.glue0 (Mu.struct_len g0_2 Try.underlying60 (sz := 3) (by kernel_rfl))))))
  rw [List.drop_zero] at E57
  have E59 := (Mu.glue (o := 0) (n := 3) E57 (Mu.glue e4 (Mu.glue (o := 4) (n := 2) rfl (Mu.glue (o := 6) (n := 1) rfl (Mu.glue0 (Mu.struct_len t0 Try.underlying74 (sz := 7) (by kernel_rfl)))))))
  rw [List.drop_zero] at E59
  have z0 : Mu.Rel Mu.Kf ρ4 (.ag (([v1] ++ ([v2] ++ ([v3] ++ []))) ++ ([v4] ++ ((Mu.e_A2_u8.c y8) ++ ((Mu.eInt.c y9) ++ []))))) (.agg cs0) := .ag (by show Mu.RelL _ _ _ cs0.toList; rw [show cs0.toList = _ from E59]; exact (Mu.RelL.append (Mu.RelL.append (.cons r1 .nil) (Mu.RelL.append (.cons r2 .nil) (Mu.RelL.append (.cons r3 .nil) .nil))) (Mu.RelL.append (.cons r4 .nil) (Mu.RelL.append (Mu.enc_rel oy8 cy8) (Mu.RelL.append (Mu.enc_rel oy9 cy9) .nil)))))
  obtain ⟨u, k', hi, hu, _⟩ := Mu.p_muntinlaw10_GridTurns.ok (h := h4) (z := (⟨(⟨l1, l2, l3⟩ : Mu.T_muntinref10_Places), l4, y8, y9⟩ : Mu.T_muntinlaw10_Case)) s1 s2 s3 s4 (Mu.GridTurns_main (⟨(⟨l1, l2, l3⟩ : Mu.T_muntinref10_Places), l4, y8, y9⟩ : Mu.T_muntinlaw10_Case) m1 b1 m2 b2 m3 b3 m4 b4 ky8 ky9)
  exact Mu.calls_of (f := 106) (args := [.ag (([v1] ++ ([v2] ++ ([v3] ++ []))) ++ ([v4] ++ ((Mu.e_A2_u8.c y8) ++ ((Mu.eInt.c y9) ++ []))))]) Mu.match_all Mu.mixed rfl (.cons z0 .nil) i4 ((hi _).2 hu.symm)

theorem lifted (os : Os) (started : os.Started) (H : Type) (enc : TypeId × Value → H) :
    ReturnsInHanded {} Try.checked os 9 .any (Rows.gridTurnsSpec.pre6 enc Try.prog Try.f9 Rows.gridTurnsRow.domain false) (Rows.gridTurnsSpec.post enc Try.prog Try.f9 false true false false) := by
  refine returnsInHanded_of_change (C := Try.checked) own started (by kernel_rfl) Try.func9
    (ChangeSpec.witness6 (enc := enc) (C := Try.checked) false ⟨#[], #[.agg #[.slice none 0 0, .slice none 0 0, .slice none 0 0, .slice none 0 0, .int .u8 0, .int .u8 0, .int .i64 0]], []⟩ 8 (by kernel_rfl) (by kernel_rfl) (by kernel_rfl) (by kernel_rfl)) ?_
  intro W base args ds gs before hval0 hW hcnd _
  have hval : ∀ (j : Nat) t v, Try.f9.params[j]? = some t → args[j]? = some v → Value.okWide Try.prog W .any base t v := hval0
  have hW' := hW
  obtain ⟨p, q, hA0, hV, rfl, hfz, hnd⟩ := hW
  have hA : DataW.TrodAll enc Try.prog W 0 (fun _ => true) true Try.f9.params.toList args.toList ds p := hA0
  rw [Try.params9] at hA hval
  obtain ⟨v0, vs0, d0, ds0, p0, q0, hargs, rfl, rfl, h0, r0⟩ := trodAll_cons hA
  obtain ⟨rfl, rfl, rfl⟩ := trodAll_nil r0
  obtain rfl : args = #[v0] := by cases args; simp_all
  obtain ⟨rfl, rfl⟩ := trodVars_none hV
  obtain ⟨cs0, rfl⟩ := Mu.okWide_agg (hval 0 74 v0 rfl rfl) (.inl ⟨_, Try.underlying74⟩)
  have lt0 : ∀ x ∈ p0, x.block < W.heap.size := by obtain ⟨m, hm⟩ := h0; exact DataW.trod_lt m _ _ _ hm
  clear hA0 hval0
  refine (walk W cs0 h0).mono fun e W' ⟨he, bel⟩ => ?_
  subst he
  exact ⟨_, rfl, _, _, _, [], _, [], hW', trodAll_mk1 (shut_bool Try.underlying4 _), (trodAll_cons_mk (Below.trod laidOut (by kernel_rfl) (of_decide_eq_true (by kernel_rfl)) h0 bel lt0) trodAll_mk0), rfl, bel.frame _, fun h => by cases h⟩

theorem over : Rows.gridTurnsRow.holds Try.pinned (OpenSpec.ofChange Rows.gridTurnsSpec) :=
  OpenClaim.holds_of_wide 9 Try.f9 rfl rfl rfl rfl rfl rfl rfl ⟨rfl, rfl, rfl, rfl, rfl⟩ rfl rfl rfl rfl rfl (by kernel_rfl) Try.func9 (by kernel_rfl)
    (of_decide_eq_true (by kernel_rfl)) (by unfold Func.isWrapper; first | (rw [if_pos (by decide +kernel)]; kernel_rfl) | (rw [if_neg (by decide +kernel)]; exact ⟨rfl, rfl⟩))
    (fun os started H enc _ => lifted os started H enc)

/-- The statement. -/
theorem proved : Rows.GridTurnsSaid := over
#print axioms proved
end Go.Proofs.Ytofdeafffbkgbaa.gridTurns
