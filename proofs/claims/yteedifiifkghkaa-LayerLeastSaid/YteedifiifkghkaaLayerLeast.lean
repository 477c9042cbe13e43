/- The proof of one statement: the run of the evaluator, carried to the model. -/
import Derived.Test.YteedifiifkghkaaRows
import Derived.Test.YteedifiifkghkaaMuC0
import Derived.Test.YteedifiifkghkaaMuC1
import Derived.Test.YteedifiifkghkaaMuM10
import Derived.Test.YteedifiifkghkaaMuM10b
import Derived.Test.YteedifiifkghkaaMuM10c
import Derived.Test.YteedifiifkghkaaMuM04
import Derived.Test.YteedifiifkghkaaMuM04b
import Derived.Test.YteedifiifkghkaaMuM04c
import Derived.Test.YteedifiifkghkaaMuM04d
import Derived.Test.YteedifiifkghkaaMuM04e
import Derived.Test.YteedifiifkghkaaMuM04f
import Derived.Test.YteedifiifkghkaaMuMa
import Derived.WalkKit
import Derived.ProofKit
import Derived.OpenShut
import Derived.ShutString
import Derived.ChangeOld
import Derived.Below
import Derived.WideShapes
import Derived.ChangeShapes
namespace Go.Proofs.Yteedifiifkghkaa.layerLeast
open Go.ChangeShapes Go.WideShapes Go.ChangeAt Go.RowKit
set_option linter.unusedVariables false
set_option maxRecDepth 100000

theorem own : ownKnob Try.prog.godebug = none := by kernel_rfl
theorem laidOut : laidOutB Try.prog = true := by kernel_rfl

theorem walk {H : Type} {enc : TypeId × Value → H} (w : World) (cs0 : Array Value) {d0 : DataW H} {p0 : List MemPlace} (k0 : DataW.Trod enc Try.prog w 0 (fun _ => true) true 80 (.agg cs0) d0 p0) (a1 : Option Addr) (len1 cap1 : Nat) {d1 : DataW H} {p1 : List MemPlace} (k1 : DataW.Trod enc Try.prog w 0 (fun _ => true) true 23 (.slice a1 len1 cap1) d1 p1) :
    Calls Try.prog 12 #[.agg cs0, .slice a1 len1 cap1] w fun e w' => e = .returned (.bool true) ∧ Below w.heap.size w w' := by
  have i0 := Mu.Inv.start (K := Mu.Kf) (w := w)
  obtain ⟨n0, t0⟩ := k0
  obtain ⟨ng0_2, yg0_2, g0_2⟩ := Mu.struct_field t0 Try.underlying80 0 rfl (sz := 1) (by kernel_rfl)
  have oy0 := Mu.flat_open g0_2 (ks := [some .u8]) (d := 10) (by kernel_rfl)
  obtain ⟨y0, cy0, ky0⟩ := Mu.dec_u8 _ oy0
  obtain ⟨ng0_3, yg0_3, g0_3⟩ := Mu.struct_field t0 Try.underlying80 1 rfl (sz := 1) (by kernel_rfl)
  obtain ⟨ρ1, h1, v1, sv1, l1, e1, i1, le1, x1, r1, s1, m1, b1⟩ := Mu.Inv.row i0 g0_3 Try.underlying78 (E := Mu.e_A3_u8) (R := Mu.Ok_A3_u8) (ks := [some .u8, some .u8, some .u8]) (d := 10) (by kernel_rfl) rfl (by decide) Mu.dec_A3_u8
  obtain ⟨n1, t1⟩ := k1
  obtain ⟨ρ2, h2, v2, sv2, l2, e2, i2, le2, x2, r2, s2, m2, b2⟩ := Mu.Inv.row i1 t1 Try.underlying23 (E := Mu.eInt) (R := Mu.Ok_i64) (ks := [some .i64]) (d := 10) (by kernel_rfl) rfl (by decide) Mu.dec_i64
  replace s1 := s1.ext x2
  replace r1 := r1.mono le2
  have E38 := (Mu.glue (o := 0) (n := 1) rfl (Mu.glue e1 (Mu.glue0 (Mu.struct_len t0 Try.underlying80 (sz := 2) (by kernel_rfl)))))
  rw [List.drop_zero] at E38
  have z0 : Mu.Rel Mu.Kf ρ2 (.ag ((Mu.e_u8.c y0) ++ ([v1] ++ []))) (.agg cs0) := .ag (by show Mu.RelL _ _ _ cs0.toList; rw [show cs0.toList = _ from E38]; exact (Mu.RelL.append (Mu.enc_rel oy0 cy0) (Mu.RelL.append (.cons r1 .nil) .nil)))
  have z1 : Mu.Rel Mu.Kf ρ2 v2 (.slice a1 len1 cap1) := by have q := (List.cons.inj e2).1; rw [← show _ = sv2 from q] at r2; exact r2
  obtain ⟨u, k', hi, hu, _⟩ := Mu.p_muntinlaw04_LayerLeast.ok (h := h2) (z := (⟨y0, l1⟩ : Mu.T_muntinref03_Raw)) (y := l2) s1 s2 (Mu.LayerLeast_main (⟨y0, l1⟩ : Mu.T_muntinref03_Raw) l2 ky0 m1 b1 m2 b2)
  exact Mu.calls_of (f := 9) (args := [.ag ((Mu.e_u8.c y0) ++ ([v1] ++ [])), v2]) Mu.match_all Mu.mixed rfl (.cons z0 (.cons z1 .nil)) i2 ((hi _).2 hu.symm)

theorem lifted (os : Os) (started : os.Started) (H : Type) (enc : TypeId × Value → H) :
    ReturnsInHanded {} Try.checked os 12 .any (Rows.layerLeastSpec.pre6 enc Try.prog Try.f12 Rows.layerLeastRow.domain false) (Rows.layerLeastSpec.post enc Try.prog Try.f12 false true false false) := by
  refine returnsInHanded_of_change (C := Try.checked) own started (by kernel_rfl) Try.func12
    (ChangeSpec.witness6 (enc := enc) (C := Try.checked) false ⟨#[], #[.agg #[.int .u8 0, .slice none 0 0], .slice none 0 0], []⟩ 8 (by kernel_rfl) (by kernel_rfl) (by kernel_rfl) (by kernel_rfl)) ?_
  intro W base args ds gs before hval0 hW hcnd _
  have hval : ∀ (j : Nat) t v, Try.f12.params[j]? = some t → args[j]? = some v → Value.okWide Try.prog W .any base t v := hval0
  have hW' := hW
  obtain ⟨p, q, hA0, hV, rfl, hfz, hnd⟩ := hW
  have hA : DataW.TrodAll enc Try.prog W 0 (fun _ => true) true Try.f12.params.toList args.toList ds p := hA0
  rw [Try.params12] at hA hval
  obtain ⟨v0, vs0, d0, ds0, p0, q0, hargs, rfl, rfl, h0, r0⟩ := trodAll_cons hA
  obtain ⟨v1, vs1, d1, ds1, p1, q1, rfl, rfl, rfl, h1, r1⟩ := trodAll_cons r0
  obtain ⟨rfl, rfl, rfl⟩ := trodAll_nil r1
  obtain rfl : args = #[v0, v1] := by cases args; simp_all
  obtain ⟨rfl, rfl⟩ := trodVars_none hV
  obtain ⟨cs0, rfl⟩ := Mu.okWide_agg (hval 0 80 v0 rfl rfl) (.inl ⟨_, Try.underlying80⟩)
  have lt0 : ∀ x ∈ p0, x.block < W.heap.size := by obtain ⟨m, hm⟩ := h0; exact DataW.trod_lt m _ _ _ hm
  obtain ⟨a1, len1, cap1, rfl⟩ := okWide_slice Try.underlying23 (hval 1 23 v1 rfl rfl)
  have lt1 : ∀ x ∈ p1, x.block < W.heap.size := by obtain ⟨m, hm⟩ := h1; exact DataW.trod_lt m _ _ _ hm
  clear hA0 hval0
  refine (walk W cs0 h0 a1 len1 cap1 h1).mono fun e W' ⟨he, bel⟩ => ?_
  subst he
  exact ⟨_, rfl, _, _, _, [], _, [], hW', trodAll_mk1 (shut_bool Try.underlying4 _), (trodAll_cons_mk (Below.trod laidOut (by kernel_rfl) (of_decide_eq_true (by kernel_rfl)) h0 bel lt0) (trodAll_cons_mk (Below.trod laidOut (by kernel_rfl) (of_decide_eq_true (by kernel_rfl)) h1 bel lt1) trodAll_mk0)), rfl, bel.frame _, fun h => by cases h⟩

theorem over : Rows.layerLeastRow.holds Try.pinned (OpenSpec.ofChange Rows.layerLeastSpec) :=
  OpenClaim.holds_of_wide 12 Try.f12 rfl rfl rfl rfl rfl rfl rfl ⟨rfl, rfl, rfl, rfl, rfl⟩ rfl rfl rfl rfl rfl (by kernel_rfl) Try.func12 (by kernel_rfl)
    (of_decide_eq_true (by kernel_rfl)) (by unfold Func.isWrapper; first | (rw [if_pos (by decide +kernel)]; kernel_rfl) | (rw [if_neg (by decide +kernel)]; exact ⟨rfl, rfl⟩))
    (fun os started H enc _ => lifted os started H enc)

/-- The statement. -/
theorem proved : Rows.LayerLeastSaid := over
#print axioms proved
end Go.Proofs.Yteedifiifkghkaa.layerLeast
