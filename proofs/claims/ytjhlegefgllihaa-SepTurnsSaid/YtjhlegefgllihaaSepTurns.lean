/- The proof of one statement: the run of the evaluator, carried to the model. -/
import Derived.Test.YtjhlegefgllihaaRows
import Derived.Test.YtjhlegefgllihaaMuC0
import Derived.Test.YtjhlegefgllihaaMuC1
import Derived.Test.YtjhlegefgllihaaMuC2
import Derived.Test.YtjhlegefgllihaaMuC3
import Derived.Test.YtjhlegefgllihaaMuC4
import Derived.Test.YtjhlegefgllihaaMuK0
import Derived.Test.YtjhlegefgllihaaMuK1
import Derived.Test.YtjhlegefgllihaaMuMa
import Derived.WalkKit
import Derived.ProofKit
import Derived.OpenShut
import Derived.ShutString
import Derived.ChangeOld
import Derived.Below
import Derived.WideShapes
import Derived.ChangeShapes
namespace Go.Proofs.Ytjhlegefgllihaa.sepTurns
open Go.ChangeShapes Go.WideShapes Go.ChangeAt Go.RowKit
set_option linter.unusedVariables false
set_option maxRecDepth 100000

theorem own : ownKnob Try.prog.godebug = none := by kernel_rfl
theorem laidOut : laidOutB Try.prog = true := by kernel_rfl

theorem walk {H : Type} {enc : TypeId × Value → H} (w : World) (cs0 : Array Value) {d0 : DataW H} {p0 : List MemPlace} (k0 : DataW.Trod enc Try.prog w 0 (fun _ => true) true 25 (.agg cs0) d0 p0) :
    Calls Try.prog 5 #[.agg cs0] w fun e w' => e = .returned (.bool true) ∧ Below w.heap.size w w' := by
  have i0 := Mu.Inv.start (K := Mu.Kf) (w := w)
  obtain ⟨n0, t0⟩ := k0
  obtain ⟨ng0_2, yg0_2, g0_2⟩ := Mu.Zfp t0 Try.underlying25 0 rfl (sz := 1) (by kernel_rfl)
  obtain ⟨ρ1, h1, v1, sv1, l1, e1, i1, le1, x1, r1, s1, m1, b1⟩ := Mu.Inv.row i0 g0_2 Try.underlying22 (E := Mu.ZiJ) (R := Mu.Zil) (ks := [some .u8]) (d := 10) (by kernel_rfl) rfl (by decide) Mu.Zmn
  obtain ⟨ng0_3, yg0_3, g0_3⟩ := Mu.Zfp t0 Try.underlying25 1 rfl (sz := 1) (by kernel_rfl)
  obtain ⟨ρ2, h2, v2, sv2, l2, e2, i2, le2, x2, r2, s2, m2, b2⟩ := Mu.Inv.row i1 g0_3 Try.underlying22 (E := Mu.ZiJ) (R := Mu.Zil) (ks := [some .u8]) (d := 10) (by kernel_rfl) rfl (by decide) Mu.Zmn
  replace s1 := s1.ext x2
  replace r1 := r1.mono le2
  obtain ⟨ng0_4, yg0_4, g0_4⟩ := Mu.Zfp t0 Try.underlying25 2 rfl (sz := 1) (by kernel_rfl)
  obtain ⟨ρ3, h3, v3, sv3, l3, e3, i3, le3, x3, r3, s3, m3, b3⟩ := Mu.Inv.row i2 g0_4 Try.underlying23 (E := Mu.Zlp) (R := Mu.Zk7) (ks := [some .i8]) (d := 10) (by kernel_rfl) rfl (by decide) Mu.ZoM
  replace s1 := s1.ext x3
  replace s2 := s2.ext x3
  replace r1 := r1.mono le3
  replace r2 := r2.mono le3
  have E128 := (Mu.ZoW e1 (Mu.ZoW e2 (Mu.ZoW e3 (Mu.Zqc (Mu.Zk4 t0 Try.underlying25 (sz := 3) (by kernel_rfl))))))
  rw [List.drop_zero] at E128
  have z0 : Mu.Rel Mu.Kf ρ3 (.ag ([v1] ++ ([v2] ++ ([v3] ++ [])))) (.agg cs0) := .ag (by show Mu.RelL _ _ _ cs0.toList; rw [show cs0.toList = _ from E128]; exact (Mu.RelL.append (.cons r1 .nil) (Mu.RelL.append (.cons r2 .nil) (Mu.RelL.append (.cons r3 .nil) .nil))))
  obtain ⟨u, k', hi, hu, _⟩ := Mu.Z3.ok (h := h3) (z := (⟨l1, l2, l3⟩ : Mu.zH)) s1 s2 s3 (Mu.ZhY (⟨l1, l2, l3⟩ : Mu.zH) m1 b1 m2 b2 m3 b3)
  exact Mu.Zmg (f := 259) (args := [.ag ([v1] ++ ([v2] ++ ([v3] ++ [])))]) Mu.match_all Mu.mixed rfl (.cons z0 .nil) i3 ((hi _).2 hu.symm)

theorem lifted (os : Os) (started : os.Started) (H : Type) (enc : TypeId × Value → H) :
    ReturnsInHanded {} Try.checked os 5 .any (Rows.sepTurnsSpec.pre6 enc Try.prog Try.f5 Rows.sepTurnsRow.domain false) (Rows.sepTurnsSpec.post enc Try.prog Try.f5 false true false false) := by
  refine returnsInHanded_of_change (C := Try.checked) own started (by kernel_rfl) Try.func5
    (ChangeSpec.witness6 (enc := enc) (C := Try.checked) false ⟨#[], #[.agg #[.slice none 0 0, .slice none 0 0, .slice none 0 0]], []⟩ 8 (by kernel_rfl) (by kernel_rfl) (by kernel_rfl) (by kernel_rfl)) ?_
  intro W base args ds gs before hval0 hW hcnd _
  have hval : ∀ (j : Nat) t v, Try.f5.params[j]? = some t → args[j]? = some v → Value.okWide Try.prog W .any base t v := hval0
  have hW' := hW
  obtain ⟨p, q, hA0, hV, rfl, hfz, hnd⟩ := hW
  have hA : DataW.TrodAll enc Try.prog W 0 (fun _ => true) true Try.f5.params.toList args.toList ds p := hA0
  rw [Try.params5] at hA hval
  obtain ⟨v0, vs0, d0, ds0, p0, q0, hargs, rfl, rfl, h0, r0⟩ := trodAll_cons hA
  obtain ⟨rfl, rfl, rfl⟩ := trodAll_nil r0
  obtain rfl : args = #[v0] := by cases args; simp_all
  obtain ⟨rfl, rfl⟩ := trodVars_none hV
  obtain ⟨cs0, rfl⟩ := Mu.Zkr (hval 0 25 v0 rfl rfl) (.inl ⟨_, Try.underlying25⟩)
  have lt0 : ∀ x ∈ p0, x.block < W.heap.size := by obtain ⟨m, hm⟩ := h0; exact DataW.trod_lt m _ _ _ hm
  clear hA0 hval0
  refine (walk (H := H) (enc := enc) W cs0 h0).mono fun e W' ⟨he, bel⟩ => ?_
  subst he
  exact ⟨_, rfl, _, _, _, [], _, [], hW', trodAll_mk1 (shut_bool Try.underlying4 _), (trodAll_cons_mk (Below.trod laidOut (by kernel_rfl) (of_decide_eq_true (by kernel_rfl)) h0 bel lt0) trodAll_mk0), rfl, bel.frame _, fun h => by cases h⟩

theorem over : Rows.sepTurnsRow.holds Try.pinned (OpenSpec.ofChange Rows.sepTurnsSpec) :=
  OpenClaim.holds_of_wide 5 Try.f5 rfl rfl rfl rfl rfl rfl rfl ⟨rfl, rfl, rfl, rfl, rfl⟩ rfl rfl rfl rfl rfl (by kernel_rfl) Try.func5 (by kernel_rfl)
    (of_decide_eq_true (by kernel_rfl)) (by unfold Func.isWrapper; first | (rw [if_pos (by decide +kernel)]; kernel_rfl) | (rw [if_neg (by decide +kernel)]; exact ⟨rfl, rfl⟩))
    (fun os started H enc _ => lifted os started H enc)

/-- The statement. -/
theorem proved : Rows.SepTurnsSaid := over
#print axioms proved
end Go.Proofs.Ytjhlegefgllihaa.sepTurns
