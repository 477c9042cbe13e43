/- The proof of one statement: the run of the evaluator, carried to the model. -/
import Derived.Test.YtjhlegefgllihaaRows
import Derived.Test.YtjhlegefgllihaaMuC0
import Derived.Test.YtjhlegefgllihaaMuC1
import Derived.Test.YtjhlegefgllihaaMuC2
import Derived.Test.YtjhlegefgllihaaMuC3
import Derived.Test.YtjhlegefgllihaaMuC4
import Derived.Test.YtjhlegefgllihaaMuC5
import Derived.Test.YtjhlegefgllihaaMuK0
import Derived.Test.YtjhlegefgllihaaMuK1
import Derived.Test.YtjhlegefgllihaaMuMa
import Derived.WalkKit
import Derived.ProofKit
import Derived.OpenShut
import Derived.ShutString
import Derived.ChangeOld
import Derived.Below
import Derived.WideShapes
import Derived.ChangeShapes
namespace Go.Proofs.Ytjhlegefgllihaa.sepMakes
open Go.ChangeShapes Go.WideShapes Go.ChangeAt Go.RowKit
set_option linter.unusedVariables false
set_option maxRecDepth 100000

theorem own : ownKnob Try.prog.godebug = none := by kernel_rfl
theorem laidOut : laidOutB Try.prog = true := by kernel_rfl

theorem walk {H : Type} {enc : TypeId × Value → H} (w : World) (cs0 : Array Value) {d0 : DataW H} {p0 : List MemPlace} (k0 : DataW.Trod enc Try.prog w 0 (fun _ => true) true 25 (.agg cs0) d0 p0) (a1 : Option Addr) (len1 cap1 : Nat) {d1 : DataW H} {p1 : List MemPlace} (k1 : DataW.Trod enc Try.prog w 0 (fun _ => true) true 22 (.slice a1 len1 cap1) d1 p1) (a2 : Option Addr) (len2 cap2 : Nat) {d2 : DataW H} {p2 : List MemPlace} (k2 : DataW.Trod enc Try.prog w 0 (fun _ => true) true 22 (.slice a2 len2 cap2) d2 p2) :
    Calls Try.prog 4 #[.agg cs0, .slice a1 len1 cap1, .slice a2 len2 cap2] w fun e w' => e = .returned (.bool true) ∧ Below w.heap.size w w' := by
  have i0 := Mu.Inv.start (K := Mu.Kf) (w := w)
  obtain ⟨n0, t0⟩ := k0
  obtain ⟨ng0_2, yg0_2, g0_2⟩ := Mu.ZfC t0 Try.underlying25 0 rfl (sz := 1) (by kernel_rfl)
  obtain ⟨ρ1, h1, v1, sv1, l1, e1, i1, le1, x1, r1, s1, m1, b1⟩ := Mu.Inv.row i0 g0_2 Try.underlying22 (E := Mu.ZgD) (R := Mu.ZfX) (ks := [some .u8]) (d := 10) (by kernel_rfl) rfl (by decide) Mu.ZiV
  obtain ⟨ng0_3, yg0_3, g0_3⟩ := Mu.ZfC t0 Try.underlying25 1 rfl (sz := 1) (by kernel_rfl)
  obtain ⟨ρ2, h2, v2, sv2, l2, e2, i2, le2, x2, r2, s2, m2, b2⟩ := Mu.Inv.row i1 g0_3 Try.underlying22 (E := Mu.ZgD) (R := Mu.ZfX) (ks := [some .u8]) (d := 10) (by kernel_rfl) rfl (by decide) Mu.ZiV
  replace s1 := s1.ext x2
  replace r1 := r1.mono le2
  obtain ⟨ng0_4, yg0_4, g0_4⟩ := Mu.ZfC t0 Try.underlying25 2 rfl (sz := 1) (by kernel_rfl)
  obtain ⟨ρ3, h3, v3, sv3, l3, e3, i3, le3, x3, r3, s3, m3, b3⟩ := Mu.Inv.row i2 g0_4 Try.underlying23 (E := Mu.Zlq) (R := Mu.ZkB) (ks := [some .i8]) (d := 10) (by kernel_rfl) rfl (by decide) Mu.ZoA
  replace s1 := s1.ext x3
  replace s2 := s2.ext x3
  replace r1 := r1.mono le3
  replace r2 := r2.mono le3
  obtain ⟨n1, t1⟩ := k1
  obtain ⟨ρ4, h4, v4, sv4, l4, e4, i4, le4, x4, r4, s4, m4, b4⟩ := Mu.Inv.row i3 t1 Try.underlying22 (E := Mu.ZgD) (R := Mu.ZfX) (ks := [some .u8]) (d := 10) (by kernel_rfl) rfl (by decide) Mu.ZiV
  replace s1 := s1.ext x4
  replace s2 := s2.ext x4
  replace s3 := s3.ext x4
  replace r1 := r1.mono le4
  replace r2 := r2.mono le4
  replace r3 := r3.mono le4
  obtain ⟨n2, t2⟩ := k2
  obtain ⟨ρ5, h5, v5, sv5, l5, e5, i5, le5, x5, r5, s5, m5, b5⟩ := Mu.Inv.row i4 t2 Try.underlying22 (E := Mu.ZgD) (R := Mu.ZfX) (ks := [some .u8]) (d := 10) (by kernel_rfl) rfl (by decide) Mu.ZiV
  replace s1 := s1.ext x5
  replace s2 := s2.ext x5
  replace s3 := s3.ext x5
  replace s4 := s4.ext x5
  replace r1 := r1.mono le5
  replace r2 := r2.mono le5
  replace r3 := r3.mono le5
  replace r4 := r4.mono le5
  have E145 := (Mu.ZoJ e1 (Mu.ZoJ e2 (Mu.ZoJ e3 (Mu.ZpS (Mu.Zk7 t0 Try.underlying25 (sz := 3) (by kernel_rfl))))))
  rw [List.drop_zero] at E145
  have z0 : Mu.Rel Mu.Kf ρ5 (.ag ([v1] ++ ([v2] ++ ([v3] ++ [])))) (.agg cs0) := .ag (by show Mu.RelL _ _ _ cs0.toList; rw [show cs0.toList = _ from E145]; exact (Mu.RelL.append (.cons r1 .nil) (Mu.RelL.append (.cons r2 .nil) (Mu.RelL.append (.cons r3 .nil) .nil))))
  have z1 : Mu.Rel Mu.Kf ρ5 v4 (.slice a1 len1 cap1) := by have q := (List.cons.inj e4).1; rw [← show _ = sv4 from q] at r4; exact r4
  have z2 : Mu.Rel Mu.Kf ρ5 v5 (.slice a2 len2 cap2) := by have q := (List.cons.inj e5).1; rw [← show _ = sv5 from q] at r5; exact r5
  obtain ⟨u, k', hi, hu, _⟩ := Mu.ZbM.ok (h := h5) (z := (⟨l1, l2, l3⟩ : Mu.zT)) (x := l4) (y := l5) s1 s2 s3 s4 s5 (Mu.Zio (⟨l1, l2, l3⟩ : Mu.zT) l4 l5 m1 b1 m2 b2 m3 b3 m4 b4 m5 b5)
  exact Mu.Zmd (f := 258) (args := [.ag ([v1] ++ ([v2] ++ ([v3] ++ []))), v4, v5]) Mu.match_all Mu.mixed rfl (.cons z0 (.cons z1 (.cons z2 .nil))) i5 ((hi _).2 hu.symm)

theorem lifted (os : Os) (started : os.Started) (H : Type) (enc : TypeId × Value → H) :
    ReturnsInHanded {} Try.checked os 4 .any (Rows.sepMakesSpec.pre6 enc Try.prog Try.f4 Rows.sepMakesRow.domain false) (Rows.sepMakesSpec.post enc Try.prog Try.f4 false true false false) := by
  refine returnsInHanded_of_change (C := Try.checked) own started (by kernel_rfl) Try.func4
    (ChangeSpec.witness6 (enc := enc) (C := Try.checked) false ⟨#[], #[.agg #[.slice none 0 0, .slice none 0 0, .slice none 0 0], .slice none 0 0, .slice none 0 0], []⟩ 8 (by kernel_rfl) (by kernel_rfl) (by kernel_rfl) (by kernel_rfl)) ?_
  intro W base args ds gs before hval0 hW hcnd _
  have hval : ∀ (j : Nat) t v, Try.f4.params[j]? = some t → args[j]? = some v → Value.okWide Try.prog W .any base t v := hval0
  have hW' := hW
  obtain ⟨p, q, hA0, hV, rfl, hfz, hnd⟩ := hW
  have hA : DataW.TrodAll enc Try.prog W 0 (fun _ => true) true Try.f4.params.toList args.toList ds p := hA0
  rw [Try.params4] at hA hval
  obtain ⟨v0, vs0, d0, ds0, p0, q0, hargs, rfl, rfl, h0, r0⟩ := trodAll_cons hA
  obtain ⟨v1, vs1, d1, ds1, p1, q1, rfl, rfl, rfl, h1, r1⟩ := trodAll_cons r0
  obtain ⟨v2, vs2, d2, ds2, p2, q2, rfl, rfl, rfl, h2, r2⟩ := trodAll_cons r1
  obtain ⟨rfl, rfl, rfl⟩ := trodAll_nil r2
  obtain rfl : args = #[v0, v1, v2] := by cases args; simp_all
  obtain ⟨rfl, rfl⟩ := trodVars_none hV
  obtain ⟨cs0, rfl⟩ := Mu.Zkv (hval 0 25 v0 rfl rfl) (.inl ⟨_, Try.underlying25⟩)
  have lt0 : ∀ x ∈ p0, x.block < W.heap.size := by obtain ⟨m, hm⟩ := h0; exact DataW.trod_lt m _ _ _ hm
  obtain ⟨a1, len1, cap1, rfl⟩ := okWide_slice Try.underlying22 (hval 1 22 v1 rfl rfl)
  have lt1 : ∀ x ∈ p1, x.block < W.heap.size := by obtain ⟨m, hm⟩ := h1; exact DataW.trod_lt m _ _ _ hm
  obtain ⟨a2, len2, cap2, rfl⟩ := okWide_slice Try.underlying22 (hval 2 22 v2 rfl rfl)
  have lt2 : ∀ x ∈ p2, x.block < W.heap.size := by obtain ⟨m, hm⟩ := h2; exact DataW.trod_lt m _ _ _ hm
  clear hA0 hval0
  refine (walk (H := H) (enc := enc) W cs0 h0 a1 len1 cap1 h1 a2 len2 cap2 h2).mono fun e W' ⟨he, bel⟩ => ?_
  subst he
  exact ⟨_, rfl, _, _, _, [], _, [], hW', trodAll_mk1 (shut_bool Try.underlying4 _), (trodAll_cons_mk (Below.trod laidOut (by kernel_rfl) (of_decide_eq_true (by kernel_rfl)) h0 bel lt0) (trodAll_cons_mk (Below.trod laidOut (by kernel_rfl) (of_decide_eq_true (by kernel_rfl)) h1 bel lt1) (trodAll_cons_mk (Below.trod laidOut (by kernel_rfl) (of_decide_eq_true (by kernel_rfl)) h2 bel lt2) trodAll_mk0))), rfl, bel.frame _, fun h => by cases h⟩

theorem over : Rows.sepMakesRow.holds Try.pinned (OpenSpec.ofChange Rows.sepMakesSpec) :=
  OpenClaim.holds_of_wide 4 Try.f4 rfl rfl rfl rfl rfl rfl rfl ⟨rfl, rfl, rfl, rfl, rfl⟩ rfl rfl rfl rfl rfl (by kernel_rfl) Try.func4 (by kernel_rfl)
    (of_decide_eq_true (by kernel_rfl)) (by unfold Func.isWrapper; first | (rw [if_pos (by decide +kernel)]; kernel_rfl) | (rw [if_neg (by decide +kernel)]; exact ⟨rfl, rfl⟩))
    (fun os started H enc _ => lifted os started H enc)

/-- The statement. -/
theorem proved : Rows.SepMakesSaid := over
#print axioms proved
end Go.Proofs.Ytjhlegefgllihaa.sepMakes
