/- The proof of one statement: the run of the evaluator, carried to the model. -/
import Derived.Test.YtdefkboekpjiiaaRows
import Derived.Test.YtdefkboekpjiiaaMuC0
import Derived.Test.YtdefkboekpjiiaaMuC1
import Derived.Test.YtdefkboekpjiiaaMuC2
import Derived.Test.YtdefkboekpjiiaaMuC3
import Derived.Test.YtdefkboekpjiiaaMuC4
import Derived.Test.YtdefkboekpjiiaaMuC5
import Derived.Test.YtdefkboekpjiiaaMuK0
import Derived.Test.YtdefkboekpjiiaaMuK1
import Derived.Test.YtdefkboekpjiiaaMuMa
import Derived.WalkKit
import Derived.ProofKit
import Derived.OpenShut
import Derived.ShutString
import Derived.ChangeOld
import Derived.Below
import Derived.WideShapes
import Derived.ChangeShapes
namespace Go.Proofs.Ytdefkboekpjiiaa.regularTells
open Go.ChangeShapes Go.WideShapes Go.ChangeAt Go.RowKit
set_option linter.unusedVariables false
set_option maxRecDepth 100000

theorem own : ownKnob Try.prog.godebug = none := by kernel_rfl
theorem laidOut : laidOutB Try.prog = true := by kernel_rfl

theorem walk {H : Type} {enc : TypeId × Value → H} (w : World) (cs0 : Array Value) {d0 : DataW H} {p0 : List MemPlace} (k0 : DataW.Trod enc Try.prog w 0 (fun _ => true) true 129 (.agg cs0) d0 p0) :
    Calls Try.prog 14 #[.agg cs0] w fun e w' => e = .returned (.bool true) ∧ Below w.heap.size w w' := by
  have i0 := Mu.Inv.start (K := Mu.Kf) (w := w)
  obtain ⟨n0, t0⟩ := k0
  obtain ⟨ng0_2, yg0_2, g0_2⟩ := Mu.Zc1 t0 Try.underlying129 0 rfl (sz := 3) (by kernel_rfl)
  obtain ⟨ng0_3, yg0_3, g0_3⟩ := Mu.Zc1 g0_2 Try.underlying25 0 rfl (sz := 1) (by kernel_rfl)
  obtain ⟨ρ1, h1, v1, sv1, l1, e1, i1, le1, x1, r1, s1, m1, b1⟩ := Mu.Inv.row i0 g0_3 Try.underlying22 (E := Mu.ZhA) (R := Mu.Zg0) (ks := [some .u8]) (d := 10) (by kernel_rfl) rfl (by decide) Mu.Zki
  obtain ⟨ng0_4, yg0_4, g0_4⟩ := Mu.Zc1 g0_2 Try.underlying25 1 rfl (sz := 1) (by kernel_rfl)
  obtain ⟨ρ2, h2, v2, sv2, l2, e2, i2, le2, x2, r2, s2, m2, b2⟩ := Mu.Inv.row i1 g0_4 Try.underlying22 (E := Mu.ZhA) (R := Mu.Zg0) (ks := [some .u8]) (d := 10) (by kernel_rfl) rfl (by decide) Mu.Zki
  replace s1 := s1.ext x2
  replace r1 := r1.mono le2
  obtain ⟨ng0_5, yg0_5, g0_5⟩ := Mu.Zc1 g0_2 Try.underlying25 2 rfl (sz := 1) (by kernel_rfl)
  obtain ⟨ρ3, h3, v3, sv3, l3, e3, i3, le3, x3, r3, s3, m3, b3⟩ := Mu.Inv.row i2 g0_5 Try.underlying23 (E := Mu.Zln) (R := Mu.Zk9) (ks := [some .i8]) (d := 10) (by kernel_rfl) rfl (by decide) Mu.Zo7
  replace s1 := s1.ext x3
  replace s2 := s2.ext x3
  replace r1 := r1.mono le3
  replace r2 := r2.mono le3
  obtain ⟨ng0_6, yg0_6, g0_6⟩ := Mu.Zc1 t0 Try.underlying129 1 rfl (sz := 3) (by kernel_rfl)
  obtain ⟨ng0_7, yg0_7, g0_7⟩ := Mu.Zc1 g0_6 Try.underlying70 0 rfl (sz := 1) (by kernel_rfl)
  obtain ⟨ρ4, h4, v4, sv4, l4, e4, i4, le4, x4, r4, s4, m4, b4⟩ := Mu.Inv.row i3 g0_7 Try.underlying67 (E := Mu.e_bool) (R := Mu.ZgI) (ks := [none]) (d := 10) (by kernel_rfl) rfl (by decide) Mu.ZjE
  replace s1 := s1.ext x4
  replace s2 := s2.ext x4
  replace s3 := s3.ext x4
  replace r1 := r1.mono le4
  replace r2 := r2.mono le4
  replace r3 := r3.mono le4
  obtain ⟨ng0_8, yg0_8, g0_8⟩ := Mu.Zc1 g0_6 Try.underlying70 1 rfl (sz := 1) (by kernel_rfl)
  obtain ⟨ρ5, h5, v5, sv5, l5, e5, i5, le5, x5, r5, s5, m5, b5⟩ := Mu.Inv.row i4 g0_8 Try.underlying68 (E := Mu.Zgv) (R := Mu.ZgH) (ks := [some .u8, some .u8, some .u8]) (d := 10) (by kernel_rfl) rfl (by decide) Mu.Zlm
  replace s1 := s1.ext x5
  replace s2 := s2.ext x5
  replace s3 := s3.ext x5
  replace s4 := s4.ext x5
  replace r1 := r1.mono le5
  replace r2 := r2.mono le5
  replace r3 := r3.mono le5
  replace r4 := r4.mono le5
  obtain ⟨ng0_9, yg0_9, g0_9⟩ := Mu.Zc1 g0_6 Try.underlying70 2 rfl (sz := 1) (by kernel_rfl)
  obtain ⟨ρ6, h6, v6, sv6, l6, e6, i6, le6, x6, r6, s6, m6, b6⟩ := Mu.Inv.row i5 g0_9 Try.underlying22 (E := Mu.ZhA) (R := Mu.Zg0) (ks := [some .u8]) (d := 10) (by kernel_rfl) rfl (by decide) Mu.Zki
  replace s1 := s1.ext x6
  replace s2 := s2.ext x6
  replace s3 := s3.ext x6
  replace s4 := s4.ext x6
  replace s5 := s5.ext x6
  replace r1 := r1.mono le6
  replace r2 := r2.mono le6
  replace r3 := r3.mono le6
  replace r4 := r4.mono le6
  replace r5 := r5.mono le6
  obtain ⟨ng0_10, yg0_10, g0_10⟩ := Mu.Zc1 t0 Try.underlying129 2 rfl (sz := 1) (by kernel_rfl)
  obtain ⟨ρ7, h7, v7, sv7, l7, e7, i7, le7, x7, r7, s7, m7, b7⟩ := Mu.Inv.row i6 g0_10 Try.underlying28 (E := Mu.Zd) (R := Mu.Zfo) (ks := [some .i64, some .i64, some .i64, some .i64, some .i64, some .i64, some .i64, some .i64]) (d := 10) (by kernel_rfl) rfl (by decide) Mu.ZhX
  replace s1 := s1.ext x7
  replace s2 := s2.ext x7
  replace s3 := s3.ext x7
  replace s4 := s4.ext x7
  replace s5 := s5.ext x7
  replace s6 := s6.ext x7
  replace r1 := r1.mono le7
  replace r2 := r2.mono le7
  replace r3 := r3.mono le7
  replace r4 := r4.mono le7
  replace r5 := r5.mono le7
  replace r6 := r6.mono le7
  obtain ⟨ng0_11, yg0_11, g0_11⟩ := Mu.Zc1 t0 Try.underlying129 3 rfl (sz := 1) (by kernel_rfl)
  obtain ⟨ρ8, h8, v8, sv8, l8, e8, i8, le8, x8, r8, s8, m8, b8⟩ := Mu.Inv.row i7 g0_11 Try.underlying67 (E := Mu.e_bool) (R := Mu.ZgI) (ks := [none]) (d := 10) (by kernel_rfl) rfl (by decide) Mu.ZjE
  replace s1 := s1.ext x8
  replace s2 := s2.ext x8
  replace s3 := s3.ext x8
  replace s4 := s4.ext x8
  replace s5 := s5.ext x8
  replace s6 := s6.ext x8
  replace s7 := s7.ext x8
  replace r1 := r1.mono le8
  replace r2 := r2.mono le8
  replace r3 := r3.mono le8
  replace r4 := r4.mono le8
  replace r5 := r5.mono le8
  replace r6 := r6.mono le8
  replace r7 := r7.mono le8
  have E145 := (Mu.Zi3 e1 (Mu.Zi3 e2 (Mu.Zi3 e3 (Mu.Zmj (Mu.ZgD g0_2 Try.underlying25 (sz := 3) (by kernel_rfl))))))
  rw [List.drop_zero] at E145
  have E147 := (Mu.Zi3 e4 (Mu.Zi3 e5 (Mu.Zi3 e6 (Mu.Zmj (Mu.ZgD g0_6 Try.underlying70 (sz := 3) (by kernel_rfl))))))
  rw [List.drop_zero] at E147
  have E149 := (Mu.Zi3 (o := 0) (n := 3) E145 (Mu.Zi3 (o := 3) (n := 3) E147 (Mu.Zi3 e7 (Mu.Zi3 e8 (Mu.Zmj (Mu.ZgD t0 Try.underlying129 (sz := 8) (by kernel_rfl)))))))
  rw [List.drop_zero] at E149
  have z0 : Mu.Rel Mu.Kf ρ8 (.ag (([v1] ++ ([v2] ++ ([v3] ++ []))) ++ (([v4] ++ ([v5] ++ ([v6] ++ []))) ++ ([v7] ++ ([v8] ++ []))))) (.agg cs0) := .ag (by show Mu.RelL _ _ _ cs0.toList; rw [show cs0.toList = _ from E149]; exact (Mu.RelL.append (Mu.RelL.append (.cons r1 .nil) (Mu.RelL.append (.cons r2 .nil) (Mu.RelL.append (.cons r3 .nil) .nil))) (Mu.RelL.append (Mu.RelL.append (.cons r4 .nil) (Mu.RelL.append (.cons r5 .nil) (Mu.RelL.append (.cons r6 .nil) .nil))) (Mu.RelL.append (.cons r7 .nil) (Mu.RelL.append (.cons r8 .nil) .nil)))))
  obtain ⟨u, k', hi, hu, _⟩ := Mu.Zb8.ok (h := h8) (z := (⟨(⟨l1, l2, l3⟩ : Mu.Za1), (⟨l4, l5, l6⟩ : Mu.ZbB), l7, l8⟩ : Mu.ZcB)) s1 s2 s3 s4 s5 s6 s7 s8 (Mu.ZgJ (⟨(⟨l1, l2, l3⟩ : Mu.Za1), (⟨l4, l5, l6⟩ : Mu.ZbB), l7, l8⟩ : Mu.ZcB) m1 b1 m2 b2 m3 b3 m4 b4 m5 b5 m6 b6 m7 b7 m8 b8)
  exact Mu.ZlY (f := 163) (args := [.ag (([v1] ++ ([v2] ++ ([v3] ++ []))) ++ (([v4] ++ ([v5] ++ ([v6] ++ []))) ++ ([v7] ++ ([v8] ++ []))))]) Mu.match_all Mu.mixed rfl (.cons z0 .nil) i8 ((hi _).2 hu.symm)

theorem lifted (os : Os) (started : os.Started) (H : Type) (enc : TypeId × Value → H) :
    ReturnsInHanded {} Try.checked os 14 .any (Rows.regularTellsSpec.pre6 enc Try.prog Try.f14 Rows.regularTellsRow.domain false) (Rows.regularTellsSpec.post enc Try.prog Try.f14 false true false false) := by
  refine returnsInHanded_of_change (C := Try.checked) own started (by kernel_rfl) Try.func14
    (ChangeSpec.witness6 (enc := enc) (C := Try.checked) false ⟨#[], #[.agg #[.slice none 0 0, .slice none 0 0, .slice none 0 0, .slice none 0 0, .slice none 0 0, .slice none 0 0, .slice none 0 0, .slice none 0 0]], []⟩ 8 (by kernel_rfl) (by kernel_rfl) (by kernel_rfl) (by kernel_rfl)) ?_
  intro W base args ds gs before hval0 hW hcnd _
  have hval : ∀ (j : Nat) t v, Try.f14.params[j]? = some t → args[j]? = some v → Value.okWide Try.prog W .any base t v := hval0
  have hW' := hW
  obtain ⟨p, q, hA0, hV, rfl, hfz, hnd⟩ := hW
  have hA : DataW.TrodAll enc Try.prog W 0 (fun _ => true) true Try.f14.params.toList args.toList ds p := hA0
  rw [Try.params14] at hA hval
  obtain ⟨v0, vs0, d0, ds0, p0, q0, hargs, rfl, rfl, h0, r0⟩ := trodAll_cons hA
  obtain ⟨rfl, rfl, rfl⟩ := trodAll_nil r0
  obtain rfl : args = #[v0] := by cases args; simp_all
  obtain ⟨rfl, rfl⟩ := trodVars_none hV
  obtain ⟨cs0, rfl⟩ := Mu.Zkv (hval 0 129 v0 rfl rfl) (.inl ⟨_, Try.underlying129⟩)
  have lt0 : ∀ x ∈ p0, x.block < W.heap.size := by obtain ⟨m, hm⟩ := h0; exact DataW.trod_lt m _ _ _ hm
  clear hA0 hval0
  refine (walk (H := H) (enc := enc) W cs0 h0).mono fun e W' ⟨he, bel⟩ => ?_
  subst he
  exact ⟨_, rfl, _, _, _, [], _, [], hW', trodAll_mk1 (shut_bool Try.underlying4 _), (trodAll_cons_mk (Below.trod laidOut (by kernel_rfl) (of_decide_eq_true (by kernel_rfl)) h0 bel lt0) trodAll_mk0), rfl, bel.frame _, fun h => by cases h⟩

theorem over : Rows.regularTellsRow.holds Try.pinned (OpenSpec.ofChange Rows.regularTellsSpec) :=
  OpenClaim.holds_of_wide 14 Try.f14 rfl rfl rfl rfl rfl rfl rfl ⟨rfl, rfl, rfl, rfl, rfl⟩ rfl rfl rfl rfl rfl (by kernel_rfl) Try.func14 (by kernel_rfl)
    (of_decide_eq_true (by kernel_rfl)) (by unfold Func.isWrapper; first | (rw [if_pos (by decide +kernel)]; kernel_rfl) | (rw [if_neg (by decide +kernel)]; exact ⟨rfl, rfl⟩))
    (fun os started H enc _ => lifted os started H enc)

/-- The statement. -/
theorem proved : Rows.RegularTellsSaid := over
#print axioms proved
end Go.Proofs.Ytdefkboekpjiiaa.regularTells
