/- The proof of one statement: the run of the evaluator, carried to the model. -/
import Derived.Test.YtdefkboekpjiiaaRows
import Derived.Test.YtdefkboekpjiiaaMuC0
import Derived.Test.YtdefkboekpjiiaaMuC1
import Derived.Test.YtdefkboekpjiiaaMuK0
import Derived.Test.YtdefkboekpjiiaaMuMa
import Derived.WalkKit
import Derived.ProofKit
import Derived.OpenShut
import Derived.ShutString
import Derived.ChangeOld
import Derived.Below
import Derived.WideShapes
import Derived.ChangeShapes
namespace Go.Proofs.Ytdefkboekpjiiaa.sepLines
open Go.ChangeShapes Go.WideShapes Go.ChangeAt Go.RowKit
set_option linter.unusedVariables false
set_option maxRecDepth 100000

theorem own : ownKnob Try.prog.godebug = none := by kernel_rfl
theorem laidOut : laidOutB Try.prog = true := by kernel_rfl

theorem walk {H : Type} {enc : TypeId × Value → H} (w : World) (cs0 : Array Value) {d0 : DataW H} {p0 : List MemPlace} (k0 : DataW.Trod enc Try.prog w 0 (fun _ => true) true 25 (.agg cs0) d0 p0) (a1 : Option Addr) (len1 cap1 : Nat) {d1 : DataW H} {p1 : List MemPlace} (k1 : DataW.Trod enc Try.prog w 0 (fun _ => true) true 28 (.slice a1 len1 cap1) d1 p1) :
    Calls Try.prog 13 #[.agg cs0, .slice a1 len1 cap1] w fun e w' => e = .returned (.bool true) ∧ Below w.heap.size w w' := by
  have i0 := Mu.Inv.start (K := Mu.Kf) (w := w)
  obtain ⟨n0, t0⟩ := k0
  obtain ⟨ng0_2, yg0_2, g0_2⟩ := Mu.ZcB t0 Try.underlying25 0 rfl (sz := 1) (by kernel_rfl)
  obtain ⟨ρ1, h1, v1, sv1, l1, e1, i1, le1, x1, r1, s1, m1, b1⟩ := Mu.Inv.row i0 g0_2 Try.underlying22 (E := Mu.Zf8) (R := Mu.Zfg) (ks := [some .u8]) (d := 10) (by kernel_rfl) rfl (by decide) Mu.Zi5
  obtain ⟨ng0_3, yg0_3, g0_3⟩ := Mu.ZcB t0 Try.underlying25 1 rfl (sz := 1) (by kernel_rfl)
  obtain ⟨ρ2, h2, v2, sv2, l2, e2, i2, le2, x2, r2, s2, m2, b2⟩ := Mu.Inv.row i1 g0_3 Try.underlying22 (E := Mu.Zf8) (R := Mu.Zfg) (ks := [some .u8]) (d := 10) (by kernel_rfl) rfl (by decide) Mu.Zi5
  replace s1 := s1.ext x2
  replace r1 := r1.mono le2
  obtain ⟨ng0_4, yg0_4, g0_4⟩ := Mu.ZcB t0 Try.underlying25 2 rfl (sz := 1) (by kernel_rfl)
  obtain ⟨ρ3, h3, v3, sv3, l3, e3, i3, le3, x3, r3, s3, m3, b3⟩ := Mu.Inv.row i2 g0_4 Try.underlying23 (E := Mu.ZhJ) (R := Mu.Zhn) (ks := [some .i8]) (d := 10) (by kernel_rfl) rfl (by decide) Mu.ZkD
  replace s1 := s1.ext x3
  replace s2 := s2.ext x3
  replace r1 := r1.mono le3
  replace r2 := r2.mono le3
  obtain ⟨n1, t1⟩ := k1
  obtain ⟨ρ4, h4, v4, sv4, l4, e4, i4, le4, x4, r4, s4, m4, b4⟩ := Mu.Inv.row i3 t1 Try.underlying28 (E := Mu.Zr) (R := Mu.Zcn) (ks := [some .i64, some .i64, some .i64, some .i64, some .i64, some .i64, some .i64, some .i64]) (d := 10) (by kernel_rfl) rfl (by decide) Mu.Zew
  replace s1 := s1.ext x4
  replace s2 := s2.ext x4
  replace s3 := s3.ext x4
  replace r1 := r1.mono le4
  replace r2 := r2.mono le4
  replace r3 := r3.mono le4
  have E64 := (Mu.ZkM e1 (Mu.ZkM e2 (Mu.ZkM e3 (Mu.ZlH (Mu.Zhi t0 Try.underlying25 (sz := 3) (by kernel_rfl))))))
  rw [List.drop_zero] at E64
  have z0 : Mu.Rel Mu.Kf ρ4 (.ag ([v1] ++ ([v2] ++ ([v3] ++ [])))) (.agg cs0) := .ag (by show Mu.RelL _ _ _ cs0.toList; rw [show cs0.toList = _ from E64]; exact (Mu.RelL.append (.cons r1 .nil) (Mu.RelL.append (.cons r2 .nil) (Mu.RelL.append (.cons r3 .nil) .nil))))
  have z1 : Mu.Rel Mu.Kf ρ4 v4 (.slice a1 len1 cap1) := by have q := (List.cons.inj e4).1; rw [← show _ = sv4 from q] at r4; exact r4
  obtain ⟨u, k', hi, hu, _⟩ := Mu.ZJ.ok (h := h4) (z := (⟨l1, l2, l3⟩ : Mu.zb)) (raw := l4) s1 s2 s3 s4 (Mu.ZeU (⟨l1, l2, l3⟩ : Mu.zb) l4 m1 b1 m2 b2 m3 b3 m4 b4)
  exact Mu.Zgp (f := 162) (args := [.ag ([v1] ++ ([v2] ++ ([v3] ++ []))), v4]) Mu.match_all Mu.mixed rfl (.cons z0 (.cons z1 .nil)) i4 ((hi _).2 hu.symm)

theorem lifted (os : Os) (started : os.Started) (H : Type) (enc : TypeId × Value → H) :
    ReturnsInHanded {} Try.checked os 13 .any (Rows.sepLinesSpec.pre6 enc Try.prog Try.f13 Rows.sepLinesRow.domain false) (Rows.sepLinesSpec.post enc Try.prog Try.f13 false true false false) := by
  refine returnsInHanded_of_change (C := Try.checked) own started (by kernel_rfl) Try.func13
    (ChangeSpec.witness6 (enc := enc) (C := Try.checked) false ⟨#[], #[.agg #[.slice none 0 0, .slice none 0 0, .slice none 0 0], .slice none 0 0], []⟩ 8 (by kernel_rfl) (by kernel_rfl) (by kernel_rfl) (by kernel_rfl)) ?_
  intro W base args ds gs before hval0 hW hcnd _
  have hval : ∀ (j : Nat) t v, Try.f13.params[j]? = some t → args[j]? = some v → Value.okWide Try.prog W .any base t v := hval0
  have hW' := hW
  obtain ⟨p, q, hA0, hV, rfl, hfz, hnd⟩ := hW
  have hA : DataW.TrodAll enc Try.prog W 0 (fun _ => true) true Try.f13.params.toList args.toList ds p := hA0
  rw [Try.params13] at hA hval
  obtain ⟨v0, vs0, d0, ds0, p0, q0, hargs, rfl, rfl, h0, r0⟩ := trodAll_cons hA
  obtain ⟨v1, vs1, d1, ds1, p1, q1, rfl, rfl, rfl, h1, r1⟩ := trodAll_cons r0
  obtain ⟨rfl, rfl, rfl⟩ := trodAll_nil r1
  obtain rfl : args = #[v0, v1] := by cases args; simp_all
  obtain ⟨rfl, rfl⟩ := trodVars_none hV
  obtain ⟨cs0, rfl⟩ := Mu.Zha (hval 0 25 v0 rfl rfl) (.inl ⟨_, Try.underlying25⟩)
  have lt0 : ∀ x ∈ p0, x.block < W.heap.size := by obtain ⟨m, hm⟩ := h0; exact DataW.trod_lt m _ _ _ hm
  obtain ⟨a1, len1, cap1, rfl⟩ := okWide_slice Try.underlying28 (hval 1 28 v1 rfl rfl)
  have lt1 : ∀ x ∈ p1, x.block < W.heap.size := by obtain ⟨m, hm⟩ := h1; exact DataW.trod_lt m _ _ _ hm
  clear hA0 hval0
  refine (walk (H := H) (enc := enc) W cs0 h0 a1 len1 cap1 h1).mono fun e W' ⟨he, bel⟩ => ?_
  subst he
  exact ⟨_, rfl, _, _, _, [], _, [], hW', trodAll_mk1 (shut_bool Try.underlying4 _), (trodAll_cons_mk (Below.trod laidOut (by kernel_rfl) (of_decide_eq_true (by kernel_rfl)) h0 bel lt0) (trodAll_cons_mk (Below.trod laidOut (by kernel_rfl) (of_decide_eq_true (by kernel_rfl)) h1 bel lt1) trodAll_mk0)), rfl, bel.frame _, fun h => by cases h⟩

theorem over : Rows.sepLinesRow.holds Try.pinned (OpenSpec.ofChange Rows.sepLinesSpec) :=
  OpenClaim.holds_of_wide 13 Try.f13 rfl rfl rfl rfl rfl rfl rfl ⟨rfl, rfl, rfl, rfl, rfl⟩ rfl rfl rfl rfl rfl (by kernel_rfl) Try.func13 (by kernel_rfl)
    (of_decide_eq_true (by kernel_rfl)) (by unfold Func.isWrapper; first | (rw [if_pos (by decide +kernel)]; kernel_rfl) | (rw [if_neg (by decide +kernel)]; exact ⟨rfl, rfl⟩))
    (fun os started H enc _ => lifted os started H enc)

/-- The statement. -/
theorem proved : Rows.SepLinesSaid := over
#print axioms proved
end Go.Proofs.Ytdefkboekpjiiaa.sepLines
