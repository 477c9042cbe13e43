/- The proof of one statement: the run of the evaluator, carried to the model. -/
import Derived.Test.YtjhlegefgllihaaGreatRows
import Derived.Test.YtjhlegefgllihaaGreatMuC0
import Derived.Test.YtjhlegefgllihaaGreatMuC1
import Derived.Test.YtjhlegefgllihaaGreatMuC2
import Derived.Test.YtjhlegefgllihaaGreatMuC3
import Derived.Test.YtjhlegefgllihaaGreatMuC4
import Derived.Test.YtjhlegefgllihaaGreatMuC5
import Derived.Test.YtjhlegefgllihaaGreatMuC6
import Derived.Test.YtjhlegefgllihaaGreatMuC7
import Derived.Test.YtjhlegefgllihaaGreatMuC8
import Derived.Test.YtjhlegefgllihaaGreatMuC9
import Derived.Test.YtjhlegefgllihaaGreatMuC10
import Derived.Test.YtjhlegefgllihaaGreatMuC11
import Derived.Test.YtjhlegefgllihaaGreatMuK0
import Derived.Test.YtjhlegefgllihaaGreatMuK1
import Derived.Test.YtjhlegefgllihaaGreatMuK2
import Derived.Test.YtjhlegefgllihaaGreatMuMa
import Derived.WalkKit
import Derived.ProofKit
import Derived.OpenShut
import Derived.ShutString
import Derived.ChangeOld
import Derived.Below
import Derived.WideShapes
import Derived.ChangeShapes
namespace Go.Proofs.YtjhlegefgllihaaGreat.sepSettles
open Go.ChangeShapes Go.WideShapes Go.ChangeAt Go.RowKit
set_option linter.unusedVariables false
set_option maxRecDepth 100000

theorem own :ownKnob Tryz.prog.godebug=none :=by kernel_rfl
theorem laidOut :laidOutB Tryz.prog=true :=by kernel_rfl

theorem walk{H :Type}{enc :TypeId×Value->H}(w :World)(cs0 :Array Value){d0 :DataW H}{p0 :List MemPlace}(k0 :DataW.Trod enc Tryz.prog w 0 (λ_=> true) true 25 (.agg cs0) d0 p0)(cs1 :Array Value){d1 :DataW H}{p1 :List MemPlace}(k1 :DataW.Trod enc Tryz.prog w 0 (λ_=> true) true 29 (.agg cs1) d1 p1)(a2 :Option Addr)(len2 cap2 :Nat){d2 :DataW H}{p2 :List MemPlace}(k2 :DataW.Trod enc Tryz.prog w 0 (λ_=> true) true 30 (.slice a2 len2 cap2) d2 p2) :
    Calls Tryz.prog 3 #[.agg cs0, .agg cs1, .slice a2 len2 cap2] w λe w'=> e= .returned (.bool true)/\Below w.heap.size w w' :=by
  have i0 :=Mu.Inv.start (K :=Mu.Kf) (w :=w)
  obtain⟨n0,t0⟩ :=k0
  obtain⟨ng0_2,yg0_2,g0_2⟩ :=Mu.ZcL t0 Tryz.underlying25 0 rfl (sz :=1) (by kernel_rfl)
  obtain⟨ρ1,h1,v1,sv1,l1,e1,i1,le1,x1,r1,s1,m1,b1⟩ :=Mu.Inv.row i0 g0_2 Tryz.underlying22 (E :=Mu.Zgv) (R :=Mu.Zf3) (ks := [some .u8]) (d :=10) (by kernel_rfl) rfl (by decide) Mu.Zky
  obtain⟨ng0_3,yg0_3,g0_3⟩ :=Mu.ZcL t0 Tryz.underlying25 1 rfl (sz :=1) (by kernel_rfl)
  obtain⟨ρ2,h2,v2,sv2,l2,e2,i2,le2,x2,r2,s2,m2,b2⟩ :=Mu.Inv.row i1 g0_3 Tryz.underlying22 (E :=Mu.Zgv) (R :=Mu.Zf3) (ks := [some .u8]) (d :=10) (by kernel_rfl) rfl (by decide) Mu.Zky
  replace s1 :=s1.ext x2
  replace r1 :=r1.mono le2
  obtain⟨ng0_4,yg0_4,g0_4⟩ :=Mu.ZcL t0 Tryz.underlying25 2 rfl (sz :=1) (by kernel_rfl)
  obtain⟨ρ3,h3,v3,sv3,l3,e3,i3,le3,x3,r3,s3,m3,b3⟩ :=Mu.Inv.row i2 g0_4 Tryz.underlying23 (E :=Mu.Zkz) (R :=Mu.ZkV) (ks := [some .i8]) (d :=10) (by kernel_rfl) rfl (by decide) Mu.Zq1
  replace s1 :=s1.ext x3
  replace s2 :=s2.ext x3
  replace r1 :=r1.mono le3
  replace r2 :=r2.mono le3
  obtain⟨n1,t1⟩ :=k1
  obtain⟨ng1_5,yg1_5,g1_5⟩ :=Mu.ZcL t1 Tryz.underlying29 0 rfl (sz :=1) (by kernel_rfl)
  obtain⟨ρ4,h4,v4,sv4,l4,e4,i4,le4,x4,r4,s4,m4,b4⟩ :=Mu.Inv.row i3 g1_5 Tryz.underlying26 (E :=Mu.e_bool) (R :=Mu.Zi5) (ks := [none]) (d :=10) (by kernel_rfl) rfl (by decide) Mu.ZmM
  replace s1 :=s1.ext x4
  replace s2 :=s2.ext x4
  replace s3 :=s3.ext x4
  replace r1 :=r1.mono le4
  replace r2 :=r2.mono le4
  replace r3 :=r3.mono le4
  obtain⟨ng1_6,yg1_6,g1_6⟩ :=Mu.ZcL t1 Tryz.underlying29 1 rfl (sz :=1) (by kernel_rfl)
  obtain⟨ρ5,h5,v5,sv5,l5,e5,i5,le5,x5,r5,s5,m5,b5⟩ :=Mu.Inv.row i4 g1_6 Tryz.underlying27 (E :=Mu.ZeJ) (R :=Mu.ZfK) (ks := [some .u8,some .u8,some .u8]) (d :=10) (by kernel_rfl) rfl (by decide) Mu.ZlM
  replace s1 :=s1.ext x5
  replace s2 :=s2.ext x5
  replace s3 :=s3.ext x5
  replace s4 :=s4.ext x5
  replace r1 :=r1.mono le5
  replace r2 :=r2.mono le5
  replace r3 :=r3.mono le5
  replace r4 :=r4.mono le5
  obtain⟨ng1_7,yg1_7,g1_7⟩ :=Mu.ZcL t1 Tryz.underlying29 2 rfl (sz :=1) (by kernel_rfl)
  obtain⟨ρ6,h6,v6,sv6,l6,e6,i6,le6,x6,r6,s6,m6,b6⟩ :=Mu.Inv.row i5 g1_7 Tryz.underlying22 (E :=Mu.Zgv) (R :=Mu.Zf3) (ks := [some .u8]) (d :=10) (by kernel_rfl) rfl (by decide) Mu.Zky
  replace s1 :=s1.ext x6
  replace s2 :=s2.ext x6
  replace s3 :=s3.ext x6
  replace s4 :=s4.ext x6
  replace s5 :=s5.ext x6
  replace r1 :=r1.mono le6
  replace r2 :=r2.mono le6
  replace r3 :=r3.mono le6
  replace r4 :=r4.mono le6
  replace r5 :=r5.mono le6
  obtain⟨n2,t2⟩ :=k2
  obtain⟨ρ7,h7,v7,sv7,l7,e7,i7,le7,x7,r7,s7,m7,b7⟩ :=Mu.Inv.row i6 t2 Tryz.underlying30 (E :=Mu.Zh) (R :=Mu.Zeu) (ks := [some .i64,some .i64,some .i64,some .i64,some .i64,some .i64,some .i64,some .i64]) (d :=10) (by kernel_rfl) rfl (by decide) Mu.Zhs
  replace s1 :=s1.ext x7
  replace s2 :=s2.ext x7
  replace s3 :=s3.ext x7
  replace s4 :=s4.ext x7
  replace s5 :=s5.ext x7
  replace s6 :=s6.ext x7
  replace r1 :=r1.mono le7
  replace r2 :=r2.mono le7
  replace r3 :=r3.mono le7
  replace r4 :=r4.mono le7
  replace r5 :=r5.mono le7
  replace r6 :=r6.mono le7
  have E190 :=(Mu.ZlO e1 (Mu.ZlO e2 (Mu.ZlO e3 (Mu.Zp8 (Mu.ZhM t0 Tryz.underlying25 (sz :=3) (by kernel_rfl))))))
  rw[List.drop_zero]at E190
  have z0 :Mu.Rel Mu.Kf ρ7 (.ag ([v1]++([v2]++([v3]++ [])))) (.agg cs0) := .ag (by show Mu.RelL _ _ _ cs0.toList;rw[show cs0.toList=_ from E190];exact(Mu.RelL.append (.cons r1 .nil) (Mu.RelL.append (.cons r2 .nil) (Mu.RelL.append (.cons r3 .nil) .nil))))
  have E193 :=(Mu.ZlO e4 (Mu.ZlO e5 (Mu.ZlO e6 (Mu.Zp8 (Mu.ZhM t1 Tryz.underlying29 (sz :=3) (by kernel_rfl))))))
  rw[List.drop_zero]at E193
  have z1 :Mu.Rel Mu.Kf ρ7 (.ag ([v4]++([v5]++([v6]++ [])))) (.agg cs1) := .ag (by show Mu.RelL _ _ _ cs1.toList;rw[show cs1.toList=_ from E193];exact(Mu.RelL.append (.cons r4 .nil) (Mu.RelL.append (.cons r5 .nil) (Mu.RelL.append (.cons r6 .nil) .nil))))
  have z2 :Mu.Rel Mu.Kf ρ7 v7 (.slice a2 len2 cap2) :=by have q :=(List.cons.inj e7).1;rw[<-show _=sv7 from q]at r7;exact r7
  obtain⟨u,k',hi,hu,_⟩ :=Mu.Zbn.ok (h :=h7) (z :=(⟨l1,l2,l3⟩ :Mu.zq)) (y :=(⟨l4,l5,l6⟩ :Mu.Zau)) (raw :=l7) s1 s2 s3 s4 s5 s6 s7 (Mu.ZgN (⟨l1,l2,l3⟩ :Mu.zq) (⟨l4,l5,l6⟩ :Mu.Zau) l7 m1 b1 m2 b2 m3 b3 m4 b4 m5 b5 m6 b6 m7 b7)
  exact Mu.ZmG (f :=280) (args := [.ag ([v1]++([v2]++([v3]++ []))), .ag ([v4]++([v5]++([v6]++ []))),v7]) Mu.match_all Mu.mixed rfl (.cons z0 (.cons z1 (.cons z2 .nil))) i7 ((hi _).2 hu.symm)

theorem lifted(os :Os)(started :os.Started)(H :Type)(enc :TypeId×Value->H) :
    ReturnsInHanded {} Tryz.checked os 3 .any (Rows.sepSettlesSpec.pre6 enc Tryz.prog Tryz.f3 Rows.sepSettlesRow.domain false) (Rows.sepSettlesSpec.post enc Tryz.prog Tryz.f3 false true false false) :=by
  refine returnsInHanded_of_change (C :=Tryz.checked) own started (by kernel_rfl) Tryz.func3
    (ChangeSpec.witness6 (enc :=enc) (C :=Tryz.checked) false ⟨#[],#[.agg #[.slice none 0 0, .slice none 0 0, .slice none 0 0], .agg #[.slice none 0 0, .slice none 0 0, .slice none 0 0], .slice none 0 0], []⟩ 8 (by kernel_rfl) (by kernel_rfl) (by kernel_rfl) (by kernel_rfl)) ?_
  intro W base args ds gs before hval0 hW hcnd _
  have hval : ∀(j :Nat) t v,Tryz.f3.params[j]? =some t->args[j]? =some v->Value.okWide Tryz.prog W .any base t v :=hval0
  have hW' :=hW
  obtain⟨p,q,hA0,hV,rfl,hfz,hnd⟩ :=hW
  have hA :DataW.TrodAll enc Tryz.prog W 0 (λ_=> true) true Tryz.f3.params.toList args.toList ds p :=hA0
  rw[Tryz.params3]at hA hval
  obtain⟨v0,vs0,d0,ds0,p0,q0,hargs,rfl,rfl,h0,r0⟩ :=trodAll_cons hA
  obtain⟨v1,vs1,d1,ds1,p1,q1,rfl,rfl,rfl,h1,r1⟩ :=trodAll_cons r0
  obtain⟨v2,vs2,d2,ds2,p2,q2,rfl,rfl,rfl,h2,r2⟩ :=trodAll_cons r1
  obtain⟨rfl,rfl,rfl⟩ :=trodAll_nil r2
  obtain rfl :args=#[v0,v1,v2] :=by cases args;simp_all
  obtain⟨rfl,rfl⟩ :=trodVars_none hV
  obtain⟨cs0,rfl⟩ :=Mu.Zh6 (hval 0 25 v0 rfl rfl) (.inl ⟨_,Tryz.underlying25⟩)
  have lt0 : ∀x∈p0,x.block < W.heap.size :=by obtain⟨m,hm⟩ :=h0;exact DataW.trod_lt m _ _ _ hm
  obtain⟨cs1,rfl⟩ :=Mu.Zh6 (hval 1 29 v1 rfl rfl) (.inl ⟨_,Tryz.underlying29⟩)
  have lt1 : ∀x∈p1,x.block < W.heap.size :=by obtain⟨m,hm⟩ :=h1;exact DataW.trod_lt m _ _ _ hm
  obtain⟨a2,len2,cap2,rfl⟩ :=okWide_slice Tryz.underlying30 (hval 2 30 v2 rfl rfl)
  have lt2 : ∀x∈p2,x.block < W.heap.size :=by obtain⟨m,hm⟩ :=h2;exact DataW.trod_lt m _ _ _ hm
  clear hA0 hval0
  refine(walk (H :=H) (enc :=enc) W cs0 h0 cs1 h1 a2 len2 cap2 h2).mono λe W' ⟨he,bel⟩=> ?_
  subst he
  exact⟨_,rfl,_,_,_, [],_, [],hW',trodAll_mk1 (shut_bool Tryz.underlying4 _),(trodAll_cons_mk (Below.trod laidOut (by kernel_rfl) (of_decide_eq_true (by kernel_rfl)) h0 bel lt0) (trodAll_cons_mk (Below.trod laidOut (by kernel_rfl) (of_decide_eq_true (by kernel_rfl)) h1 bel lt1) (trodAll_cons_mk (Below.trod laidOut (by kernel_rfl) (of_decide_eq_true (by kernel_rfl)) h2 bel lt2) trodAll_mk0))),rfl,bel.frame _,λh=> by cases h⟩

theorem over :Rows.sepSettlesRow.holds Tryz.pinned (OpenSpec.ofChange Rows.sepSettlesSpec) :=
  OpenClaim.holds_of_wide 3 Tryz.f3 rfl rfl rfl rfl rfl rfl rfl ⟨rfl,rfl,rfl,rfl,rfl⟩ rfl rfl rfl rfl rfl (by kernel_rfl) Tryz.func3 (by kernel_rfl)
    (of_decide_eq_true (by kernel_rfl)) (by unfold Func.isWrapper;first |(rw[if_pos (by decide+kernel)];kernel_rfl) |(rw[if_neg (by decide+kernel)];exact⟨rfl,rfl⟩))
    (λos started H enc _=> lifted os started H enc)

/-- The statement. -/
theorem proved :Rows.SepSettlesSaid :=over
#print axioms proved
end Go.Proofs.YtjhlegefgllihaaGreat.sepSettles
