/- Tools for what is worked out: rounds, searches, sums. -/
import Derived.Test.YtjhlegefgllihaaMuA
set_option linter.unusedVariables false
set_option linter.unusedSimpArgs false
namespace Mu

theorem ZU {α:Type}{c:Prop} [Decidable c] {a b:α}(h:c):(if decide c=true then a else b)=a:=if_pos (by simpa using h)
theorem ZT {α:Type}{c:Prop} [Decidable c] {a b:α}(h:¬c):(if decide c=true then a else b)=b:=if_neg (by simpa using h)
theorem Zdi {α:Type}{c:Prop} [Decidable c] {a b:α}(h:¬c):(if (!decide c)=true then a else b)=a:=if_pos (by simpa using h)
theorem Zc6 {α:Type}{c:Prop} [Decidable c] {a b:α}(h:c):(if (!decide c)=true then a else b)=b:=if_neg (by simpa using h)
theorem ZcK {c:Prop} [Decidable c] (h:c):decide c=true:=by simpa using h
theorem Zez {c:Prop} [Decidable c] (h:¬c):decide c=false:=by simpa using h
theorem Zhm {α β:Type}{o:Option α}{f:α→Option β}{x:α}(h:o=some x):o.bind f=f x:=by rw [h];rfl

theorem Zi0 {α:Type}{x:Int}{o:Option α}(h:-9223372036854775808≤x∧x≤9223372036854775807):ck (inK .i64 x) o=o:=Zx (ZpT h.1 h.2)
theorem ZpN {α:Type}{x:Int}{o:Option α}(h:0≤x∧x≤255):ck (inK .u8 x) o=o:=Zx (ZqF h.1 h.2)
theorem Zdw {σ ρ:Type}{step:σ→Option (σ⊕ρ)}:∀ {n m:Nat}{s:σ}{r:ρ},ZZ step n s=some r→n≤m→ZZ step m s=some r
 | 0,_,_,_,h,_=>by cases h
 | n+1,0,_,_,_,h=>by omega
 | n+1,m+1,s,r,h,hm=>by
  simp only [ZZ] at h ⊢;split at h
  ·rename_i s' hs;exact Zdw h (by omega)
  ·exact h
  ·cases h
theorem ZbK {σ ρ:Type}{step:σ→Option (σ⊕ρ)}(S:Nat→σ) {s0:σ}{n:Nat}{r:ρ}(hn:n<big) (h0:S 0=s0) (hs:∀ i,i<n→step (S i)=some (.inl (S (i+1)))) (he:step (S n)=some (.inr r)):ZZ step big s0=some r:=by
 subst h0;have key:∀ k i,i+k=n→ZZ step (k+1) (S i)=some r:=by
  intro k
  induction k with
  | zero =>
   intro i hi;obtain rfl:i=n:=by omega
   simp only [ZZ,he]
  | succ k ih =>
   intro i hi;have:=ih (i+1) (by omega);rw [ZZ,hs i (by omega)];exact this
 exact Zdw (key n 0 (by omega)) (by unfold big at *; omega)
theorem ZdD {ρ:Type}{step:Int→Option (Int⊕(Unit⊕ρ))}{n:Nat}{P:Nat→Bool}{f:Nat→ρ}(hn:n<big) (hs:∀ i:Nat,i<n→step i=some (if P i=true then .inr (.inr (f i)) else .inl ((i:Int)+1))) (he:step n=some (.inr (.inl ()))) :
  ZZ step big 0=some (match (List.range n).find? P with|some i=>.inr (f i)|none=>.inl ()):=by
 cases h:(List.range n).find? P with
 | none =>
  rw [List.find?_range_eq_none] at h;refine ZbK (fun i:Nat=>(i:Int)) hn rfl (fun i hi=>?_) he;have:=h i hi;rw [hs i hi,if_neg (by simpa using this)];rfl
 | some j =>
  rw [List.find?_range_eq_some] at h;obtain ⟨h1,h2,h3⟩:=h;have hj:j<n:=by simpa using h2
  refine ZbK (fun i:Nat=>(i:Int)) (n:=j) (by omega) rfl (fun i hi=>?_) ?_
  ·have:=h3 i hi;rw [hs i (by omega),if_neg (by simpa using this)];rfl
  ·rw [hs j hj,if_pos h1]
theorem ZaJ {n:Nat}(h:n<18000000000000000000):n<big:=by unfold big;omega

def ZnO (t:List Int):Nat→Int
 | 0=>0
 | n+1=>ZnO t n+gi t n
theorem ZeK {α:Type} [Inhabited α] {l:List α}{n:Nat}(h:n<l.length):l.take (n+1)=l.take n++[gi l n]:=by
 rw [List.take_add_one,List.getElem?_eq_getElem h,ZaH h];rfl
theorem Zdc {α:Type} [Inhabited α] {l m:List α}{i:Nat}(h:i<l.length):gi (l++m) i=gi l i:=by
 rw [ZaH (by simp;omega),ZaH h,List.getElem_append_left h]
theorem Zc9 {α:Type} [Inhabited α] {l m:List α}{i:Nat}:gi (l++m) (l.length+i)=gi m i:=by
 simp [gi,List.getElem?_append_right]
theorem Zg1 {α:Type} [Inhabited α] {l:List α}{i:Nat}(h:l.length≤i):gi l i=default:=by simp [gi,h]
theorem ZaG {α:Type} [Inhabited α] {l:List α}{i:Nat}(h:i<l.length):gi l i∈l:=by rw [ZaH h];simp
theorem obs {α β:Type}(a:α) (f:α→Option β):(some a).bind f=f a:=rfl
theorem itn (n:Nat):((n:Nat):Int).toNat=n:=rfl
theorem evl:type_of% @Zx∧type_of% @Zi0∧type_of% @ZpN∧type_of% @ZU∧type_of% @ZT∧type_of% @Zdi∧type_of% @Zc6∧type_of% @ZcK∧type_of% @Zez∧type_of% @Option.bind_some.{0,0}∧type_of% @Int.toNat_natCast∧type_of% @List.length_append.{0}∧type_of% @List.length_cons.{0}∧type_of% @List.length_nil.{0}∧type_of% @Nat.zero_add∧type_of% @if_true.{1}∧type_of% @if_false.{1}∧type_of% @Bool.false_eq_true∧type_of% @Bool.not_true∧type_of% @Bool.not_false∧type_of% @Bool.true_and∧type_of% @Bool.false_and∧type_of% @Bool.and_true∧type_of% @Bool.and_false∧type_of% @Bool.true_or∧type_of% @Bool.false_or∧type_of% @Bool.or_true∧type_of% @Bool.or_false:=⟨@Zx,@Zi0,@ZpN,@ZU,@ZT,@Zdi,@Zc6,@ZcK,@Zez,@Option.bind_some.{0,0},@Int.toNat_natCast,@List.length_append.{0},@List.length_cons.{0},@List.length_nil.{0},@Nat.zero_add,@if_true.{1},@if_false.{1},@Bool.false_eq_true,@Bool.not_true,@Bool.not_false,@Bool.true_and,@Bool.false_and,@Bool.and_true,@Bool.and_false,@Bool.true_or,@Bool.false_or,@Bool.or_true,@Bool.or_false⟩
end Mu
