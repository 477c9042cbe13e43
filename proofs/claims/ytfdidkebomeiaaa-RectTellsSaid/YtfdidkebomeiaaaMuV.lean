/- Tools for what is worked out: rounds, searches, sums. -/
import Derived.Test.YtfdidkebomeiaaaMuA
set_option linter.unusedVariables false
set_option linter.unusedSimpArgs false
namespace Mu

theorem Z7 {α:Type}{c:Prop} [Decidable c] {a b:α}(h:c):(if decide c=true then a else b)=a:=if_pos (by simpa using h)
theorem Z8 {α:Type}{c:Prop} [Decidable c] {a b:α}(h:¬c):(if decide c=true then a else b)=b:=if_neg (by simpa using h)
theorem Zbj {α:Type}{c:Prop} [Decidable c] {a b:α}(h:¬c):(if (!decide c)=true then a else b)=a:=if_pos (by simpa using h)
theorem ZaJ {α:Type}{c:Prop} [Decidable c] {a b:α}(h:c):(if (!decide c)=true then a else b)=b:=if_neg (by simpa using h)
theorem Zce {c:Prop} [Decidable c] (h:c):decide c=true:=by simpa using h
theorem Zcb {c:Prop} [Decidable c] (h:¬c):decide c=false:=by simpa using h
theorem ZgU {α β:Type}{o:Option α}{f:α→Option β}{x:α}(h:o=some x):o.bind f=f x:=by rw [h];rfl

theorem Zdh {α:Type}{x:Int}{o:Option α}(h:-9223372036854775808≤x∧x≤9223372036854775807):ck (inK .i64 x) o=o:=Zr (ZqG h.1 h.2)
theorem ZfJ {α:Type}{x:Int}{o:Option α}(h:0≤x∧x≤255):ck (inK .u8 x) o=o:=Zr (Zr2 h.1 h.2)
theorem Zd6 {σ ρ:Type}{step:σ→Option (σ⊕ρ)}:∀ {n m:Nat}{s:σ}{r:ρ},ZJ step n s=some r→n≤m→ZJ step m s=some r
 | 0,_,_,_,h,_=>by cases h
 | n+1,0,_,_,_,h=>by omega
 | n+1,m+1,s,r,h,hm=>by
  simp only [ZJ] at h ⊢
  split at h
  ·rename_i s' hs
   exact Zd6 h (by omega)
  ·exact h
  ·cases h
theorem Zcc {σ ρ:Type}{step:σ→Option (σ⊕ρ)}(S:Nat→σ) {s0:σ}{n:Nat}{r:ρ}(hn:n<big) (h0:S 0=s0) (hs:∀ i,i<n→step (S i)=some (.inl (S (i+1)))) (he:step (S n)=some (.inr r)):ZJ step big s0=some r:=by
 subst h0
 have key:∀ k i,i+k=n→ZJ step (k+1) (S i)=some r:=by
  intro k
  induction k with
  | zero =>
   intro i hi
   obtain rfl:i=n:=by omega
   simp only [ZJ,he]
  | succ k ih =>
   intro i hi
   have:=ih (i+1) (by omega)
   rw [ZJ,hs i (by omega)]
   exact this
 exact Zd6 (key n 0 (by omega)) (by unfold big at *; omega)
theorem ZcN {ρ:Type}{step:Int→Option (Int⊕(Unit⊕ρ))}{n:Nat}{P:Nat→Bool}{f:Nat→ρ}(hn:n<big) (hs:∀ i:Nat,i<n→step i=some (if P i=true then .inr (.inr (f i)) else .inl ((i:Int)+1))) (he:step n=some (.inr (.inl ()))) :
  ZJ step big 0=some (match (List.range n).find? P with|some i=>.inr (f i)|none=>.inl ()):=by
 cases h:(List.range n).find? P with
 | none =>
  rw [List.find?_range_eq_none] at h
  refine Zcc (fun i:Nat=>(i:Int)) hn rfl (fun i hi=>?_) he
  have:=h i hi
  rw [hs i hi,if_neg (by simpa using this)]
  rfl
 | some j =>
  rw [List.find?_range_eq_some] at h
  obtain ⟨h1,h2,h3⟩:=h
  have hj:j<n:=by simpa using h2
  refine Zcc (fun i:Nat=>(i:Int)) (n:=j) (by omega) rfl (fun i hi=>?_) ?_
  ·have:=h3 i hi
   rw [hs i (by omega),if_neg (by simpa using this)]
   rfl
  ·rw [hs j hj,if_pos h1]
theorem Zbg {n:Nat}(h:n<18000000000000000000):n<big:=by unfold big;omega

def ZfQ (t:List Int):Nat→Int
 | 0=>0
 | n+1=>ZfQ t n+gi t n
theorem ZlZ {α:Type} [Inhabited α] {l:List α}{n:Nat}(h:n<l.length):l.take (n+1)=l.take n++[gi l n]:=by
 rw [List.take_add_one,List.getElem?_eq_getElem h,ZbY h];rfl
theorem Zdj {α:Type} [Inhabited α] {l m:List α}{i:Nat}(h:i<l.length):gi (l++m) i=gi l i:=by
 rw [ZbY (by simp;omega),ZbY h,List.getElem_append_left h]
theorem ZcX {α:Type} [Inhabited α] {l m:List α}{i:Nat}:gi (l++m) (l.length+i)=gi m i:=by
 simp [gi,List.getElem?_append_right]
theorem Ziv {α:Type} [Inhabited α] {l:List α}{i:Nat}(h:l.length≤i):gi l i=default:=by simp [gi,h]
theorem ZbW {α:Type} [Inhabited α] {l:List α}{i:Nat}(h:i<l.length):gi l i∈l:=by rw [ZbY h];simp
theorem obs {α β:Type}(a:α) (f:α→Option β):(some a).bind f=f a:=rfl
theorem itn (n:Nat):((n:Nat):Int).toNat=n:=rfl
end Mu
