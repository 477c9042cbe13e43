/- Tools for what is worked out: rounds, searches, sums. -/
import Derived.Test.YtfdidkebomeiaaaMuA
set_option linter.unusedVariables false
set_option linter.unusedSimpArgs false
namespace Mu

theorem ZB {α:Type}{c:Prop} [Decidable c] {a b:α}(h:c):(if decide c=true then a else b)=a:=if_pos (by simpa using h)
theorem Z9 {α:Type}{c:Prop} [Decidable c] {a b:α}(h:¬c):(if decide c=true then a else b)=b:=if_neg (by simpa using h)
theorem Zbi {α:Type}{c:Prop} [Decidable c] {a b:α}(h:¬c):(if (!decide c)=true then a else b)=a:=if_pos (by simpa using h)
theorem Za4 {α:Type}{c:Prop} [Decidable c] {a b:α}(h:c):(if (!decide c)=true then a else b)=b:=if_neg (by simpa using h)
theorem Zbx {c:Prop} [Decidable c] (h:c):decide c=true:=by simpa using h
theorem ZbB {c:Prop} [Decidable c] (h:¬c):decide c=false:=by simpa using h
theorem ZgX {α β:Type}{o:Option α}{f:α→Option β}{x:α}(h:o=some x):o.bind f=f x:=by rw [h];rfl

theorem ZcM {α:Type}{x:Int}{o:Option α}(h:-9223372036854775808≤x∧x≤9223372036854775807):ck (inK .i64 x) o=o:=Zt (Zq0 h.1 h.2)
theorem ZeX {α:Type}{x:Int}{o:Option α}(h:0≤x∧x≤255):ck (inK .u8 x) o=o:=Zt (Zrn h.1 h.2)
theorem Zd5 {σ ρ:Type}{step:σ→Option (σ⊕ρ)}:∀ {n m:Nat}{s:σ}{r:ρ},ZZ step n s=some r→n≤m→ZZ step m s=some r
 | 0,_,_,_,h,_=>by cases h
 | n+1,0,_,_,_,h=>by omega
 | n+1,m+1,s,r,h,hm=>by
  simp only [ZZ] at h ⊢
  split at h
  ·rename_i s' hs
   exact Zd5 h (by omega)
  ·exact h
  ·cases h
theorem ZbP {σ ρ:Type}{step:σ→Option (σ⊕ρ)}(S:Nat→σ) {s0:σ}{n:Nat}{r:ρ}(hn:n<big) (h0:S 0=s0) (hs:∀ i,i<n→step (S i)=some (.inl (S (i+1)))) (he:step (S n)=some (.inr r)):ZZ step big s0=some r:=by
 subst h0
 have key:∀ k i,i+k=n→ZZ step (k+1) (S i)=some r:=by
  intro k
  induction k with
  | zero =>
   intro i hi
   obtain rfl:i=n:=by omega
   simp only [ZZ,he]
  | succ k ih =>
   intro i hi
   have:=ih (i+1) (by omega)
   rw [ZZ,hs i (by omega)]
   exact this
 exact Zd5 (key n 0 (by omega)) (by unfold big at *; omega)
theorem Zdx {ρ:Type}{step:Int→Option (Int⊕(Unit⊕ρ))}{n:Nat}{P:Nat→Bool}{f:Nat→ρ}(hn:n<big) (hs:∀ i:Nat,i<n→step i=some (if P i=true then .inr (.inr (f i)) else .inl ((i:Int)+1))) (he:step n=some (.inr (.inl ()))) :
  ZZ step big 0=some (match (List.range n).find? P with|some i=>.inr (f i)|none=>.inl ()):=by
 cases h:(List.range n).find? P with
 | none =>
  rw [List.find?_range_eq_none] at h
  refine ZbP (fun i:Nat=>(i:Int)) hn rfl (fun i hi=>?_) he
  have:=h i hi
  rw [hs i hi,if_neg (by simpa using this)]
  rfl
 | some j =>
  rw [List.find?_range_eq_some] at h
  obtain ⟨h1,h2,h3⟩:=h
  have hj:j<n:=by simpa using h2
  refine ZbP (fun i:Nat=>(i:Int)) (n:=j) (by omega) rfl (fun i hi=>?_) ?_
  ·have:=h3 i hi
   rw [hs i (by omega),if_neg (by simpa using this)]
   rfl
  ·rw [hs j hj,if_pos h1]
theorem ZaN {n:Nat}(h:n<18000000000000000000):n<big:=by unfold big;omega

def Ze4 (t:List Int):Nat→Int
 | 0=>0
 | n+1=>Ze4 t n+gi t n
theorem Zj5 {α:Type} [Inhabited α] {l:List α}{n:Nat}(h:n<l.length):l.take (n+1)=l.take n++[gi l n]:=by
 rw [List.take_add_one,List.getElem?_eq_getElem h,ZaM h];rfl
theorem Zcb {α:Type} [Inhabited α] {l m:List α}{i:Nat}(h:i<l.length):gi (l++m) i=gi l i:=by
 rw [ZaM (by simp;omega),ZaM h,List.getElem_append_left h]
theorem ZbN {α:Type} [Inhabited α] {l m:List α}{i:Nat}:gi (l++m) (l.length+i)=gi m i:=by
 simp [gi,List.getElem?_append_right]
theorem Zgo {α:Type} [Inhabited α] {l:List α}{i:Nat}(h:l.length≤i):gi l i=default:=by simp [gi,h]
theorem Zao {α:Type} [Inhabited α] {l:List α}{i:Nat}(h:i<l.length):gi l i∈l:=by rw [ZaM h];simp
theorem obs {α β:Type}(a:α) (f:α→Option β):(some a).bind f=f a:=rfl
theorem itn (n:Nat):((n:Nat):Int).toNat=n:=rfl
end Mu
