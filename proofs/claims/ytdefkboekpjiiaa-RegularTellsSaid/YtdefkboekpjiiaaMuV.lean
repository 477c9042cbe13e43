/- Tools for what is worked out: rounds, searches, sums. -/
import Derived.Test.YtdefkboekpjiiaaMuA
set_option linter.unusedVariables false
set_option linter.unusedSimpArgs false
namespace Mu

theorem Zt {α:Type} {c:Prop} [Decidable c] {a b:α} (h:c):(if decide c=true then a else b)=a:=if_pos (by simpa using h)
theorem Zu {α:Type} {c:Prop} [Decidable c] {a b:α} (h:¬c):(if decide c=true then a else b)=b:=if_neg (by simpa using h)
theorem zb {α:Type} {c:Prop} [Decidable c] {a b:α} (h:¬c):(if (!decide c)=true then a else b)=a:=if_pos (by simpa using h)
theorem ZP {α:Type} {c:Prop} [Decidable c] {a b:α} (h:c):(if (!decide c)=true then a else b)=b:=if_neg (by simpa using h)
theorem Zal {c:Prop} [Decidable c] (h:c):decide c=true:=by simpa using h
theorem Zah {c:Prop} [Decidable c] (h:¬c):decide c=false:=by simpa using h
theorem ZeR {α β:Type} {o:Option α} {f:α→Option β} {x:α} (h:o=some x):o.bind f=f x:=by rw [h]; rfl

theorem Zax {α:Type} {x:Int} {o:Option α} (h:-9223372036854775808≤x∧x≤9223372036854775807):ck (inK .i64 x) o=o:=Zn (ZpG h.1 h.2)
theorem Zb2 {α:Type} {x:Int} {o:Option α} (h:0≤x∧x≤255):ck (inK .u8 x) o=o:=Zn (Zq3 h.1 h.2)
theorem Zd5 {σ ρ:Type} {step:σ→Option (σ ⊕ ρ)}:∀ {n m:Nat} {s:σ} {r:ρ},ZL step n s=some r→n≤m→ZL step m s=some r
 | 0,_,_,_,h,_=>by cases h
 | n + 1,0,_,_,_,h=>by omega
 | n + 1,m + 1,s,r,h,hm=>by
  simp only [ZL] at h ⊢
  split at h
  ·rename_i s' hs
   exact Zd5 h (by omega)
  ·exact h
  ·cases h
theorem ZbS {σ ρ:Type} {step:σ→Option (σ ⊕ ρ)} (S:Nat→σ) {s0:σ} {n:Nat} {r:ρ} (hn:n < big) (h0:S 0=s0) (hs:∀ i,i < n→step (S i)=some (.inl (S (i + 1)))) (he:step (S n)=some (.inr r)):ZL step big s0=some r:=by
 subst h0
 have key:∀ k i,i + k=n→ZL step (k + 1) (S i)=some r:=by
  intro k
  induction k with
  | zero =>
   intro i hi
   obtain rfl:i=n:=by omega
   simp only [ZL,he]
  | succ k ih =>
   intro i hi
   have:=ih (i + 1) (by omega)
   rw [ZL,hs i (by omega)]
   exact this
 exact Zd5 (key n 0 (by omega)) (by unfold big at *; omega)
theorem ZcI {ρ:Type} {step:Int→Option (Int ⊕ (Unit ⊕ ρ))} {n:Nat} {P:Nat→Bool} {f:Nat→ρ} (hn:n < big) (hs:∀ i:Nat,i < n→step i=some (if P i=true then .inr (.inr (f i)) else .inl ((i:Int) + 1))) (he:step n=some (.inr (.inl ()))) :
  ZL step big 0=some (match (List.range n).find? P with | some i=>.inr (f i) | none=>.inl ()):=by
 cases h:(List.range n).find? P with
 | none =>
  rw [List.find?_range_eq_none] at h
  refine ZbS (fun i:Nat=>(i:Int)) hn rfl (fun i hi=>?_) he
  have:=h i hi
  rw [hs i hi,if_neg (by simpa using this)]
  rfl
 | some j =>
  rw [List.find?_range_eq_some] at h
  obtain ⟨h1,h2,h3⟩:=h
  have hj:j < n:=by simpa using h2
  refine ZbS (fun i:Nat=>(i:Int)) (n:=j) (by omega) rfl (fun i hi=>?_) ?_
  ·have:=h3 i hi
   rw [hs i (by omega),if_neg (by simpa using this)]
   rfl
  ·rw [hs j hj,if_pos h1]
theorem ZaX {n:Nat} (h:n < 18000000000000000000):n < big:=by unfold big; omega

def ZbH (t:List Int):Nat→Int
 | 0=>0
 | n + 1=>ZbH t n + gi t n
theorem Zlh {α:Type} [Inhabited α] {l:List α} {n:Nat} (h:n < l.length):l.take (n + 1)=l.take n++[gi l n]:=by
 rw [List.take_add_one,List.getElem?_eq_getElem h,ZbL h]; rfl
theorem ZcD {α:Type} [Inhabited α] {l m:List α} {i:Nat} (h:i < l.length):gi (l++m) i=gi l i:=by
 rw [ZbL (by simp; omega),ZbL h,List.getElem_append_left h]
theorem Zc8 {α:Type} [Inhabited α] {l m:List α} {i:Nat}:gi (l++m) (l.length + i)=gi m i:=by
 simp [gi,List.getElem?_append_right]
theorem Zel {α:Type} [Inhabited α] {l:List α} {i:Nat} (h:l.length≤i):gi l i=default:=by simp [gi,h]
theorem Zbu {α:Type} [Inhabited α] {l:List α} {i:Nat} (h:i < l.length):gi l i∈l:=by rw [ZbL h]; simp
end Mu
