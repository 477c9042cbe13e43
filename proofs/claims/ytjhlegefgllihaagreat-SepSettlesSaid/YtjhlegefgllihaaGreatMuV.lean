/- Tools for what is worked out: rounds, searches, sums. -/
import Derived.Test.YtjhlegefgllihaaGreatMuA
set_option linter.unusedVariables false
set_option linter.unusedSimpArgs false
namespace Mu

theorem Zo{α:Type}{c:Prop}[Decidable c]{a b:α}(h:c):(if decide c=true then a else b)=a:=if_pos (by simpa using h)
theorem Zq{α:Type}{c:Prop}[Decidable c]{a b:α}(h:¬c):(if decide c=true then a else b)=b:=if_neg (by simpa using h)
theorem Zcc{α:Type}{c:Prop}[Decidable c]{a b:α}(h:¬c):(if(!decide c)=true then a else b)=a:=if_pos (by simpa using h)
theorem Zb2{α:Type}{c:Prop}[Decidable c]{a b:α}(h:c):(if(!decide c)=true then a else b)=b:=if_neg (by simpa using h)
theorem Zct{c:Prop}[Decidable c](h:c):decide c=true:=by simpa using h
theorem Zdh{c:Prop}[Decidable c](h:¬c):decide c=false:=by simpa using h
theorem ZgA{α β:Type}{o:Option α}{f:α->Option β}{x:α}(h:o=some x):o.bind f=f x:=by rw[h];rfl

theorem ZfV{α:Type}{x:Int}{o:Option α}(h:-9223372036854775808<=x/\x<=9223372036854775807):ck (inK .i64 x) o=o:=Zf (ZsK h.1 h.2)
theorem ZsA{α:Type}{x:Int}{o:Option α}(h:0<=x/\x<=255):ck (inK .u8 x) o=o:=Zf (Zu5 h.1 h.2)
theorem ZcT{σ ρ:Type}{step:σ->Option (σ⊕ρ)}:∀{n m:Nat}{s:σ}{r:ρ},Zn step n s=some r->n<=m->Zn step m s=some r
 |0,_,_,_,h,_=>by cases h
 |n+1,0,_,_,_,h=>by omega
 |n+1,m+1,s,r,h,hm=>by
  simp only[Zn]at h⊢;split at h
  .rename_i s' hs;exact ZcT h (by omega)
  .exact h
  .cases h
theorem Zaj{σ ρ:Type}{step:σ->Option (σ⊕ρ)}(S:Nat->σ){s0:σ}{n:Nat}{r:ρ}(hn:n<big)(h0:S 0=s0)(hs:∀i,i<n->step (S i)=some (.inl (S (i+1))))(he:step (S n)=some (.inr r)):Zn step big s0=some r:=by
 subst h0;have key:∀k i,i+k=n->Zn step (k+1) (S i)=some r:=by
  intro k
  induction k with
  |zero=>
   intro i hi;obtain rfl:i=n:=by omega
   simp only[Zn,he]
  |succ k ih=>
   intro i hi;have:=ih (i+1) (by omega);rw[Zn,hs i (by omega)];exact this
 exact ZcT (key n 0 (by omega)) (by unfold big at*;omega)
theorem Zc3{ρ:Type}{step:Int->Option (Int⊕(Unit⊕ρ))}{n:Nat}{P:Nat->Bool}{f:Nat->ρ}(hn:n<big)(hs:∀i:Nat,i<n->step i=some (if P i=true then .inr (.inr (f i))else .inl ((i:Int)+1)))(he:step n=some (.inr (.inl ()))) :
  Zn step big 0=some (match(List.range n).find? P with|some i=>.inr (f i)|none=>.inl ()):=by
 cases h:(List.range n).find? P with
 |none=>
  rw[List.find?_range_eq_none]at h;refine Zaj (λi:Nat=>(i:Int)) hn rfl (λi hi=>?_) he;have:=h i hi;rw[hs i hi,if_neg (by simpa using this)];rfl
 |some j=>
  rw[List.find?_range_eq_some]at h;obtain⟨h1,h2,h3⟩:=h;have hj:j<n:=by simpa using h2
  refine Zaj (λi:Nat=>(i:Int)) (n:=j) (by omega) rfl (λi hi=>?_) ?_
  .have:=h3 i hi;rw[hs i (by omega),if_neg (by simpa using this)];rfl
  .rw[hs j hj,if_pos h1]
theorem zy{n:Nat}(h:n<18000000000000000000):n<big:=by unfold big;omega

def Zee(t:List Int):Nat->Int
 |0=>0
 |n+1=>Zee t n+gi t n
theorem Zc9{α:Type}[Inhabited α]{l:List α}{n:Nat}(h:n<l.length):l.take (n+1)=l.take n++[gi l n]:=by
 rw[List.take_add_one,List.getElem?_eq_getElem h,zO h];rfl
theorem ZbJ{α:Type}[Inhabited α]{l m:List α}{i:Nat}(h:i<l.length):gi (l++m) i=gi l i:=by
 rw[zO (by simp;omega),zO h,List.getElem_append_left h]
theorem Zbo{α:Type}[Inhabited α]{l m:List α}{i:Nat}:gi (l++m) (l.length+i)=gi m i:=by
 simp[gi,List.getElem?_append_right]
theorem ZeN{α:Type}[Inhabited α]{l:List α}{i:Nat}(h:l.length<=i):gi l i=default:=by simp[gi,h]
theorem zh{α:Type}[Inhabited α]{l:List α}{i:Nat}(h:i<l.length):gi l i∈l:=by rw[zO h];simp
theorem obs{α β:Type}(a:α)(f:α->Option β):(some a).bind f=f a:=rfl
theorem itn(n:Nat):((n:Nat):Int).toNat=n:=rfl
theorem evl:type_of% @Zf/\type_of% @ZfV/\type_of% @ZsA/\type_of% @Zo/\type_of% @Zq/\type_of% @Zcc/\type_of% @Zb2/\type_of% @Zct/\type_of% @Zdh/\type_of% @Option.bind_some.{0,0}/\type_of% @Int.toNat_natCast/\type_of% @List.length_append.{0}/\type_of% @List.length_cons.{0}/\type_of% @List.length_nil.{0}/\type_of% @Nat.zero_add/\type_of% @if_true.{1}/\type_of% @if_false.{1}/\type_of% @Bool.false_eq_true/\type_of% @Bool.not_true/\type_of% @Bool.not_false/\type_of% @Bool.true_and/\type_of% @Bool.false_and/\type_of% @Bool.and_true/\type_of% @Bool.and_false/\type_of% @Bool.true_or/\type_of% @Bool.false_or/\type_of% @Bool.or_true/\type_of% @Bool.or_false:=⟨@Zf,@ZfV,@ZsA,@Zo,@Zq,@Zcc,@Zb2,@Zct,@Zdh,@Option.bind_some.{0,0},@Int.toNat_natCast,@List.length_append.{0},@List.length_cons.{0},@List.length_nil.{0},@Nat.zero_add,@if_true.{1},@if_false.{1},@Bool.false_eq_true,@Bool.not_true,@Bool.not_false,@Bool.true_and,@Bool.false_and,@Bool.and_true,@Bool.and_false,@Bool.true_or,@Bool.false_or,@Bool.or_true,@Bool.or_false⟩
end Mu
