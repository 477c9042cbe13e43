/- The evaluator and the model: each operation; a call; a piece of code whose order is fixed. -/
import Derived.Test.YtjhlegefgllihaaGreatMuEm
import Derived.LoopN
namespace Mu
open Go (IntKind BinOp UnOp Value World Addr TypeId Program Sem Result Next)
open Go.RowKit (Below)
set_option linter.unusedVariables false

section ops
variable {P:Program}{K:Fid}{ρ:Rho}{w0 w:World}{h:Hp}{fr:Fr}{a:Go.Act}{nr:Nat}{v:V}{up:List (Nat×Obj)}

theorem map_some{α β:Type}{x:Option α}{f:α->β}{y:β}(h:x.map f=some y):∃z,x=some z/\f z=y:=by
 cases x with
 |none=>cases h
 |some z=>exact⟨z,rfl,by simpa using h⟩

theorem ZgO{α:Type}{xs:Array α}{x:α}(h:xs.toList=[x]):xs=#[x]:=by cases xs;simpa using h
theorem ZlI{α:Type}{xs:Array α}{x y:α}(h:xs.toList=[x,y]):xs=#[x,y]:=by cases xs;simpa using h

theorem Zoo(hi:Inv K w0 ρ h w)(hf:FrRel K ρ fr a)(hn:h.m nr=none){o:Go.Oper}{c:Go.Call}{op:Op}(ho:o.op=.call c)(hop:Zlr P K c=some op)
  (ha:act h.m nr fr.ev op=some (v,up)):Ok P K w0 ρ h a o w v up:=by
 unfold Zlr at hop;split at hop
 .split at hop
  .simp only[Option.some.injEq]at hop;subst hop;simp[act]at ha
  .cases hop
 .cases hop
 .rename_i b hb;split at hop
  ·-- len
   rename_i x t e1 e2;split at hop<;>simp only[Option.some.injEq,reduceCtorEq]at hop<;>subst hop
   .rename_i h1 h2;exact ZqH hi hf ho hb (ZgO e1) (ZgO e2) h2 h1 ha
   .rename_i h1 h2;exact Zpp hi hf ho hb (ZgO e1) (ZgO e2) h2 h1 ha
   .rename_i h1 h2;exact ZoP hi hf ho hb (ZgO e1) (ZgO e2) h2 h1 ha
   .rename_i h2;exact Zoe hi hf ho hb (ZgO e1) (ZgO e2) h2 ha
  ·-- cap
   rename_i x t e1 e2;split at hop<;>simp only[Option.some.injEq,reduceCtorEq]at hop;subst hop;rename_i h1 h2;exact Zqw hi hf ho hb (ZgO e1) (ZgO e2) h2 h1 ha
  ·-- append
   rename_i x y t t' e1 e2;split at hop
   .rename_i hint;split at hop
    .rename_i h1 h2 h3;split at hop
     .rename_i i z hi' hz;split at hop
      .rename_i hc;simp only[Option.some.injEq]at hop;subst hop;exact ZmX hi hf hn ho hb (ZlI e1) (ZlI e2) h3 hint hi' hz hc.1 hc.2.1 hc.2.2 h1 h2 ha
      .cases hop
     .cases hop
    .cases hop
   split at hop
   .rename_i htt;subst htt;split at hop
    .rename_i h1 h2 h3;split at hop
     .rename_i i hi';split at hop
      .rename_i z hz;split at hop
       .rename_i hc;simp only[Option.some.injEq]at hop;subst hop;exact Zqp hi hf hn ho hb (ZlI e1) (ZlI e2) h3 hi' hc.1 hc.2.1 hz hc.2.2 h1 h2 ha
       .cases hop
      .cases hop
     .cases hop
    .cases hop
   .cases hop
  ·-- copy
   rename_i x y t t' e1 e2;split at hop
   .rename_i h1 h2 h3;split at hop
    .rename_i i hi';split at hop
     .rename_i hs;simp only[Option.some.injEq]at hop;subst hop;exact Zq0 hi hf ho hb (ZlI e1) (ZlI e2) h3 hi' hs h1 h2 ha
     .cases hop
    .cases hop
   .cases hop
  ·-- max
   rename_i xs hxs;obtain⟨ys,hy,rfl⟩:=map_some hop;exact Ztg hi hf ho hb hy ha
  .rename_i xs hxs;obtain⟨ys,hy,rfl⟩:=map_some hop;exact Ztf hi hf ho hb hy ha
  ·-- clear
   rename_i x t e1 e2;split at hop
   .rename_i h1 h2;split at hop
    .rename_i h3 h4;split at hop
     .rename_i hz;simp only[Option.some.injEq]at hop;subst hop;exact Zqy hi hf ho hb (ZgO e1) (ZgO e2) h2 h3 h4 hz h1 ha
     .cases hop
    .cases hop
   .cases hop
  .cases hop

theorem Zqm(hi:Inv K w0 ρ h w)(hf:FrRel K ρ fr a)(hn:h.m nr=none){o:Go.Oper}{op:Op}(hop:ZhX P K o.op=some op)
  (ha:act h.m nr fr.ev op=some (v,up)):Ok P K w0 ρ h a o w v up:=by
 cases ho:o.op<;>rw[ho]at hop<;>simp only[ZhX,reduceCtorEq]at hop
 case move x=>obtain⟨x',h1,rfl⟩:=map_some hop;exact ZpG hi hf (.inl ho) h1 ha
 case assign x=>obtain⟨x',h1,rfl⟩:=map_some hop;exact ZpG hi hf (.inr ho) h1 ha
 case pick c x y=>
  split at hop
  .rename_i h0 h1 h2;simp only[Option.some.injEq]at hop;subst hop;exact ZoY hi hf ho h0 h1 h2 ha
  .cases hop
 case alloc e=>obtain⟨z,h1,rfl⟩:=map_some hop;exact ZmA hi hn ho h1 ha
 case box e x=>obtain⟨x',h1,rfl⟩:=map_some hop;exact Zqs hi hf hn ho h1 ha
 case build t ps=>
  split at hop
  .rename_i z l h1 h2;split at hop
   .rename_i fs hu;split at hop
    .rename_i hall;simp only[Option.some.injEq]at hop;subst hop;exact ZgP hi hf ho hu (λf hf'=>List.all_eq_true.1 hall f hf') h1 h2 ha
    .cases hop
   .rename_i n e hu;simp only[Option.some.injEq]at hop;subst hop;have h2':=h2;simp only[ZeP,hu]at h2';split at h2'
    .rename_i i hi';exact Zho hi hf ho hu hi' h1 h2 ha
    .cases h2'
   .cases hop
  .cases hop
 case buildSlice t len ps=>
  split at hop
  .rename_i e hu;split at hop
   .rename_i i z h1 h2;split at hop
    .rename_i hc;obtain⟨l,h3,rfl⟩:=map_some hop;exact Zqt hi hf hn ho hu h1 h2 hc.1 hc.2.1 hc.2.2 h3 ha
    .cases hop
   .cases hop
  .cases hop
 case load t x=>
  split at hop
  .rename_i i d x' h1 h2 h3;simp only[Option.some.injEq]at hop;subst hop;exact ZsN hi hf ho h1 h2 h3 ha
  .cases hop
 case store t x y=>
  split at hop
  .rename_i h1 h2 h3;simp only[Option.some.injEq]at hop;subst hop;exact Zt3 hi hf ho h1 h2 h3 ha
  .cases hop
 case nilCheck x=>obtain⟨x',h1,rfl⟩:=map_some hop;exact Znr hi hf ho h1 ha
 case binOp op' t x y t'=>
  split at hop
  .rename_i x' y' h1 h2;split at hop
   .rename_i he;subst he;obtain⟨k,h3,rfl⟩:=map_some hop;exact Zp6 hi hf ho (.inl rfl) h1 h2 h3 (by simpa using ha)
   .rename_i he;split at hop
    .rename_i he';subst he';obtain⟨k,h3,rfl⟩:=map_some hop;exact Zp6 hi hf ho (.inr rfl) h1 h2 h3 (by simpa using ha)
    .rename_i he';simp only[Option.some.injEq]at hop;subst hop;exact Zqr hi hf ho ⟨he,he'⟩ h1 h2 ha
  .cases hop
 case makeMap t r=>
  cases r with
  |none=>simp only[Option.some.injEq]at hop;subst hop;exact ZqX hi hn ho ha
  |some r=>cases hop
 case lookup t x y c=>
  split at hop
  .rename_i kt et x' y' hu h1 h2;split at hop
   .rename_i ks z hk hz;simp only[Option.some.injEq]at hop;subst hop;obtain⟨i,zv,g1,g2,g3⟩:=ZkE (K:=K) (ρ:=ρ) hz;exact ZqZ hi hf ho hu (Zlt hk) h1 h2 g1 g2 g3 ha
   .cases hop
  .cases hop
 case mapUpdate t x y u=>
  split at hop
  .rename_i kt et x' y' u' hu h1 h2 h3;obtain⟨ks,hk,rfl⟩:=map_some hop;exact Zra hi hf ho hu (Zlt hk) h1 h2 h3 ha
  .cases hop
 case unOp op' t x=>obtain⟨x',h1,rfl⟩:=map_some hop;exact ZtK hi hf ho h1 ha
 case convert s d x=>
  split at hop
  .rename_i h1 h2 h3;simp only[Option.some.injEq]at hop;subst hop;exact Zou hi hf ho h1 h2 h3 ha
  .cases hop
 case makeFunc fn first caps=>
  cases fn<;>simp only[reduceCtorEq]at hop;split at hop
  .rename_i hfirst;split at hop
   .rename_i id xs h1 h2;simp only[Option.some.injEq]at hop;subst hop;exact Zqx hi hf ho hfirst h1 h2 ha
   .cases hop
  .split at hop
   .rename_i hcaps;split at hop
    .rename_i id xs h1 h2;simp only[Option.some.injEq]at hop;subst hop;exact Zos hi hf ho hcaps h1 h2 ha
    .cases hop
   .cases hop
 case makeSlice t l c=>
  split at hop
  .rename_i e l' c' hu h1 h2;split at hop
   .rename_i i z h3 h4;split at hop
    .rename_i hc;simp only[Option.some.injEq]at hop;subst hop;exact ZqY hi hf hn ho hu h1 h2 h3 h4 hc.1 hc.2.1 hc.2.2 ha
    .cases hop
   .cases hop
  .cases hop
 case slice t x lo hi' mx=>
  split at hop
  .rename_i e x' lo' hi'' mx' hu h1 h2 h3 h4;split at hop
   .rename_i i h5;split at hop
    .cases hop
    .rename_i hc;simp only[Option.some.injEq]at hop;subst hop;refine Zr1 hi hf ho hu h1 h2 h3 h4 h5 (λhm=>?_) ha;obtain⟨q,rfl⟩:=Option.isSome_iff_exists.1 hm;have:mx'.isSome=true:=by
      simp only[nXo]at h4;obtain⟨z,_,rfl⟩:=map_some h4;rfl
     simp only[this,Bool.true_and,Bool.not_eq_true',Bool.not_eq_false]at hc;exact hc
   .cases hop
  .rename_i n e x' lo' hi'' mx' hu h1 h2 h3 h4;split at hop
   .rename_i i h5;split at hop
    .cases hop
    .rename_i hc;split at hop
     .rename_i hs;simp only[Option.some.injEq]at hop;subst hop;refine Zpo hi hf ho hu h1 h2 h3 h4 h5 hs (λhm=>?_) ha;obtain⟨q,rfl⟩:=Option.isSome_iff_exists.1 hm;have:mx'.isSome=true:=by
       simp only[nXo]at h4;obtain⟨z,_,rfl⟩:=map_some h4;rfl
      simp only[this,Bool.true_and,Bool.not_eq_true',Bool.not_eq_false]at hc;exact hc
     .cases hop
   .cases hop
  .cases hop
 case fieldAddr t x k=>
  split at hop
  .rename_i fs x' hu h1;split at hop
   .rename_i f h2;split at hop
    .rename_i i h3;split at hop
     .rename_i h4;simp only[Option.some.injEq]at hop;subst hop;exact ZsH hi hf ho hu h1 h2 h3 h4 ha
     .cases hop
    .cases hop
   .cases hop
  .cases hop
 case field t x k=>
  split at hop
  .rename_i fs x' hu h1;split at hop
   .rename_i f h2;split at hop
    .rename_i i d h3 h4;simp only[Option.some.injEq]at hop;subst hop;exact Zq6 hi hf ho hu h1 h2 h3 h4 ha
    .cases hop
   .cases hop
  .cases hop
 case indexAddr t x y=>
  split at hop
  .rename_i e x' y' hu h1 h2;split at hop
   .rename_i i h3;simp only[Option.some.injEq]at hop;subst hop;exact ZqF hi hf ho hu h1 h2 h3 ha
   .cases hop
  .rename_i n e x' y' hu h1 h2;split at hop
   .rename_i i h3;simp only[Option.some.injEq]at hop;subst hop;exact Zo7 hi hf ho hu h1 h2 h3 ha
   .cases hop
  .cases hop
 case index t x y=>
  split at hop
  .rename_i n e x' y' hu h1 h2;split at hop
   .rename_i i d h3 h4;simp only[Option.some.injEq]at hop;subst hop;exact ZsL hi hf ho hu h1 h2 h3 h4 ha
   .cases hop
  .rename_i x' y' hu h1 h2;simp only[Option.some.injEq]at hop;subst hop;exact ZqG hi hf ho hu h1 h2 ha
  .cases hop
 case extract x k=>obtain⟨x',h1,rfl⟩:=map_some hop;exact Zq5 hi hf ho h1 ha
 case call c=>exact Zoo hi hf hn ho hop ha

end ops
end Mu
