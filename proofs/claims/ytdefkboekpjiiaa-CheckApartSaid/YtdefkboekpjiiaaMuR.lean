/- What comes in, as the evaluator has it: numbers, rows of these, structs of such. -/
import Derived.Test.YtdefkboekpjiiaaMuG
import Derived.Test.YtdefkboekpjiiaaMuA
import Derived.Deep.Slices
import Derived.OpenShut
import Derived.WideShapes
import Derived.ChangeShapes
set_option linter.unusedVariables false
set_option linter.unusedSimpArgs false
set_option linter.unnecessarySimpa false
namespace Mu
open Go (IntKind BinOp UnOp Value World Addr TypeId Program Lit DataW MemPlace)

def Zdt (P:Program) (g:TypeId→Option (List (Option IntKind))):List Go.Field→Nat→Option (List (Option IntKind))
 | [],_=>some []
 | f::fs,off=>match g f.type with
  | some l=>if f.offset=off∧P.cellsOf f.type=l.length then (match Zdt P g fs (off+l.length) with|some r=>some (l++r)|none=>none) else none
  | none=>none
def ZdO (P:Program):Nat→TypeId→Option (List (Option IntKind))
 | 0,_=>none
 | d+1,t=>match P.underlying t with
  | some .bool=>if P.cellsOf t=1 then some [none] else none
  | some (.int k)=>if P.cellsOf t=1 then some [some k] else none
  | some (.struct fs)=>match Zdt P (ZdO P d) fs.toList 0 with
   | some l=>if P.cellsOf t=l.length then some l else none
   | none=>none
  | some (.array n e)=>match ZdO P d e with
   | some l=>if P.cellsOf t=n*l.length∧P.cellsOf e=l.length then some (List.replicate n l).flatten else none
   | none=>none
  | _=>none

inductive OkL:List (Option IntKind)→List Value→Prop
 | nil:OkL [] []
 | i {k:IntKind}{n:Int}{ks:List (Option IntKind)}{cs:List Value}(h:(Lit.int k n).wf=true) (t:OkL ks cs):OkL (some k::ks) (.int k n::cs)
 | b {x:Bool}{ks:List (Option IntKind)}{cs:List Value}(t:OkL ks cs):OkL (none::ks) (.bool x::cs)

theorem OkL.length {ks:List (Option IntKind)}{cs:List Value}(h:OkL ks cs):cs.length=ks.length:=by
 induction h with
 | nil=>rfl
 | i _ _ ih=>simp [ih]
 | b _ ih=>simp [ih]
theorem OkL.append {ks ks':List (Option IntKind)}{cs cs':List Value}(h:OkL ks cs) (h':OkL ks' cs'):OkL (ks++ks') (cs++cs'):=by
 induction h with
 | nil=>exact h'
 | i hw _ ih=>exact .i hw ih
 | b _ ih=>exact .b ih

section op
variable {H:Type}{enc:TypeId×Value→H}{P:Program}{w:World}{base:Nat}{spare:Nat→Bool}{held:Bool}

theorem ZeJ {g:TypeId→Option (List (Option IntKind))}{n:Nat}{cs:List Value}(hg:∀ t ks,g t=some ks→∀ cs x,DataW.trod enc P w base spare held n t cs=some x→OkL ks cs) :
  ∀ (fs:List Go.Field) (off:Nat) (ks:List (Option IntKind)),Zdt P g fs off=some ks→off+ks.length≤cs.length →
   (∀ f∈fs,∃ x,DataW.trod enc P w base spare held n f.type ((cs.drop f.offset).take (P.cellsOf f.type))=some x)→OkL ks ((cs.drop off).take ks.length)
 | [],off,ks,h,hl,hf=>by
  simp only [Zdt,Option.some.injEq] at h;subst h;simpa using OkL.nil
 | f::fs,off,ks,h,hl,hf=>by
  simp only [Zdt] at h
  cases hg1:g f.type with
  | none=>simp [hg1] at h
  | some l =>
   simp only [hg1] at h;split at h
   ·rename_i hc
    cases hr:Zdt P g fs (off+l.length) with
    | none=>simp [hr] at h
    | some r =>
     simp only [hr,Option.some.injEq] at h;subst h;obtain ⟨x,hx⟩:=hf f (by simp);have h1:=hg _ _ hg1 _ _ hx;rw [hc.1,hc.2] at h1;have h2:=ZeJ hg fs (off+l.length) r hr (by simpa [Nat.add_assoc] using hl) fun f' hf'=>hf f' (by simp [hf']);have:=h1.append h2;rw [List.length_append,List.take_add,List.drop_drop];exact this
   ·cases h

theorem Zff:∀ (d:Nat) (t:TypeId) (ks:List (Option IntKind)),ZdO P d t=some ks→P.cellsOf t=ks.length∧∀ (n:Nat) (cs:List Value) (x:DataW H×List MemPlace),DataW.trod enc P w base spare held n t cs=some x→OkL ks cs
 | 0,t,ks,h=>by simp [ZdO] at h
 | d+1,t,ks,h=>by
  simp only [ZdO] at h;split at h
  ·rename_i hu;split at h
   ·rename_i hc;simp only [Option.some.injEq] at h;subst h;refine ⟨hc,fun n cs x hx=>?_⟩
    cases n with
    | zero=>simp [DataW.trod] at hx
    | succ n =>
     unfold DataW.trod at hx;rw [hu] at hx;split at hx<;>simp_all;exact .b .nil
   ·cases h
  ·rename_i k hu;split at h
   ·rename_i hc;simp only [Option.some.injEq] at h;subst h;refine ⟨hc,fun n cs x hx=>?_⟩
    cases n with
    | zero=>simp [DataW.trod] at hx
    | succ n =>
     unfold DataW.trod at hx;rw [hu] at hx;split at hx<;>simp_all;obtain ⟨h1,_⟩:=hx;obtain ⟨h1,h2⟩:=h1;subst h1;exact .i h2 .nil
   ·cases h
  ·rename_i fs hu
   cases hf:Zdt P (ZdO P d) fs.toList 0 with
   | none=>simp [hf] at h
   | some l =>
    simp only [hf] at h;split at h
    ·rename_i hc;simp only [Option.some.injEq] at h;subst h;refine ⟨hc,fun n cs x hx=>?_⟩;obtain ⟨xs,m,_,rfl,hl,hlen,hfs⟩:=DataW.trod_struct hu hx;have:=ZeJ (enc:=enc) (w:=w) (base:=base) (spare:=spare) (held:=held) (n:=m) (cs:=cs) (fun t ks hk=>(Zff d t ks hk).2 m) fs.toList 0 l hf (by omega) (fun f hm=>by
      obtain ⟨i,hi,rfl⟩:=List.getElem_of_mem hm;have h1:=hfs i fs.toList[i] (by simp);rw [List.getElem?_eq_getElem (by rw [hlen];simpa using hi)] at h1;exact ⟨_,h1⟩)
     rwa [List.drop_zero,List.take_of_length_le (by omega)] at this
    ·cases h
  ·rename_i n e hu
   cases he:ZdO P d e with
   | none=>simp [he] at h
   | some l =>
    simp only [he] at h;split at h
    ·rename_i hc;simp only [Option.some.injEq] at h;subst h;refine ⟨by rw [hc.1];simp,fun m cs x hx=>?_⟩;obtain ⟨xs,m',_,rfl,hl,hlen,hfs⟩:=DataW.trod_array hu hx;have key:∀ j,j≤n→OkL (List.replicate j l).flatten (cs.take (j*l.length)):=by
      intro j
      induction j with
      | zero=>intro _;simpa using OkL.nil
      | succ j ih =>
       intro hj;have h1:=hfs j (by omega);rw [List.getElem?_eq_getElem (by omega)] at h1;have h2:=(Zff d e l he).2 m' _ _ h1;rw [hc.2] at h2;rw [List.replicate_succ',List.flatten_append,Nat.add_mul,Nat.one_mul,List.take_add];simpa using (ih (by omega)).append h2
     have:=key n (Nat.le_refl _);rwa [List.take_of_length_le (by omega)] at this
    ·cases h
  ·cases h
end op

def toV:Value→V
 | .int k n=>.i k n
 | .bool x=>.b x
 | _=>.un
theorem OkL.rel {K:Fid}{ρ:Rho}{ks:List (Option IntKind)}{cs:List Value}(h:OkL ks cs):RelL K ρ (cs.map toV) cs:=by
 induction h with
 | nil=>exact .nil
 | i hw _ ih=>exact .cons (.i _ _) ih
 | b _ ih=>exact .cons (.b _) ih
theorem RelL.at {K:Fid}{ρ:Rho}{vs:List V}{xs:List Value}(h:RelL K ρ vs xs) {i:Nat}{v:V}(hi:vs[i]?=some v):∃ x,xs[i]?=some x∧Rel K ρ v x:=by
 induction vs generalizing xs i with
 | nil=>simp at hi
 | cons a l ih =>
  cases h with
  | cons h t =>
   cases i with
   | zero=>simp at hi;subst hi;exact ⟨_,rfl,h⟩
   | succ i=>exact ih t (by simpa using hi)

def Wf (k:IntKind) (n:Int):Prop:=(Lit.int k n).wf=true
theorem Wf.i64 {n:Int}(h:Wf .i64 n):-9223372036854775808≤n∧n≤9223372036854775807:=Zi6 h
theorem Wf.u8 {n:Int}(h:Wf .u8 n):0≤n∧n≤255:=Zjk h
theorem Wf.i8 {n:Int}(h:Wf .i8 n):-128≤n∧n≤127:=Zjj h

theorem OkL.inv_i {k:IntKind}{ks:List (Option IntKind)}{cs:List Value}(h:OkL (some k::ks) cs):∃ n cs',cs=.int k n::cs'∧Wf k n∧OkL ks cs':=by
 cases h with
 | i hw t=>exact ⟨_,_,rfl,hw,t⟩
theorem OkL.inv_b {ks:List (Option IntKind)}{cs:List Value}(h:OkL (none::ks) cs):∃ x cs',cs=.bool x::cs'∧OkL ks cs':=by
 cases h with
 | b t=>exact ⟨_,_,rfl,t⟩
theorem OkL.inv_n {cs:List Value}(h:OkL [] cs):cs=[]:=by cases h;rfl

section st
variable {H:Type}{enc:TypeId×Value→H}{P:Program}{w:World}{base:Nat}{spare:Nat→Bool}{held:Bool}
theorem ZdH {t:TypeId}{ks:List (Option IntKind)}{n d:Nat}{cs:List Value}{x:DataW H×List MemPlace}(h:DataW.trod enc P w base spare held n t cs=some x) (hk:ZdO P d t=some ks):OkL ks cs:=(Zff d t ks hk).2 n cs x h
end st
theorem Zdv {P:Program}{w:World}{r:Go.Reach}{base:Nat}{t:TypeId}{v:Value}(h:Value.okWide P w r base t v) (ht:(∃ fs,P.underlying t=some (.struct fs))∨∃ n e,P.underlying t=some (.array n e)):∃ cs,v=.agg cs:=by
 rcases ht with ⟨fs,ht⟩|⟨n,e,ht⟩ <;>
 ·simp only [Value.okWide,ht] at h;obtain ⟨cs,h1,_⟩:=h;exact ⟨cs,h1⟩
theorem Zfc {K:Fid}{ρ:Rho}{α:Type}{E:Enc α}{x:α}{ks:List (Option IntKind)}{cs:List Value}(h:OkL ks cs) (hx:E.c x=cs.map toV):RelL K ρ (E.c x) cs:=hx ▸ h.rel
end Mu
