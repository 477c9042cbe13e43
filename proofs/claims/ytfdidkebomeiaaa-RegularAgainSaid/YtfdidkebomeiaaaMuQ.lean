/- Steps: one operation, one branch, a loop, a call. -/
import Derived.Test.YtfdidkebomeiaaaMuP
set_option linter.unusedSimpArgs false
set_option linter.unusedVariables false
namespace Mu
open Go (IntKind BinOp UnOp)
variable {N:Prog}

section steps
variable {Q:Ex→Fr→Hp→Prop}{fr:Fr}{h h':Hp}
theorem ZQ {a b:Code}(hk:W N a (Ex.then (W N b Q) Q) fr h):W N (.seq a b) Q fr h:=Znv.2 hk
theorem Zah {ops:List Oper}(hk:WO N ops (Q .normal) fr h):W N (.region ops) Q fr h:=Zj9.2 hk
theorem Zat {id:Nat}{a:Code}(hk:W N a (Ex.blk id Q) fr h):W N (.block id a) Q fr h:=ZkV.2 hk
theorem Zc0 (hk:Q .normal fr h):W N .skip Q fr h:=Zmj.2 hk
theorem Zbx {id:Nat}(hk:Q (.exit id) fr h):W N (.exit id) Q fr h:=Zmi.2 hk
theorem zV (hk:Q .ret fr h):W N .ret Q fr h:=Znu.2 hk
theorem Znt {c:Opd}{a b:Code}{t:Bool}(hc:fr.ev c=.b t) (ht:t=true) (hk:W N a Q fr h):W N (.cond c a b) Q fr h:=(Zij hc).2 (by rw [if_pos ht];exact hk)
theorem Zji {c:Opd}{a b:Code}{t:Bool}(hc:fr.ev c=.b t) (ht:t=false) (hk:W N b Q fr h):W N (.cond c a b) Q fr h:=(Zij hc).2 (by rw [ht];exact hk)
theorem ZgZ {ops:List Oper}{prs:List (Nat×Nat)}(hk:WDQ N h.n (Ziy 0 ops) (Q .normal) fr (h.bump ops.length)):W N (.draw ops prs) Q fr h:=ZkW hk
theorem Zg5 {ops:List Oper}{prs:List (Nat×Nat)}(hk:WD N h.n (Ziy 0 ops) (fun fr' h' ts=>(∀ q∈prs,(ZeS ts q.1).apart (ZeS ts q.2))∧Q .normal fr' h') fr (h.bump ops.length)):W N (.draw ops prs) Q fr h:=ZiM.2 hk
end steps

section ops
variable {Q:Fr→Hp→Prop}{fr:Fr}{h h':Hp}{d:Option Nat}{op:Op}{l:List Oper}{v:V}{up:List (Nat×Obj)}
theorem Znr (ha:act h.m h.n fr.ev op=some (v,up)) (hu:h.puts up=h') (hk:WO N l Q (fr.put d v) h'):WO N (⟨d,op,none⟩::l) Q fr h:=by
 have hop:∀ f args,op≠.call f args:=by rintro f args rfl;cases ha
 subst hu;rw [Zj8 hop,ha];exact hk
theorem Ze (ha:act h.m h.n fr.ev op=some (v,[])) (hk:WO N l Q (fr.put d v) h):WO N (⟨d,op,none⟩::l) Q fr h:=Znr ha rfl hk
theorem Zaq {f:Opd}{args:List Opd}{id:Nat}{caps vs:List V}(hf:fr.ev f=.f id caps) (hv:args.map fr.ev++caps=vs) (hi:Is N id vs h v h') (hk:WO N l Q (fr.put d v) h'):WO N (⟨d,.call f args,none⟩::l) Q fr h:=by
 subst hv;exact (ZiK hf).2 ((hi _).2 hk)
theorem ZC {j:Nat}{w t:Bool}(hj:fr j=.b t) (ht:t=w) (hk:WO N (⟨d,op,none⟩::l) Q fr h):WO N (⟨d,op,some (j,w)⟩::l) Q fr h:=(ZhE hj).2 (by rw [if_pos ht];exact hk)
theorem Zt {j:Nat}{w t:Bool}(hj:fr j=.b t) (ht:t=!w) (hk:WO N l Q (fr.put d .un) h):WO N (⟨d,op,some (j,w)⟩::l) Q fr h:=(ZhE hj).2 (by subst ht;rw [if_neg (by cases w<;>decide)];exact hk)
theorem ZhF {j:Nat}{w:Bool}(hj:fr j=.un) (hk:WO N l Q (fr.put d .un) h):WO N (⟨d,op,some (j,w)⟩::l) Q fr h:=by
 rw [ZkU,Zfm,hj];exact hk
theorem zK {P:V→Hp→Prop}(hx:∃ v k' up,act h.m h.n fr.ev op=some (v,up)∧h.puts up=k'∧P v k') (hk:∀ v k',P v k'→WO N l Q (fr.put d v) k'):WO N (⟨d,op,none⟩::l) Q fr h:=by
 obtain ⟨v,k',up,ha,hu,hP⟩:=hx;exact Znr ha hu (hk v k' hP)
theorem Zo (hk:Q fr h):WO N [] Q fr h:=Zmg.2 hk
end ops

section draws
variable {Q:Fr→Hp→Prop}{fr:Fr}{h h':Hp}{d:Option Nat}{op:Op}{base j:Nat}{l:List (Nat×Oper)}{v:V}{up:List (Nat×Obj)}
theorem ZH (ho:op.looks=true) (ha:act h.m (base+j) fr.ev op=some (v,[])) (hk:WDQ N base l Q (fr.put d v) h):WDQ N base ((j,⟨d,op,none⟩)::l) Q fr h:=by
 rw [ZfW];unfold ZhC;rw [ha];simp only [ZiH,ho,List.isEmpty_nil,Bool.and_self,Znl,if_true,Hp.puts_nil];exact hk
theorem Z1 {g:Nat}{w t:Bool}(hj:fr g=.b t) (ht:t=w) (hk:WDQ N base ((j,⟨d,op,none⟩)::l) Q fr h):WDQ N base ((j,⟨d,op,some (g,w)⟩)::l) Q fr h:=by
 rw [ZfX,Zfm,hj,V.is_b,ht,beq_self_eq_true,if_pos rfl,← ZfW];exact hk
theorem Zp {g:Nat}{w t:Bool}(hj:fr g=.b t) (ht:t=!w) (hk:WDQ N base l Q (fr.put d .un) h):WDQ N base ((j,⟨d,op,some (g,w)⟩)::l) Q fr h:=by
 rw [ZfX,Zfm,hj,V.is_b,ht,if_neg (by cases w<;>decide)];exact hk
theorem ZbT {g:Nat}{w:Bool}(hj:fr g=.un) (hk:WDQ N base l Q (fr.put d .un) h):WDQ N base ((j,⟨d,op,some (g,w)⟩)::l) Q fr h:=by
 rw [ZfX,Zfm,hj,V.is_un,if_neg (by decide)];exact hk
theorem zF (hk:Q fr h):WDQ N base [] Q fr h:=ZkS.2 hk
variable {Q:Fr→Hp→List (Nat×Tr)→Prop}
theorem Znp (ha:act h.m (base+j) fr.ev op=some (v,up)) (hu:h.puts up=h') (hk:WD N base l (fun fr' h' ts=>Q fr' h' ((j,.op op.looks up.isEmpty (ZaE fr.ev op) (base+j))::ts)) (fr.put d v) h'):WD N base ((j,⟨d,op,none⟩)::l) Q fr h:=by
 have hop:∀ f args,op≠.call f args:=by rintro f args rfl;cases ha
 subst hu;rw [Zii hop,ha];exact hk
theorem ZeW {P:V→Hp→Prop}(hx:∃ v k' up,act h.m (base+j) fr.ev op=some (v,up)∧h.puts up=k'∧P v k') (hk:∀ v k' z,P v k'→WD N base l (fun fr' h' ts=>Q fr' h' ((j,.op op.looks z (ZaE fr.ev op) (base+j))::ts)) (fr.put d v) k'):WD N base ((j,⟨d,op,none⟩)::l) Q fr h:=by
 obtain ⟨v,k',up,ha,hu,hP⟩:=hx;exact Znp ha hu (hk v k' _ hP)
theorem zm (ha:act h.m (base+j) fr.ev op=some (v,[])) (hk:WD N base l (fun fr' h' ts=>Q fr' h' ((j,.op op.looks true (ZaE fr.ev op) (base+j))::ts)) (fr.put d v) h):WD N base ((j,⟨d,op,none⟩)::l) Q fr h:=Znp ha rfl hk
theorem Zj6 {f:Opd}{args:List Opd}{id:Nat}{caps vs:List V}(hf:fr.ev f=.f id caps) (hv:args.map fr.ev++caps=vs) (hi:Is N id vs h v h') (hk:WD N base l (fun fr' h'' ts=>Q fr' h'' ((j,.call fun r=>h'.m r≠h.m r)::ts)) (fr.put d v) h'):WD N base ((j,⟨d,.call f args,none⟩)::l) Q fr h:=by
 subst hv;exact (ZiI hf).2 ((hi _).2 hk)
theorem Zbo {g:Nat}{w t:Bool}(hj:fr g=.b t) (ht:t=w) (hk:WD N base ((j,⟨d,op,none⟩)::l) Q fr h):WD N base ((j,⟨d,op,some (g,w)⟩)::l) Q fr h:=(ZhD hj).2 (by rw [if_pos ht];exact hk)
theorem z3 {g:Nat}{w t:Bool}(hj:fr g=.b t) (ht:t=!w) (hk:WD N base l (fun fr' h' ts=>Q fr' h' ((j,.no)::ts)) (fr.put d .un) h):WD N base ((j,⟨d,op,some (g,w)⟩)::l) Q fr h:=(ZhD hj).2 (by subst ht;rw [if_neg (by cases w<;>decide)];exact hk)
theorem Zcq (hk:Q fr h []):WD N base [] Q fr h:=Zj7.2 hk
end draws

/-! Where the order is drawn: apart. -/
theorem Zao {z z':Bool}{t t':List Nat}{n n':Nat}(h1:z=false→n ∉ t') (h2:z'=false→n' ∉ t):(Tr.op true z t n).apart (.op true z' t' n'):=⟨.inl ⟨rfl,rfl⟩,h1,h2⟩
theorem ZjM {l l' z z':Bool}{t t':List Nat}{n n':Nat}(h:∀ r∈t,r ∉ t') (h1:z=false→n ∉ t') (h2:z'=false→n' ∉ t):(Tr.op l z t n).apart (.op l' z' t' n'):=⟨.inr h,h1,h2⟩
theorem ZhJ {l z:Bool}{t:List Nat}{n:Nat}{c:Nat→Prop}(h1:l=true) (h2:z=true) (h:∀ r∈t,¬c r):(Tr.op l z t n).apart (.call c):=⟨h1,h2,h⟩
theorem ZjL {l z:Bool}{t:List Nat}{n:Nat}{c:Nat→Prop}(h1:l=true) (h:∀ r∈t,¬c r):(Tr.call c).apart (.op l z t n):=⟨h1,h⟩
theorem ZiO {t:Tr}:Tr.no.apart t:=trivial
/-! Results. -/
theorem ZN {fr:Fr}{h:Hp}:Zbw fr h []=some []:=rfl
theorem zz {fr:Fr}{h:Hp}{n:Nat}{v:V}{l:List Res}{vs:List V}(hv:fr n=v) (ht:Zbw fr h l=some vs):Zbw fr h (.t n::l)=some (v::vs):=by simp [Zbw,ZfF,hv,ht]
theorem ZhZ {fr:Fr}{h:Hp}{n r o sz:Nat}{agg w:Bool}{cs:List V}{v:V}{l:List Res}{vs:List V}(hr:fr n=.p r o) (hb:h.m r=some (.cells w cs)) (hv:ZbO agg cs o sz=some v) (ht:Zbw fr h l=some vs):Zbw fr h (.cell n agg sz::l)=some (v::vs):=by simp [Zbw,ZfF,hr,hb,hv,ht]
theorem zi {rs:List Res}{Q:V→Hp→Prop}{fr:Fr}{h:Hp}{vs:List V}(hv:Zbw fr h rs=some vs) (hq:Q (Zi6 vs) h):Ret rs Q .ret fr h:=by simp only [Ret,hv];exact hq
theorem Znj {rs:List Res}{Q:V→Hp→Prop}{fr:Fr}{h:Hp}{vs:List V}(hv:Zbw fr h rs=some vs) (hq:Q (Zi6 vs) h):Ret rs Q .normal fr h:=by simp only [Ret,hv];exact hq

/-! What is worked out: partial functions. -/
def ck {α:Type}(c:Prop) [Decidable c] (o:Option α):Option α:=if c then o else none
theorem ZJ {α:Type}{c:Prop} [Decidable c] {o:Option α}(h:c):ck c o=o:=if_pos h
theorem Zhe {α:Type}{c:Prop} [Decidable c] {o:Option α}{r:α}(h:ck c o=some r):c∧o=some r:=by
 unfold ck at h;split at h
 ·rename_i hc;exact ⟨hc,h⟩
 ·cases h
theorem zT {α β:Type}{o:Option α}{f:α→Option β}{r:β}(h:o.bind f=some r):∃ x,o=some x∧f x=some r:=Option.bind_eq_some_iff.1 h
theorem Zaj {α:Type}{c:Bool}{a b:Option α}{r:α}(h:(if c=true then a else b)=some r):(c=true∧a=some r)∨(c=false∧b=some r):=by
 cases c
 ·exact .inr ⟨rfl,by simpa using h⟩
 ·exact .inl ⟨rfl,by simpa using h⟩

def big:Nat:=18446744073709551616
def Zej {κ β:Type} [DecidableEq κ] (z:β) (k:κ):List (κ×β)→β
 | []=>z
 | p::l=>if k=p.1 then p.2 else Zej z k l
def ZdL {κ β:Type} [DecidableEq κ] (k:κ) (v:β):List (κ×β)→List (κ×β)
 | []=>[(k,v)]
 | p::l=>if k=p.1 then (k,v)::l else p::ZdL k v l
def za {σ ρ:Type}(step:σ→Option (σ⊕ρ)):Nat→σ→Option ρ
 | 0,_=>none
 | n+1,s=>match step s with
  | some (.inl s')=>za step n s'
  | some (.inr r)=>some r
  | none=>none
theorem ZkX {a:Code}{σ ρ:Type}{step:σ→Option (σ⊕ρ)}{Q:Ex→Fr→Hp→Prop}(I:σ→Fr→Hp→Prop) {n:Nat}{s:σ}{r:ρ}(hr:za step n s=some r) {fr:Fr}{h:Hp}(h0:I s fr h)
  (hs:∀ s fr h,I s fr h→∀ o,step s=some o→W N a (fun e fr' h'=>(∃ s',o=.inl s'∧e=.normal∧I s' fr' h')∨(∃ r',o=.inr r'∧e≠.normal∧(r'=r→Q e fr' h'))) fr h):W N (.loop a) Q fr h:=by
 induction n generalizing s fr h with
 | zero=>cases hr
 | succ n ih =>
  refine ZhH ?_;simp only [za] at hr;split at hr
  ·rename_i s' hst;refine (hs s fr h h0 _ hst).mono ?_;rintro e fr' h' (⟨s2,he,rfl,hI⟩|⟨r2,he,_⟩)
   ·cases he;exact ih hr hI
   ·cases he
  ·rename_i r2 hst;cases hr;refine (hs s fr h h0 _ hst).mono ?_;rintro e fr' h' (⟨s2,he,_⟩|⟨r2,he,hn,hQ⟩)
   ·cases he
   ·cases he;have:=hQ rfl
    cases e with
    | normal=>exact absurd rfl hn
    | exit i=>exact this
    | ret=>exact this
  ·cases hr

/-! What can be read. -/
theorem Sl.rd {α:Type}{E:Enc α}{h:Hp}{v:V}{l:List α}(hs:Sl E h v l):Rd (fun r=>r<h.n) h E v l:=fun k hk=>hs.ext ⟨hk.1,hk.2⟩
theorem RdB.of {h:Hp}{r:Nat}{w:Bool}{cs:List V}(hb:h.m r=some (.cells w cs)):RdB (fun r=>r<h.n) h r cs:=fun k hk=>⟨w,(hk.2 r (Hp.lt hb)).trans hb⟩

def Bm (h:Hp) (Ω:List Ent):Nat→Prop:=fun r=>r<h.n∧∀ e∈Ω,r ∉ e.rs
theorem Own.startM {h:Hp}{Ω:List Ent}(hP:∀ e∈Ω,e.P h) (hs:Ω.Pairwise apart):Own (Bm h Ω) h h Ω:=⟨Nat.le_refl _,fun _ _=>rfl,fun _ hr=>hr.1,hP,fun e he r hr hb=>hb.2 e he hr,hs⟩
theorem Own.toM {B:Nat→Prop}{h k:Hp}{Ω Ωi:List Ent}(H:Own B h k Ω) (is:List Nat) (hi:is.map (ent Ω)=Ωi) (hn:is.Nodup):Own (Bm k Ωi) k k Ωi:=Own.startM (H.pick is hi hn).P (H.pick is hi hn).sep
theorem Own.rd0 {B:Nat→Prop}{h k:Hp}{Ω:List Ent}(H:Own B h k Ω) {α:Type}{E:Enc α}{v:V}{l:List α}(s:Rd B h E v l):Sl E k v l:=s k H.ext
theorem Own.rdB0 {B:Nat→Prop}{h k:Hp}{Ω:List Ent}(H:Own B h k Ω) {r:Nat}{cs:List V}(s:RdB B h r cs):∃ w,k.m r=some (.cells w cs):=s k H.ext

/-! The steps of what is printed. -/
theorem ckk {α:Type}{P:Prop}{c:Prop} [Decidable c] {o:Option α}{r:α}(hp:ck c o=some r) (k:c→o=some r→P):P:=k (Zhe hp).1 (Zhe hp).2
theorem bdk {α β:Type}{o:Option α}{f:α→Option β}{r:β}{P:α→Prop}(hp:o.bind f=some r) (h:∀ x,o=some x→P x):∃ x,P x∧f x=some r:=by
 obtain ⟨x,h1,h2⟩:=zT hp;exact ⟨x,h x h1,h2⟩
theorem ifk {α:Type}{P:Prop}{t:Bool}{a b:Option α}{r:α}(hp:(if t=true then a else b)=some r) (h1:t=true→a=some r→P) (h2:t=false→b=some r→P):P:=by
 rcases Zaj hp with ⟨h,hp⟩|⟨h,hp⟩
 ·exact h1 h hp
 ·exact h2 h hp
theorem zE {Q:Ex→Fr→Hp→Prop}{fr:Fr}{h:Hp}{α:Type}{c:Opd}{A B:Code}{t:Bool}{a b:Option α}{r:α}(hp:(if t=true then a else b)=some r) (hx:fr.ev c=.b t) (h1:t=true→a=some r→W N A Q fr h) (h2:t=false→b=some r→W N B Q fr h):W N (.cond c A B) Q fr h :=
 ifk hp (fun ht hp=>Znt hx ht (h1 ht hp)) (fun ht hp=>Zji hx ht (h2 ht hp))
theorem ZhG {Q:Ex→Fr→Hp→Prop}{fr:Fr}{h:Hp}{α β:Type}{o:Option α}{f:α→Option β}{r:β}{a:Code}(hp:o.bind f=some r) (J:α→Ex→Fr→Hp→Prop) (h1:∀ x,o=some x→W N a (J x) fr h) (h2:∀ x,f x=some r→∀ e fr' h',J x e fr' h'→Q e fr' h'):W N a Q fr h:=by
 obtain ⟨x,hx,hf⟩:=zT hp;exact (h1 x hx).mono (h2 x hf)
@[reducible] def lpo {σ ρ:Type}(I:σ→Fr→Hp→Prop) (J:ρ→Ex→Fr→Hp→Prop):σ⊕ρ→Ex→Fr→Hp→Prop
 | .inl s,e,fr,h=>e=.normal∧I s fr h
 | .inr r,e,fr,h=>e≠.normal∧J r e fr h
theorem ZbG {Q:Ex→Fr→Hp→Prop}{fr:Fr}{h:Hp}{a:Code}{σ ρ β:Type}{step:σ→Option (σ⊕ρ)}{n:Nat}{s:σ}{f:ρ→Option β}{r:β}(hp:(za step n s).bind f=some r) (I:σ→Fr→Hp→Prop) (J:ρ→Ex→Fr→Hp→Prop) (h0:I s fr h)
  (hs:∀ s fr h,I s fr h→∀ o,step s=some o→W N a (lpo I J o) fr h) (h2:∀ x,f x=some r→∀ e fr' h',J x e fr' h'→Q e fr' h'):W N (.loop a) Q fr h:=by
 obtain ⟨x,hx,hf⟩:=zT hp;refine W.mono (Q:=J x) ?_ (h2 x hf);refine ZkX I hx h0 ?_;intro s fr h hI o ho;refine (hs s fr h hI o ho).mono ?_;intro e fr' h' hl;rcases o with s'|r'
 ·exact .inl ⟨s',rfl,hl.1,hl.2⟩
 ·exact .inr ⟨r',rfl,hl.1,fun hr=>hr ▸ hl.2⟩
theorem Own.may {B:Nat→Prop}{h k:Hp}{Ω:List Ent}(H:Own B h k Ω) (i:Nat) {α:Type}{b:Bool}{E:Enc α}{v:V}{l:List α}(hi:ent Ω i=Zjk b E v l) (hr:b=false→Rd B h E v l):Sl E k v l:=by
 cases b
 ·exact H.rd0 (hr rfl)
 ·exact H.sl i hi
end Mu
