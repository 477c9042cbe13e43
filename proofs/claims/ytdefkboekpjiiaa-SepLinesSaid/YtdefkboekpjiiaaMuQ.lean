/- Steps: one operation, one branch, a loop, a call. -/
import Derived.Test.YtdefkboekpjiiaaMuP
set_option linter.unusedSimpArgs false
set_option linter.unusedVariables false
namespace Mu
open Go (IntKind BinOp UnOp)
variable {N:Prog}

section steps
variable {Q:Ex→Fr→Hp→Prop}{fr:Fr}{h h':Hp}
theorem zu {a b:Code}(hk:W N a (Ex.then (W N b Q) Q) fr h):W N (.seq a b) Q fr h:=Zl1.2 hk
theorem Zan {ops:List Oper}(hk:WO N ops (Q .normal) fr h):W N (.region ops) Q fr h:=Zik.2 hk
theorem Za3 {id:Nat}{a:Code}(hk:W N a (Ex.blk id Q) fr h):W N (.block id a) Q fr h:=Zjg.2 hk
theorem Zcs (hk:Q .normal fr h):W N .skip Q fr h:=Zki.2 hk
theorem Zbl {id:Nat}(hk:Q (.exit id) fr h):W N (.exit id) Q fr h:=Zkh.2 hk
theorem ZaN (hk:Q .ret fr h):W N .ret Q fr h:=Zl0.2 hk
theorem Zmo {c:Opd}{a b:Code}{t:Bool}(hc:fr.ev c=.b t) (ht:t=true) (hk:W N a Q fr h):W N (.cond c a b) Q fr h:=(ZgO hc).2 (by rw [if_pos ht];exact hk)
theorem Zly {c:Opd}{a b:Code}{t:Bool}(hc:fr.ev c=.b t) (ht:t=false) (hk:W N b Q fr h):W N (.cond c a b) Q fr h:=(ZgO hc).2 (by rw [ht];exact hk)
theorem ZgP {ops:List Oper}{prs:List (Nat×Nat)}(hk:WDQ N h.n (ZgZ 0 ops) (Q .normal) fr (h.bump ops.length)):W N (.draw ops prs) Q fr h:=Zjh hk
theorem Zlz {ops:List Oper}{prs:List (Nat×Nat)}(hk:WD N h.n (ZgZ 0 ops) (fun fr' h' ts=>(∀ q∈prs,(Zcj ts q.1).apart (Zcj ts q.2))∧Q .normal fr' h') fr (h.bump ops.length)):W N (.draw ops prs) Q fr h:=Zhs.2 hk
end steps

section ops
variable {Q:Fr→Hp→Prop}{fr:Fr}{h h':Hp}{d:Option Nat}{op:Op}{l:List Oper}{v:V}{up:List (Nat×Obj)}
theorem Zlw (ha:act h.m h.n fr.ev op=some (v,up)) (hu:h.puts up=h') (hk:WO N l Q (fr.put d v) h'):WO N (⟨d,op,none⟩::l) Q fr h:=by
 have hop:∀ f args,op≠.call f args:=by rintro f args rfl;cases ha
 subst hu;rw [Zij hop,ha];exact hk
theorem Zi (ha:act h.m h.n fr.ev op=some (v,[])) (hk:WO N l Q (fr.put d v) h):WO N (⟨d,op,none⟩::l) Q fr h:=Zlw ha rfl hk
theorem ZbM {f:Opd}{args:List Opd}{id:Nat}{caps vs:List V}(hf:fr.ev f=.f id caps) (hv:args.map fr.ev++caps=vs) (hi:Is N id vs h v h') (hk:WO N l Q (fr.put d v) h') (hl:id<1000000:=by decide):WO N (⟨d,.call f args,none⟩::l) Q fr h:=by
 subst hv;refine (Zhq hf).2 ?_;unfold fid ZbA;rw [if_pos hl,if_pos hl];exact (hi _).2 hk
theorem z4 {j:Nat}{w t:Bool}(hj:fr j=.b t) (ht:t=w) (hk:WO N (⟨d,op,none⟩::l) Q fr h):WO N (⟨d,op,some (j,w)⟩::l) Q fr h:=(Zgk hj).2 (by rw [if_pos ht];exact hk)
theorem zi {j:Nat}{w t:Bool}(hj:fr j=.b t) (ht:t=!w) (hk:WO N l Q (fr.put d .un) h):WO N (⟨d,op,some (j,w)⟩::l) Q fr h:=(Zgk hj).2 (by subst ht;rw [if_neg (by cases w<;>decide)];exact hk)
theorem Za0 {P:V→Hp→Prop}(hx:∃ v k' up,act h.m h.n fr.ev op=some (v,up)∧h.puts up=k'∧P v k') (hk:∀ v k',P v k'→WO N l Q (fr.put d v) k'):WO N (⟨d,op,none⟩::l) Q fr h:=by
 obtain ⟨v,k',up,ha,hu,hP⟩:=hx;exact Zlw ha hu (hk v k' hP)
theorem ZF (hk:Q fr h):WO N [] Q fr h:=Zkf.2 hk
end ops

section draws
variable {Q:Fr→Hp→Prop}{fr:Fr}{h h':Hp}{d:Option Nat}{op:Op}{base j:Nat}{l:List (Nat×Oper)}{v:V}{up:List (Nat×Obj)}
theorem ZL (ho:op.looks=true) (ha:act h.m (base+j) fr.ev op=some (v,[])) (hk:WDQ N base l Q (fr.put d v) h):WDQ N base ((j,⟨d,op,none⟩)::l) Q fr h:=by
 rw [Zel];unfold Zgi;rw [ha];simp only [Zho,ho,List.isEmpty_nil,Bool.and_self,Zlq,if_true,Hp.puts_nil];exact hk
theorem Z1 {g:Nat}{w t:Bool}(hj:fr g=.b t) (ht:t=w) (hk:WDQ N base ((j,⟨d,op,none⟩)::l) Q fr h):WDQ N base ((j,⟨d,op,some (g,w)⟩)::l) Q fr h:=by
 rw [Zem,ZeO,hj,V.is_b,ht,beq_self_eq_true,if_pos rfl,← Zel];exact hk
theorem Zn {g:Nat}{w t:Bool}(hj:fr g=.b t) (ht:t=!w) (hk:WDQ N base l Q (fr.put d .un) h):WDQ N base ((j,⟨d,op,some (g,w)⟩)::l) Q fr h:=by
 rw [Zem,ZeO,hj,V.is_b,ht,if_neg (by cases w<;>decide)];exact hk
theorem Zbo {g:Nat}{w:Bool}(hj:fr g=.un) (hk:WDQ N base l Q (fr.put d .un) h):WDQ N base ((j,⟨d,op,some (g,w)⟩)::l) Q fr h:=by
 rw [Zem,ZeO,hj,V.is_un,if_neg (by decide)];exact hk
theorem zF (hk:Q fr h):WDQ N base [] Q fr h:=Zjd.2 hk
variable {Q:Fr→Hp→List (Nat×Tr)→Prop}
theorem Zlu (ha:act h.m (base+j) fr.ev op=some (v,up)) (hu:h.puts up=h') (hk:WD N base l (fun fr' h' ts=>Q fr' h' ((j,.op op.looks up.isEmpty (Zap fr.ev op) (base+j))::ts)) (fr.put d v) h'):WD N base ((j,⟨d,op,none⟩)::l) Q fr h:=by
 have hop:∀ f args,op≠.call f args:=by rintro f args rfl;cases ha
 subst hu;rw [ZgN hop,ha];exact hk
theorem Zke {P:V→Hp→Prop}(hx:∃ v k' up,act h.m (base+j) fr.ev op=some (v,up)∧h.puts up=k'∧P v k') (hk:∀ v k' z,P v k'→WD N base l (fun fr' h' ts=>Q fr' h' ((j,.op op.looks z (Zap fr.ev op) (base+j))::ts)) (fr.put d v) k'):WD N base ((j,⟨d,op,none⟩)::l) Q fr h:=by
 obtain ⟨v,k',up,ha,hu,hP⟩:=hx;exact Zlu ha hu (hk v k' _ hP)
theorem ZcJ (ha:act h.m (base+j) fr.ev op=some (v,[])) (hk:WD N base l (fun fr' h' ts=>Q fr' h' ((j,.op op.looks true (Zap fr.ev op) (base+j))::ts)) (fr.put d v) h):WD N base ((j,⟨d,op,none⟩)::l) Q fr h:=Zlu ha rfl hk
theorem Zih (hk:Q fr h []):WD N base [] Q fr h:=Zii.2 hk
end draws

/-! Where the order is drawn: apart. -/
theorem ZdL {z z':Bool}{t t':List Nat}{n n':Nat}(h1:z=false→n ∉ t') (h2:z'=false→n' ∉ t):(Tr.op true z t n).apart (.op true z' t' n'):=⟨.inl ⟨rfl,rfl⟩,h1,h2⟩
/-! Results. -/
theorem zR {fr:Fr}{h:Hp}:ZaM fr h []=some []:=rfl
theorem ZaD {fr:Fr}{h:Hp}{n:Nat}{v:V}{l:List Res}{vs:List V}(hv:fr n=v) (ht:ZaM fr h l=some vs):ZaM fr h (.t n::l)=some (v::vs):=by simp [ZaM,ZcS,hv,ht]
theorem ZiQ {fr:Fr}{h:Hp}{n r o sz:Nat}{agg w:Bool}{cs:List V}{v:V}{l:List Res}{vs:List V}(hr:fr n=.p r o) (hb:h.m r=some (.cells w cs)) (hv:ZaY agg cs o sz=some v) (ht:ZaM fr h l=some vs):ZaM fr h (.cell n agg sz::l)=some (v::vs):=by simp [ZaM,ZcS,hr,hb,hv,ht]
theorem Zax {rs:List Res}{Q:V→Hp→Prop}{fr:Fr}{h:Hp}{vs:List V}(hv:ZaM fr h rs=some vs) (hq:Q (ZfU vs) h):Ret rs Q .ret fr h:=by simp only [Ret,hv];exact hq
/-! What is worked out: partial functions. -/
def ck {α:Type}(c:Prop) [Decidable c] (o:Option α):Option α:=if c then o else none
theorem ZY {α:Type}{c:Prop} [Decidable c] {o:Option α}(h:c):ck c o=o:=if_pos h
theorem Zhy {α:Type}{c:Prop} [Decidable c] {o:Option α}{r:α}(h:ck c o=some r):c∧o=some r:=by
 unfold ck at h;split at h
 ·rename_i hc;exact ⟨hc,h⟩
 ·cases h
theorem Zay {α β:Type}{o:Option α}{f:α→Option β}{r:β}(h:o.bind f=some r):∃ x,o=some x∧f x=some r:=Option.bind_eq_some_iff.1 h
theorem ZaB {α:Type}{c:Bool}{a b:Option α}{r:α}(h:(if c=true then a else b)=some r):(c=true∧a=some r)∨(c=false∧b=some r):=by
 cases c
 ·exact .inr ⟨rfl,by simpa using h⟩
 ·exact .inl ⟨rfl,by simpa using h⟩

def big:Nat:=18446744073709551616
def Zd1 {κ β:Type} [DecidableEq κ] (k:κ) (v:β):List (κ×β)→List (κ×β)
 | []=>[(k,v)]
 | p::l=>if k=p.1 then (k,v)::l else p::Zd1 k v l
def zp {σ ρ:Type}(step:σ→Option (σ⊕ρ)):Nat→σ→Option ρ
 | 0,_=>none
 | n+1,s=>match step s with
  | some (.inl s')=>zp step n s'
  | some (.inr r)=>some r
  | none=>none
theorem Zji {a:Code}{σ ρ:Type}{step:σ→Option (σ⊕ρ)}{Q:Ex→Fr→Hp→Prop}(I:σ→Fr→Hp→Prop) {n:Nat}{s:σ}{r:ρ}(hr:zp step n s=some r) {fr:Fr}{h:Hp}(h0:I s fr h)
  (hs:∀ s fr h,I s fr h→∀ o,step s=some o→W N a (fun e fr' h'=>(∃ s',o=.inl s'∧e=.normal∧I s' fr' h')∨(∃ r',o=.inr r'∧e≠.normal∧(r'=r→Q e fr' h'))) fr h):W N (.loop a) Q fr h:=by
 induction n generalizing s fr h with
 | zero=>cases hr
 | succ n ih =>
  refine Zgl ?_;simp only [zp] at hr;split at hr
  ·rename_i s' hst;refine (hs s fr h h0 _ hst).mono ?_;rintro e fr' h' (⟨s2,he,rfl,hI⟩|⟨r2,he,_⟩)
   ·cases he;exact ih hr hI
   ·cases he
  ·rename_i r2 hst;cases hr;refine (hs s fr h h0 _ hst).mono ?_;rintro e fr' h' (⟨s2,he,_⟩|⟨r2,he,hn,hQ⟩)
   ·cases he
   ·cases he;have:=hQ rfl
    cases e with
    | normal=>exact absurd rfl hn
    | exit i=>exact this
    | ret=>exact this
  ·cases hr

/-! What can be read. -/
theorem Sl.rd {α:Type}{E:Enc α}{h:Hp}{v:V}{l:List α}(hs:Sl E h v l):Rd (fun r=>r<h.n) h E v l:=fun k hk=>hs.ext ⟨hk.1,hk.2⟩
theorem RdB.of {h:Hp}{r:Nat}{w:Bool}{cs:List V}(hb:h.m r=some (.cells w cs)):RdB (fun r=>r<h.n) h r cs:=fun k hk=>⟨w,(hk.2 r (Hp.lt hb)).trans hb⟩

theorem Own.rd0 {B:Nat→Prop}{h k:Hp}{Ω:List Ent}(H:Own B h k Ω) {α:Type}{E:Enc α}{v:V}{l:List α}(s:Rd B h E v l):Sl E k v l:=s k H.ext
/-! The steps of what is printed. -/
theorem ckk {α:Type}{P:Prop}{c:Prop} [Decidable c] {o:Option α}{r:α}(hp:ck c o=some r) (k:c→o=some r→P):P:=k (Zhy hp).1 (Zhy hp).2
theorem bdk {α β:Type}{o:Option α}{f:α→Option β}{r:β}{P:α→Prop}(hp:o.bind f=some r) (h:∀ x,o=some x→P x):∃ x,P x∧f x=some r:=by
 obtain ⟨x,h1,h2⟩:=Zay hp;exact ⟨x,h x h1,h2⟩
theorem ifk {α:Type}{P:Prop}{t:Bool}{a b:Option α}{r:α}(hp:(if t=true then a else b)=some r) (h1:t=true→a=some r→P) (h2:t=false→b=some r→P):P:=by
 rcases ZaB hp with ⟨h,hp⟩|⟨h,hp⟩
 ·exact h1 h hp
 ·exact h2 h hp
theorem Zae {Q:Ex→Fr→Hp→Prop}{fr:Fr}{h:Hp}{α:Type}{c:Opd}{A B:Code}{t:Bool}{a b:Option α}{r:α}(hp:(if t=true then a else b)=some r) (hx:fr.ev c=.b t) (h1:t=true→a=some r→W N A Q fr h) (h2:t=false→b=some r→W N B Q fr h):W N (.cond c A B) Q fr h :=
 ifk hp (fun ht hp=>Zmo hx ht (h1 ht hp)) (fun ht hp=>Zly hx ht (h2 ht hp))
theorem ZhF {Q:Ex→Fr→Hp→Prop}{fr:Fr}{h:Hp}{α β:Type}{o:Option α}{f:α→Option β}{r:β}{a:Code}(hp:o.bind f=some r) (J:α→Ex→Fr→Hp→Prop) (h1:∀ x,o=some x→W N a (J x) fr h) (h2:∀ x,f x=some r→∀ e fr' h',J x e fr' h'→Q e fr' h'):W N a Q fr h:=by
 obtain ⟨x,hx,hf⟩:=Zay hp;exact (h1 x hx).mono (h2 x hf)
@[reducible] def lpo {σ ρ:Type}(I:σ→Fr→Hp→Prop) (J:ρ→Ex→Fr→Hp→Prop):σ⊕ρ→Ex→Fr→Hp→Prop
 | .inl s,e,fr,h=>e=.normal∧I s fr h
 | .inr r,e,fr,h=>e≠.normal∧J r e fr h
theorem Zb7 {Q:Ex→Fr→Hp→Prop}{fr:Fr}{h:Hp}{a:Code}{σ ρ β:Type}{step:σ→Option (σ⊕ρ)}{n:Nat}{s:σ}{f:ρ→Option β}{r:β}(hp:(zp step n s).bind f=some r) (I:σ→Fr→Hp→Prop) (J:ρ→Ex→Fr→Hp→Prop) (h0:I s fr h)
  (hs:∀ s fr h,I s fr h→∀ o,step s=some o→W N a (lpo I J o) fr h) (h2:∀ x,f x=some r→∀ e fr' h',J x e fr' h'→Q e fr' h'):W N (.loop a) Q fr h:=by
 obtain ⟨x,hx,hf⟩:=Zay hp;refine W.mono (Q:=J x) ?_ (h2 x hf);refine Zji I hx h0 ?_;intro s fr h hI o ho;refine (hs s fr h hI o ho).mono ?_;intro e fr' h' hl;rcases o with s'|r'
 ·exact .inl ⟨s',rfl,hl.1,hl.2⟩
 ·exact .inr ⟨r',rfl,hl.1,fun hr=>hr ▸ hl.2⟩
end Mu
