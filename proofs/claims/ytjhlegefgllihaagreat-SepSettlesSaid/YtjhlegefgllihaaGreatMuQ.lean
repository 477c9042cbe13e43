/- Steps: one operation, one branch, a loop, a call. -/
import Derived.Test.YtjhlegefgllihaaGreatMuP
set_option linter.unusedSimpArgs false
set_option linter.unusedVariables false
namespace Mu
open Go (IntKind BinOp UnOp)
variable {N:Prog}

section steps
variable {Q:Ex->Fr->Hp->Prop}{fr:Fr}{h h':Hp}
theorem zw{a b:Code}(hk:W N a (Ex.then (W N b Q) Q) fr h):W N (.seq a b) Q fr h:=Zsw.2 hk
theorem Za5{ops:List Oper}(hk:WO N ops (Q .normal) fr h):W N (.region ops) Q fr h:=Zmv.2 hk
theorem ZaB{id:Nat}{a:Code}(hk:W N a (Ex.blk id Q) fr h):W N (.block id a) Q fr h:=ZnW.2 hk
theorem Zey(hk:Q .normal fr h):W N .skip Q fr h:=Zqc.2 hk
theorem ZbX{id:Nat}(hk:Q (.exit id) fr h):W N (.exit id) Q fr h:=Zqb.2 hk
theorem Zcx(hk:Q .ret fr h):W N .ret Q fr h:=Zsv.2 hk
theorem ZpZ{c:Opd}{a b:Code}{t:Bool}(hc:fr.ev c=.b t)(ht:t=true)(hk:W N a Q fr h):W N (.cond c a b) Q fr h:=(Zks hc).2 (by rw[if_pos ht];exact hk)
theorem ZpY{c:Opd}{a b:Code}{t:Bool}(hc:fr.ev c=.b t)(ht:t=false)(hk:W N b Q fr h):W N (.cond c a b) Q fr h:=(Zks hc).2 (by rw[ht];exact hk)
theorem Zsu{ops:List Oper}{prs:List (Nat×Nat)}(hk:WDQ N h.n (ZjU 0 ops) (Q .normal) fr (h.bump ops.length)):W N (.draw ops prs) Q fr h:=ZnX hk
theorem ZdQ{ops:List Oper}{prs:List (Nat×Nat)}(hk:WD N h.n (ZjU 0 ops) (λfr' h' ts=>(∀q∈prs,(Zf2 ts q.1).apart (Zf2 ts q.2))/\Q .normal fr' h') fr (h.bump ops.length)):W N (.draw ops prs) Q fr h:=Zi9.2 hk
end steps

section ops
variable {Q:Fr->Hp->Prop}{fr:Fr}{h h':Hp}{d:Option Nat}{op:Op}{l:List Oper}{v:V}{up:List (Nat×Obj)}
theorem Zsr(ha:act h.m h.n fr.ev op=some (v,up))(hu:h.puts up=h')(hk:WO N l Q (fr.put d v) h'):WO N (⟨d,op,none⟩::l) Q fr h:=by
 have hop:∀f args,op≠.call f args:=by rintro f args rfl;cases ha
 subst hu;rw[Zms hop,ha];exact hk
theorem Ze(ha:act h.m h.n fr.ev op=some (v,[]))(hk:WO N l Q (fr.put d v) h):WO N (⟨d,op,none⟩::l) Q fr h:=Zsr ha rfl hk
theorem Zcq{f:Opd}{args:List Opd}{id:Nat}{caps vs:List V}(hf:fr.ev f=.f id caps)(hv:args.map fr.ev++caps=vs)(hi:Is N id vs h v h')(hk:WO N l Q (fr.put d v) h')(hl:id<1000000:=by decide):WO N (⟨d,.call f args,none⟩::l) Q fr h:=by
 subst hv;refine(Zi8 hf).2 ?_;unfold fid ZdD;rw[if_pos hl,if_pos hl];exact(hi _).2 hk
abbrev IsF(N:Prog)(id:Nat)(args caps:List V)(h:Hp)(v:V)(h':Hp):Prop:=Is N (fid id) (ZdD id args caps) h v h'
theorem Zpz{f:Opd}{args:List Opd}{id:Nat}{caps vs:List V}(hf:fr.ev f=.f id caps)(hv:args.map fr.ev++[]=vs)(hi:IsF N id vs caps h v h')(hk:WO N l Q (fr.put d v) h'):WO N (⟨d,.call f args,none⟩::l) Q fr h:=by
 rw[List.append_nil]at hv;subst hv;exact(Zi8 hf).2 ((hi _).2 hk)
theorem zD{j:Nat}{w t:Bool}(hj:fr j=.b t)(ht:t=w)(hk:WO N (⟨d,op,none⟩::l) Q fr h):WO N (⟨d,op,some (j,w)⟩::l) Q fr h:=(Zj3 hj).2 (by rw[if_pos ht];exact hk)
theorem ZX{j:Nat}{w t:Bool}(hj:fr j=.b t)(ht:t=!w)(hk:WO N l Q (fr.put d .un) h):WO N (⟨d,op,some (j,w)⟩::l) Q fr h:=(Zj3 hj).2 (by subst ht;rw[if_neg (by cases w<;>decide)];exact hk)
theorem Zss{j:Nat}{w:Bool}(hj:fr j=.un)(hk:WO N l Q (fr.put d .un) h):WO N (⟨d,op,some (j,w)⟩::l) Q fr h:=by
 rw[ZnV,Zgp,hj];exact hk
theorem zE{P:V->Hp->Prop}(hx:∃v k' up,act h.m h.n fr.ev op=some (v,up)/\h.puts up=k'/\P v k')(hk:∀v k',P v k'->WO N l Q (fr.put d v) k'):WO N (⟨d,op,none⟩::l) Q fr h:=by
 obtain⟨v,k',up,ha,hu,hP⟩:=hx;exact Zsr ha hu (hk v k' hP)
theorem Z8(hk:Q fr h):WO N [] Q fr h:=ZpX.2 hk
end ops

section draws
variable {Q:Fr->Hp->Prop}{fr:Fr}{h h':Hp}{d:Option Nat}{op:Op}{base j:Nat}{l:List (Nat×Oper)}{v:V}{up:List (Nat×Obj)}
theorem ZdJ(ho:op.looks=true)(ha:act h.m (base+j) fr.ev op=some (v,[]))(hk:WDQ N base l Q (fr.put d v) h):WDQ N base ((j,⟨d,op,none⟩)::l) Q fr h:=by
 rw[Zhi];unfold Zj0;rw[ha];simp only[ZkW,ho,List.isEmpty_nil,Bool.and_self,ZrX,if_true,Hp.puts_nil];exact hk
theorem Zdv{g:Nat}{w t:Bool}(hj:fr g=.b t)(ht:t=w)(hk:WDQ N base ((j,⟨d,op,none⟩)::l) Q fr h):WDQ N base ((j,⟨d,op,some (g,w)⟩)::l) Q fr h:=by
 rw[Zj1,Zgp,hj,V.is_b,ht,beq_self_eq_true,if_pos rfl,<-Zhi];exact hk
theorem Zc6{g:Nat}{w t:Bool}(hj:fr g=.b t)(ht:t=!w)(hk:WDQ N base l Q (fr.put d .un) h):WDQ N base ((j,⟨d,op,some (g,w)⟩)::l) Q fr h:=by
 rw[Zj1,Zgp,hj,V.is_b,ht,if_neg (by cases w<;>decide)];exact hk
theorem Zgr(hk:Q fr h):WDQ N base [] Q fr h:=ZnT.2 hk
variable {Q:Fr->Hp->List (Nat×Tr)->Prop}
theorem Zsc(ha:act h.m (base+j) fr.ev op=some (v,up))(hu:h.puts up=h')(hk:WD N base l (λfr' h' ts=>Q fr' h' ((j,.op op.looks up.isEmpty (ZaZ fr.ev op) (base+j))::ts)) (fr.put d v) h'):WD N base ((j,⟨d,op,none⟩)::l) Q fr h:=by
 have hop:∀f args,op≠.call f args:=by rintro f args rfl;cases ha
 subst hu;rw[Zkp hop,ha];exact hk
theorem ZcA{P:V->Hp->Prop}(hx:∃v k' up,act h.m (base+j) fr.ev op=some (v,up)/\h.puts up=k'/\P v k')(hk:∀v k' z,P v k'->WD N base l (λfr' h' ts=>Q fr' h' ((j,.op op.looks z (ZaZ fr.ev op) (base+j))::ts)) (fr.put d v) k'):WD N base ((j,⟨d,op,none⟩)::l) Q fr h:=by
 obtain⟨v,k',up,ha,hu,hP⟩:=hx;exact Zsc ha hu (hk v k' _ hP)
theorem Z7(ha:act h.m (base+j) fr.ev op=some (v,[]))(hk:WD N base l (λfr' h' ts=>Q fr' h' ((j,.op op.looks true (ZaZ fr.ev op) (base+j))::ts)) (fr.put d v) h):WD N base ((j,⟨d,op,none⟩)::l) Q fr h:=Zsc ha rfl hk
theorem Zev{f:Opd}{args:List Opd}{id:Nat}{caps vs:List V}(hf:fr.ev f=.f id caps)(hv:args.map fr.ev++caps=vs)(hi:Is N id vs h v h')(hk:WD N base l (λfr' h'' ts=>Q fr' h'' ((j,.call λr=>h'.m r≠h.m r)::ts)) (fr.put d v) h')(hl:id<1000000:=by decide):WD N base ((j,⟨d,.call f args,none⟩)::l) Q fr h:=by
 subst hv;refine(Zi7 hf).2 ?_;unfold fid ZdD;rw[if_pos hl,if_pos hl];exact(hi _).2 hk
theorem Zsa{f:Opd}{args:List Opd}{id:Nat}{caps vs:List V}(hf:fr.ev f=.f id caps)(hv:args.map fr.ev++[]=vs)(hi:IsF N id vs caps h v h')(hk:WD N base l (λfr' h'' ts=>Q fr' h'' ((j,.call λr=>h'.m r≠h.m r)::ts)) (fr.put d v) h'):WD N base ((j,⟨d,.call f args,none⟩)::l) Q fr h:=by
 rw[List.append_nil]at hv;subst hv;exact(Zi7 hf).2 ((hi _).2 hk)
theorem Zce{g:Nat}{w t:Bool}(hj:fr g=.b t)(ht:t=w)(hk:WD N base ((j,⟨d,op,none⟩)::l) Q fr h):WD N base ((j,⟨d,op,some (g,w)⟩)::l) Q fr h:=(Zj2 hj).2 (by rw[if_pos ht];exact hk)
theorem Zag{g:Nat}{w t:Bool}(hj:fr g=.b t)(ht:t=!w)(hk:WD N base l (λfr' h' ts=>Q fr' h' ((j,.no)::ts)) (fr.put d .un) h):WD N base ((j,⟨d,op,some (g,w)⟩)::l) Q fr h:=(Zj2 hj).2 (by subst ht;rw[if_neg (by cases w<;>decide)];exact hk)
theorem Zsd{g:Nat}{w:Bool}(hj:fr g=.un)(hk:WD N base l (λfr' h' ts=>Q fr' h' ((j,.no)::ts)) (fr.put d .un) h):WD N base ((j,⟨d,op,some (g,w)⟩)::l) Q fr h:=by
 rw[ZkY,Zgp,hj,V.is_un,if_neg (by decide)];exact hk
theorem Zbz(hk:Q fr h []):WD N base [] Q fr h:=Zmp.2 hk
end draws

/-! Where the order is Zep:apart. -/
theorem ZP{z z':Bool}{t t':List Nat}{n n':Nat}(h1:z=false->n∉t')(h2:z'=false->n'∉t):(Tr.op true z t n).apart (.op true z' t' n'):=⟨.inl ⟨rfl,rfl⟩,h1,h2⟩
theorem Zp4{l l' z z':Bool}{t t':List Nat}{n n':Nat}(h:∀r∈t,r∉t')(h1:z=false->n∉t')(h2:z'=false->n'∉t):(Tr.op l z t n).apart (.op l' z' t' n'):=⟨.inr h,h1,h2⟩
theorem Zj6{l z:Bool}{t:List Nat}{n:Nat}{c:Nat->Prop}(h1:l=true)(h2:z=true)(h:∀r∈t,¬c r):(Tr.op l z t n).apart (.call c):=⟨h1,h2,h⟩
theorem ZfP{l z:Bool}{t:List Nat}{n:Nat}{c:Nat->Prop}(h1:l=true)(h:∀r∈t,¬c r):(Tr.call c).apart (.op l z t n):=⟨h1,h⟩
theorem Zen{t:Tr}:Tr.no.apart t:=trivial
theorem Zj5{t:Tr}:t.apart .no:=by cases t<;>trivial

/-! Results. -/
theorem ZaF{fr:Fr}{h:Hp}:ZbO fr h []=some []:=rfl
theorem Zcd{fr:Fr}{h:Hp}{n:Nat}{v:V}{l:List Res}{vs:List V}(hv:fr n=v)(ht:ZbO fr h l=some vs):ZbO fr h (.t n::l)=some (v::vs):=by simp[ZbO,ZgI,hv,ht]
theorem Zjp{fr:Fr}{h:Hp}{n r o sz:Nat}{agg w:Bool}{cs:List V}{v:V}{l:List Res}{vs:List V}(hr:fr n=.p r o)(hb:h.m r=some (.cells w cs))(hv:ZbG agg cs o sz=some v)(ht:ZbO fr h l=some vs):ZbO fr h (.cell n agg sz::l)=some (v::vs):=by simp[ZbO,ZgI,hr,hb,hv,ht]
theorem Zby{rs:List Res}{Q:V->Hp->Prop}{fr:Fr}{h:Hp}{vs:List V}(hv:ZbO fr h rs=some vs)(hq:Q (Zka vs) h):Ret rs Q .ret fr h:=by simp only[Ret,hv];exact hq
theorem ZrV{rs:List Res}{Q:V->Hp->Prop}{fr:Fr}{h:Hp}{vs:List V}(hv:ZbO fr h rs=some vs)(hq:Q (Zka vs) h):Ret rs Q .normal fr h:=by simp only[Ret,hv];exact hq

/-! What is worked out:partial functions. -/
def ck{α:Type}(c:Prop)[Decidable c](o:Option α):Option α:=if c then o else none
theorem Zf{α:Type}{c:Prop}[Decidable c]{o:Option α}(h:c):ck c o=o:=if_pos h
theorem ZiK{α:Type}{c:Prop}[Decidable c]{o:Option α}{r:α}(h:ck c o=some r):c/\o=some r:=by
 unfold ck at h;split at h
 .rename_i hc;exact⟨hc,h⟩
 .cases h
theorem ZbL{α β:Type}{o:Option α}{f:α->Option β}{r:β}(h:o.bind f=some r):∃x,o=some x/\f x=some r:=Option.bind_eq_some_iff.1 h
theorem Zd7{α:Type}{c:Bool}{a b:Option α}{r:α}(h:(if c=true then a else b)=some r):(c=true/\a=some r)\/(c=false/\b=some r):=by
 cases c
 .exact .inr ⟨rfl,by simpa using h⟩
 .exact .inl ⟨rfl,by simpa using h⟩

def big:Nat:=18446744073709551616
def ZeW{κ β:Type}[DecidableEq κ](z:β)(k:κ):List (κ×β)->β
 |[]=>z
 |p::l=>if k=p.1 then p.2 else ZeW z k l
def Ze3{κ β:Type}[DecidableEq κ](k:κ)(v:β):List (κ×β)->List (κ×β)
 |[]=>[(k,v)]
 |p::l=>if k=p.1 then(k,v)::l else p::Ze3 k v l
def Zn{σ ρ:Type}(step:σ->Option (σ⊕ρ)):Nat->σ->Option ρ
 |0,_=>none
 |n+1,s=>match step s with
  |some (.inl s')=>Zn step n s'
  |some (.inr r)=>some r
  |none=>none
theorem ZnY{a:Code}{σ ρ:Type}{step:σ->Option (σ⊕ρ)}{Q:Ex->Fr->Hp->Prop}(I:σ->Fr->Hp->Prop){n:Nat}{s:σ}{r:ρ}(hr:Zn step n s=some r){fr:Fr}{h:Hp}(h0:I s fr h)
  (hs:∀s fr h,I s fr h->∀o,step s=some o->W N a (λe fr' h'=>(∃s',o=.inl s'/\e=.normal/\I s' fr' h')\/(∃r',o=.inr r'/\e≠.normal/\(r'=r->Q e fr' h'))) fr h):W N (.loop a) Q fr h:=by
 induction n generalizing s fr h with
 |zero=>cases hr
 | succ n ih=>
  refine Zj4 ?_;simp only[Zn]at hr;split at hr
  .rename_i s' hst;refine(hs s fr h h0 _ hst).mono ?_;rintro e fr' h' (⟨s2,he,rfl,hI⟩|⟨r2,he,_⟩)
   .cases he;exact ih hr hI
   .cases he
  .rename_i r2 hst;cases hr;refine(hs s fr h h0 _ hst).mono ?_;rintro e fr' h' (⟨s2,he,_⟩|⟨r2,he,hn,hQ⟩)
   .cases he
   .cases he;have:=hQ rfl
    cases e with
    |normal=>exact absurd rfl hn
    |exit i=>exact this
    |ret=>exact this
  .cases hr

/-! What can be read. -/
theorem Sl.rd{α:Type}{E:Enc α}{h:Hp}{v:V}{l:List α}(hs:Sl E h v l):Rd (λr=>r<h.n) h E v l:=λk hk=>hs.ext ⟨hk.1,hk.2⟩
theorem RdB.of{h:Hp}{r:Nat}{w:Bool}{cs:List V}(hb:h.m r=some (.cells w cs)):RdB (λr=>r<h.n) h r cs:=λk hk=>⟨w,(hk.2 r (Hp.lt hb)).trans hb⟩

def Bm(h:Hp)(Ω:List Ent):Nat->Prop:=λr=>r<h.n/\∀e∈Ω,r∉e.rs
theorem Own.startM{h:Hp}{Ω:List Ent}(hP:∀e∈Ω,e.P h)(hs:Ω.Pairwise apart):Own (Bm h Ω) h h Ω:=⟨Nat.le_refl _,λ_ _=>rfl,λ_ hr=>hr.1,hP,λe he r hr hb=>hb.2 e he hr,hs⟩
theorem Own.toM{B:Nat->Prop}{h k:Hp}{Ω Ωi:List Ent}(H:Own B h k Ω)(is:List Nat)(hi:is.map (ent Ω)=Ωi)(hn:is.Nodup):Own (Bm k Ωi) k k Ωi:=Own.startM (H.pick is hi hn).P (H.pick is hi hn).sep
theorem Own.rdM{B:Nat->Prop}{h k:Hp}{Ω Ωi:List Ent}(H:Own B h k Ω)(is:List Nat)(hi:is.map (ent Ω)=Ωi){α:Type}{E:Enc α}{v:V}{l:List α}(s:Rd B h E v l):Rd (Bm k Ωi) k E v l:=by
 subst hi;refine λk' hk=>s k' ⟨Nat.le_trans H.n hk.1,λr hr=>(hk.2 r ⟨Nat.lt_of_lt_of_le (H.lo r hr) H.n,λe he hq=>?_⟩).trans (H.base r hr)⟩;obtain⟨i,_,rfl⟩:=List.mem_map.1 he;exact H.offAt i rfl r hq hr
theorem Own.slM{B:Nat->Prop}{h k:Hp}{Ω Ωi:List Ent}(H:Own B h k Ω)(is:List Nat)(hi:is.map (ent Ω)=Ωi)(j:Nat)(hj:j∉is){α:Type}{E:Enc α}{v:V}{l:List α}(he:ent Ω j=eSl E v l):Rd (Bm k Ωi) k E v l:=by
 subst hi;intro k' hk;refine((H.slN j he).loc λr hr=>hk.2 r ⟨H.ltAt j he r hr,λe hm hq=>?_⟩).to;obtain⟨i,hi,rfl⟩:=List.mem_map.1 hm;exact H.apartAt (i:=i) (j:=j) rfl he (λhij=>hj (hij▸hi)) r hq hr
theorem Own.rd0{B:Nat->Prop}{h k:Hp}{Ω:List Ent}(H:Own B h k Ω){α:Type}{E:Enc α}{v:V}{l:List α}(s:Rd B h E v l):Sl E k v l:=s k H.ext
theorem Own.rdB0{B:Nat->Prop}{h k:Hp}{Ω:List Ent}(H:Own B h k Ω){r:Nat}{cs:List V}(s:RdB B h r cs):∃w,k.m r=some (.cells w cs):=s k H.ext

/-! The steps of what is printed. -/
theorem ckk{α:Type}{P:Prop}{c:Prop}[Decidable c]{o:Option α}{r:α}(hp:ck c o=some r)(k:c->o=some r->P):P:=k (ZiK hp).1 (ZiK hp).2
theorem bdk{α β:Type}{o:Option α}{f:α->Option β}{r:β}{P:α->Prop}(hp:o.bind f=some r)(h:∀x,o=some x->P x):∃x,P x/\f x=some r:=by
 obtain⟨x,h1,h2⟩:=ZbL hp;exact⟨x,h x h1,h2⟩
theorem ifk{α:Type}{P:Prop}{t:Bool}{a b:Option α}{r:α}(hp:(if t=true then a else b)=some r)(h1:t=true->a=some r->P)(h2:t=false->b=some r->P):P:=by
 rcases Zd7 hp with⟨h,hp⟩|⟨h,hp⟩
 .exact h1 h hp
 .exact h2 h hp
theorem ZaC{Q:Ex->Fr->Hp->Prop}{fr:Fr}{h:Hp}{α:Type}{c:Opd}{A B:Code}{t:Bool}{a b:Option α}{r:α}(hp:(if t=true then a else b)=some r)(hx:fr.ev c=.b t)(h1:t=true->a=some r->W N A Q fr h)(h2:t=false->b=some r->W N B Q fr h):W N (.cond c A B) Q fr h :=
 ifk hp (λht hp=>ZpZ hx ht (h1 ht hp)) (λht hp=>ZpY hx ht (h2 ht hp))
theorem Zmu{Q:Ex->Fr->Hp->Prop}{fr:Fr}{h:Hp}{α β:Type}{o:Option α}{f:α->Option β}{r:β}{a:Code}(hp:o.bind f=some r)(J:α->Ex->Fr->Hp->Prop)(h1:∀x,o=some x->W N a (J x) fr h)(h2:∀x,f x=some r->∀e fr' h',J x e fr' h'->Q e fr' h'):W N a Q fr h:=by
 obtain⟨x,hx,hf⟩:=ZbL hp;exact(h1 x hx).mono (h2 x hf)
@[reducible] def lpo{σ ρ:Type}(I:σ->Fr->Hp->Prop)(J:ρ->Ex->Fr->Hp->Prop):σ⊕ρ->Ex->Fr->Hp->Prop
 |.inl s,e,fr,h=>e=.normal/\I s fr h
 |.inr r,e,fr,h=>e≠.normal/\J r e fr h
theorem Zcw{Q:Ex->Fr->Hp->Prop}{fr:Fr}{h:Hp}{a:Code}{σ ρ β:Type}{step:σ->Option (σ⊕ρ)}{n:Nat}{s:σ}{f:ρ->Option β}{r:β}(hp:(Zn step n s).bind f=some r)(I:σ->Fr->Hp->Prop)(J:ρ->Ex->Fr->Hp->Prop)(h0:I s fr h)
  (hs:∀s fr h,I s fr h->∀o,step s=some o->W N a (lpo I J o) fr h)(h2:∀x,f x=some r->∀e fr' h',J x e fr' h'->Q e fr' h'):W N (.loop a) Q fr h:=by
 obtain⟨x,hx,hf⟩:=ZbL hp;refine W.mono (Q:=J x) ?_ (h2 x hf);refine ZnY I hx h0 ?_;intro s fr h hI o ho;refine(hs s fr h hI o ho).mono ?_;intro e fr' h' hl;rcases o with s'|r'
 .exact .inl ⟨s',rfl,hl.1,hl.2⟩
 .exact .inr ⟨r',rfl,hl.1,λhr=>hr▸hl.2⟩
end Mu
