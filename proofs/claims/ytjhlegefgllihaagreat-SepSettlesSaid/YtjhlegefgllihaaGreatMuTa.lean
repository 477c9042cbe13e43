/- Contracts whose steps find by themselves what they Zgg: rules. -/
import Derived.Test.YtjhlegefgllihaaGreatMuA
import Derived.Test.YtjhlegefgllihaaGreatMuR
set_option linter.unusedVariables false
namespace Mu
open Go (IntKind BinOp UnOp)
inductive FB(r:Nat)(cs:List V):List Ent->Prop
 |z {Ω:List Ent}:FB r cs (Z3 r cs::Ω)
 |s {e:Ent}{Ω:List Ent}:FB r cs Ω->FB r cs (e::Ω)
theorem FB.at{r:Nat}{cs:List V}{Ω:List Ent}(f:FB r cs Ω):∃i,ent Ω i=Z3 r cs:=by
 induction f with
 |z=>exact⟨0,rfl⟩
 |s _ ih=>obtain⟨i,h⟩:=ih;exact⟨i+1,h⟩
inductive FS{α:Type}(E:Enc α)(v:V)(l:List α):List Ent->Prop
 |z {Ω:List Ent}:FS E v l (eSl E v l::Ω)
 |s {e:Ent}{Ω:List Ent}:FS E v l Ω->FS E v l (e::Ω)
theorem FS.at{α:Type}{E:Enc α}{v:V}{l:List α}{Ω:List Ent}(f:FS E v l Ω):∃i,ent Ω i=eSl E v l:=by
 induction f with
 |z=>exact⟨0,rfl⟩
 |s _ ih=>obtain⟨i,h⟩:=ih;exact⟨i+1,h⟩
section
variable {r:Nat}{v:V}{cs:List V}{B:Nat->Prop}{h k:Hp}{Ω:List Ent}{α:Type}{E:Enc α}{l:List α}
theorem lkO(H:Own B h k Ω)(f:FS E v l Ω):Sl E k v l:=by obtain⟨i,q⟩:=f.at;exact H.sl i q
theorem lkR(H:Own B h k Ω)(f:Rd B h E v l):Sl E k v l:=H.rd0 f
theorem lkS(H:Own (λr=>r<h.n) h k Ω)(f:Sl E h v l):Sl E k v l:=H.rd0 f.rd
theorem lkB(H:Own B h k Ω)(f:FB r cs Ω):k.m r=some (.cells true cs):=by obtain⟨i,q⟩:=f.at;exact H.box i q
end
def Fr.sets(fr:Fr):List (Nat×V)->Fr
 |[]=>fr
 |p::l=>(Fr.sets fr l).put (some p.1) p.2
def At(fr:Fr):List (Nat×V)->Prop
 |[]=>True
 |p::l=>fr p.1=p.2/\At fr l
theorem At.eq{fr:Fr}:∀{l:List (Nat×V)},At fr l->fr.sets l=fr
 |[],_=>rfl
 |p::l,h=>by
  have:=At.eq h.2;unfold Fr.sets;rw[this];funext i;unfold Fr.put Fr.set;have h1:=h.1;dsimp only;split
  .rename_i e;rw[e];exact h1.symm
  .rfl
def bit(m i:Nat):Bool:=Nat.beq (Nat.land (Nat.shiftRight m i) 1) 1
theorem Zku(m i:Nat):bit m i=m.testBit i:=by
 unfold bit Nat.testBit;show Nat.beq ((m >>> i)&&&1) 1=(1&&&(m >>> i) !=0);rw[Nat.and_comm];have:(m >>> i)&&&1=0\/(m >>> i)&&&1=1:=by
  rw[Nat.and_one_is_mod];omega
 rcases this with h|h
 .rw[show(1&&&m >>> i)=0 from(Nat.and_comm _ _).trans h];rfl
 .rw[show(1&&&m >>> i)=1 from(Nat.and_comm _ _).trans h];rfl
theorem ZgW{a b i:Nat}(h:bit (Nat.lor a b) i=false):bit a i=false/\bit b i=false:=by
 rw[Zku]at h⊢;rw[Zku];have:Nat.lor a b=a ||| b:=rfl;rw[this,Nat.testBit_or]at h;simpa using h
theorem Zlg{d i:Nat}(h:bit (Nat.shiftLeft 1 d) i=false):i≠d:=by
 rintro rfl;rw[Zku]at h;have:Nat.shiftLeft 1 i=2^i:=by show 1 <<< i=_;rw[Nat.shiftLeft_eq,Nat.one_mul]
 rw[this,Nat.testBit_two_pow_self]at h;cases h
def wrO:List Oper->Nat
 |[]=>0
 |⟨some d,_,_⟩::l=>Nat.lor (Nat.shiftLeft 1 d) (wrO l)
 |⟨none,_,_⟩::l=>wrO l
def wrD:List (Nat×Oper)->Nat
 |[]=>0
 |(_,⟨some d,_,_⟩)::l=>Nat.lor (Nat.shiftLeft 1 d) (wrD l)
 |(_,⟨none,_,_⟩)::l=>wrD l
def wr:Code->Nat
 |.region ops=>wrO ops
 |.draw ops _=>wrO ops
 |.seq a b=>Nat.lor (wr a) (wr b)
 |.cond _ a b=>Nat.lor (wr a) (wr b)
 |.block _ a=>wr a
 |.loop a=>wr a
 |_=>0
def Keep(m:Nat)(fr fr':Fr):Prop:=∀i,bit m i=false->fr' i=fr i
theorem Keep.rfl'{m:Nat}{fr:Fr}:Keep m fr fr:=λ_ _=>rfl
theorem Keep.trans{m:Nat}{fr fr' fr'':Fr}(h:Keep m fr fr')(h':Keep m fr' fr''):Keep m fr fr'':=λi hi=>(h' i hi).trans (h i hi)
theorem Zh7{call:Zbu}:∀{l:List Oper}{fr fr':Fr}{h h':Hp},ZaS call l fr h=some (fr',h')->Keep (wrO l) fr fr'
 |[],fr,fr',h,h',he=>by
  simp only[ZaS,Option.some.injEq,Prod.mk.injEq]at he;obtain⟨rfl,_⟩:=he;exact Keep.rfl'
 | o::l,fr,fr',h,h',he=>by
  simp only[ZaS]at he;split at he
  .have:=Zh7 he;obtain⟨d,op,g⟩:=o;intro i hi
   cases d with
   |none=>exact this i hi
   |some d=>
    obtain⟨h1,h2⟩:=ZgW hi;rw[this i h2];simp only[Fr.put,Fr.set,if_neg (Zlg h1)]
  .cases he
theorem Zgu{call:Zbu}{base:Nat}:∀{l:List (Nat×Oper)}{fr fr':Fr}{h h':Hp}{ts:List (Nat×Tr)},zB call base l fr h=some (fr',h',ts)->Keep (wrD l) fr fr'
 |[],fr,fr',h,h',ts,he=>by
  simp only[zB,Option.some.injEq,Prod.mk.injEq]at he;obtain⟨rfl,_⟩:=he;exact Keep.rfl'
 | (j,o)::l,fr,fr',h,h',ts,he=>by
  simp only[zB]at he;split at he
  .split at he
   .rename_i hr;simp only[Option.some.injEq,Prod.mk.injEq]at he;obtain⟨rfl,_⟩:=he;have:=Zgu hr;obtain⟨d,op,g⟩:=o;intro i hi
    cases d with
    |none=>exact this i hi
    |some d=>
     obtain⟨h1,h2⟩:=ZgW hi;rw[this i h2];simp only[Fr.put,Fr.set,if_neg (Zlg h1)]
   .cases he
  .cases he
theorem Zjy:∀(l:List Oper)(n:Nat),wrD ((List.range' n l.length).zip l)=wrO l
 |[],_=>rfl
 |⟨some d,_,_⟩::l,n=>by simp only[List.length_cons,List.range'_succ,List.zip_cons_cons,wrD,wrO,Zjy l]
 |⟨none,_,_⟩::l,n=>by simp only[List.length_cons,List.range'_succ,List.zip_cons_cons,wrD,wrO,Zjy l]
theorem ZjZ{call:Zbu}{l:List Oper}{prs:List (Nat×Nat)}{fr fr':Fr}{h h':Hp}(he:ZbC call l prs fr h=some (fr',h')):Keep (wrO l) fr fr':=by
 unfold ZbC at he;split at he
 .rename_i hd;have:=Zgu hd;rw[List.range_eq_range',Zjy]at this;split at he
  .simp only[Option.some.injEq,Prod.mk.injEq]at he;obtain⟨rfl,_⟩:=he;exact this
  .cases he
 .cases he
theorem Zir{F:Fr->Hp->Option (Ex×Fr×Hp)}{m:Nat}(hF:∀fr h e fr' h',F fr h=some (e,fr',h')->Keep m fr fr'):∀{k:Nat}{fr fr':Fr}{h h':Hp}{e:Ex},Zer F k fr h=some (e,fr',h')->Keep m fr fr'
 |0,_,_,_,_,_,he=>by cases he
 |k+1,fr,fr',h,h',e,he=>by
  simp only[Zer]at he;split at he
  .rename_i hb;exact(hF _ _ _ _ _ hb).trans (Zir hF he)
  .exact hF _ _ _ _ _ he
theorem ZcH{call:Zbu}{k:Nat}:∀{c:Code}{fr fr':Fr}{h h':Hp}{e:Ex},Zai call k c fr h=some (e,fr',h')->Keep (wr c) fr fr'
 |.skip,fr,fr',h,h',e,he=>by
  simp only[Zai,Option.some.injEq,Prod.mk.injEq]at he;obtain⟨_,rfl,_⟩:=he;exact Keep.rfl'
 |.region ops,fr,fr',h,h',e,he=>by
  simp only[Zai]at he;split at he
  .rename_i hb;simp only[Option.some.injEq,Prod.mk.injEq]at he;obtain⟨_,rfl,_⟩:=he;exact Zh7 hb
  .cases he
 |.draw ops prs,fr,fr',h,h',e,he=>by
  simp only[Zai]at he;split at he
  .rename_i hb;simp only[Option.some.injEq,Prod.mk.injEq]at he;obtain⟨_,rfl,_⟩:=he;exact ZjZ hb
  .cases he
 |.seq a b,fr,fr',h,h',e,he=>by
  simp only[Zai]at he;intro i hi;obtain⟨h1,h2⟩:=ZgW hi;split at he
  .rename_i hb;exact(ZcH he i h2).trans (ZcH hb i h1)
  .exact ZcH he i h1
 |.cond c a b,fr,fr',h,h',e,he=>by
  simp only[Zai]at he;intro i hi;obtain⟨h1,h2⟩:=ZgW hi;split at he
  .exact ZcH he i h1
  .exact ZcH he i h2
  .cases he
 |.block id a,fr,fr',h,h',e,he=>by
  simp only[Zai]at he;split at he
  .rename_i hb;split at he<;>simp only[Option.some.injEq,Prod.mk.injEq]at he<;>obtain⟨_,rfl,_⟩:=he<;>exact(ZcH hb:Keep (wr a) _ _)
  .exact(ZcH he:Keep (wr a) _ _)
 |.loop a,fr,fr',h,h',e,he=>Zir (m:=wr a) (λ_ _ _ _ _ hb=>ZcH hb) he
 |.exit id,fr,fr',h,h',e,he=>by
  simp only[Zai,Option.some.injEq,Prod.mk.injEq]at he;obtain⟨_,rfl,_⟩:=he;exact Keep.rfl'
 |.ret,fr,fr',h,h',e,he=>by
  simp only[Zai,Option.some.injEq,Prod.mk.injEq]at he;obtain⟨_,rfl,_⟩:=he;exact Keep.rfl'
 |.bad,_,_,_,_,_,he=>by cases he
theorem W.keep{N:Prog}{a:Code}{Q:Ex->Fr->Hp->Prop}{fr:Fr}{h:Hp}(hw:W N a Q fr h):W N a (λe fr' h'=>Keep (wr a) fr fr'/\Q e fr' h') fr h:=by
 obtain⟨k,e,fr',h',he,q⟩:=hw;exact⟨k,e,fr',h',he,ZcH he,q⟩

/-! Entries in a list. -/
inductive Up(e:Ent):List Ent->(Ent->List Ent)->Prop
 |z {Ω:List Ent}:Up e (e::Ω) λx=>x::Ω
 |s {a:Ent}{Ω:List Ent}{f:Ent->List Ent}:Up e Ω f->Up e (a::Ω) λx=>a::f x
theorem Up.at{e:Ent}{Ω:List Ent}{f:Ent->List Ent}(u:Up e Ω f):∃i,ent Ω i=e/\∀e',upd Ω i e'=f e':=by
 induction u with
 |z=>exact⟨0,rfl,λ_=>rfl⟩
 |s _ ih=>obtain⟨i,h1,h2⟩:=ih;exact⟨i+1,h1,λe'=>by simp only[upd,h2]⟩
inductive Sn:List Ent->(Ent->List Ent)->Prop
 |z:Sn [] λe=>[e]
 |s {a:Ent}{Ω:List Ent}{f:Ent->List Ent}:Sn Ω f->Sn (a::Ω) λe=>a::f e
theorem Sn.eq{Ω:List Ent}{f:Ent->List Ent}(s:Sn Ω f)(e:Ent):Ω++[e]=f e:=by
 induction s with
 |z=>rfl
 |s _ ih=>simp only[List.cons_append,ih]
inductive Ap:List Ent->(List Ent->List Ent)->Prop
 |z:Ap [] λl=>l
 |s {a:Ent}{Ω:List Ent}{f:List Ent->List Ent}:Ap Ω f->Ap (a::Ω) λl=>a::f l
theorem Ap.eq{Ω:List Ent}{f:List Ent->List Ent}(s:Ap Ω f)(l:List Ent):Ω++l=f l:=by
 induction s with
 |z=>rfl
 |s _ ih=>simp only[List.cons_append,ih]
inductive Dl(e:Ent):List Ent->List Ent->Prop
 |z {Ω:List Ent}:Dl e (e::Ω) Ω
 |s {a:Ent}{Ω Ω':List Ent}:Dl e Ω Ω'->Dl e (a::Ω) (a::Ω')
theorem Dl.perm{e:Ent}{Ω Ω':List Ent}(d:Dl e Ω Ω'):Ω.Perm (e::Ω'):=by
 induction d with
 |z=>exact .refl _
 |s _ ih=>exact(ih.cons _).trans (.swap _ _ _)
inductive Pk:List Ent->List Ent->List Ent->Prop
 |z {Ω:List Ent}:Pk [] Ω Ω
 |s {e:Ent}{l Ω Ω' Ω'':List Ent}:Dl e Ω Ω'->Pk l Ω' Ω''->Pk (e::l) Ω Ω''
theorem Pk.perm{l Ω Ω':List Ent}(p:Pk l Ω Ω'):Ω.Perm (l++Ω'):=by
 induction p with
 |z=>exact .refl _
 |s d _ ih=>exact d.perm.trans (ih.cons _)
theorem Own.perm{B:Nat->Prop}{h k:Hp}{Ω Ω':List Ent}(H:Own B h k Ω)(p:Ω.Perm Ω'):Own B h k Ω' :=
 ⟨H.n,H.base,H.lo,λe he=>H.P e (p.mem_iff.2 he),λe he=>H.off e (p.mem_iff.2 he),(p.pairwise_iff (λ{a b} h=>ZaT a b h)).1 H.sep⟩
theorem Own.left{B:Nat->Prop}{h k:Hp}{l m:List Ent}(H:Own B h k (l++m)):Own B h k l :=
 ⟨H.n,H.base,H.lo,λe he=>H.P e (List.mem_append_left _ he),λe he=>H.off e (List.mem_append_left _ he),(List.pairwise_append.1 H.sep).1⟩
theorem Own.pks{B:Nat->Prop}{h k:Hp}{Ω Ω' Ω'':List Ent}(H:Own B h k Ω)(p:Pk Ω' Ω Ω''):Own B h k Ω':=(H.perm p.perm).left
inductive Pq:List Ent->List Ent->Prop
 |z {Ω:List Ent}:Pq [] Ω
 |s {e:Ent}{l Ω Ω':List Ent}:Dl e Ω Ω'->Pq l Ω'->Pq (e::l) Ω
 |n {α:Type}{E:Enc α}{l Ω:List Ent}:Pq l Ω->Pq (eSl E .sn []::l) Ω
 |a {α:Type}{E:Enc α}{l Ω:List Ent}:Pq l Ω->Pq (Zx E [] []::l) Ω
 |u {α:Type}{E:Enc α}{v:V}{m:List α}{z:Int}{l Ω Ω':List Ent}:Dl (eSl E v m) Ω Ω'->(0<=z/\z<=(m.length:Int))->Pq l Ω'->Pq (eSl E (v.cut 0 z.toNat) (m.take z.toNat)::l) Ω
 |f {α:Type}{E:Enc α}{v:V}{m:List α}{z:Int}{l Ω Ω':List Ent}:Dl (eSl E v m) Ω Ω'->(0<=z/\z<=(m.length:Int))->Pq l Ω'->Pq (eSl E (v.cut z.toNat m.length) (m.drop z.toNat)::l) Ω
theorem Own.nilL{B:Nat->Prop}{h k:Hp}{Ω:List Ent}(H:Own B h k Ω){α:Type}(E:Enc α):Own B h k (Ω++[eSl E .sn []]):=H.nil E
theorem Pq.own{B:Nat->Prop}{h k:Hp}{l Ω:List Ent}(p:Pq l Ω):∀pre,Own B h k (pre++Ω)->Own B h k (pre++l):=by
 induction p with
 |z=>intro pre H;rw[List.append_nil];exact H.left
 |@s e l Ω Ω' d _ ih=>
  intro pre H;have:=ih (pre++[e]) (by rw[List.append_assoc];exact H.perm (d.perm.append_left pre));rwa[List.append_assoc]at this
 |@n α E l Ω _ ih=>
  intro pre H;have:=ih (pre++[eSl E .sn []]) (by rw[List.append_assoc];exact(H.nilL E).perm (by rw[List.append_assoc];exact List.perm_append_comm.append_left pre));rwa[List.append_assoc]at this
 |@a α E l Ω _ ih=>
  intro pre H;have:=ih (pre++[Zx E [] []]) (by rw[List.append_assoc];exact(H.allNil E 0).perm (by rw[List.append_assoc];exact List.perm_append_comm.append_left pre));rwa[List.append_assoc]at this
 | @u α E v m z l Ω Ω' d hz _ ih=>
  intro pre H;have:=ih (pre++[eSl E (v.cut 0 z.toNat) (m.take z.toNat)]) (by
   rw[List.append_assoc];have H1:Own B h k (eSl E v m::(pre++Ω')):=H.perm ((d.perm.append_left pre).trans List.perm_middle);exact(H1.cutU 0 rfl hz).perm List.perm_middle.symm)
  rwa[List.append_assoc]at this
 | @f α E v m z l Ω Ω' d hz _ ih=>
  intro pre H;have:=ih (pre++[eSl E (v.cut z.toNat m.length) (m.drop z.toNat)]) (by
   rw[List.append_assoc];have H1:Own B h k (eSl E v m::(pre++Ω')):=H.perm ((d.perm.append_left pre).trans List.perm_middle);exact(H1.cutF 0 rfl hz).perm List.perm_middle.symm)
  rwa[List.append_assoc]at this
theorem Own.pqs{B:Nat->Prop}{h k:Hp}{Ω Ω':List Ent}(H:Own B h k Ω)(p:Pq Ω' Ω):Own B h k Ω':=p.own [] H
class Mk {α:Type}(E:Enc α) (ws:List V) (y:outParam α):Prop where
 eq:E.c y=ws
instance{α:Type}{E:Enc α}{y:α}:Mk E (E.c y) y:=⟨rfl⟩
inductive Key where
 |r(n:Nat)
 |v(x:V)
 |a
inductive R1:Key->List Ent->List Ent->Prop
 |zr {n:Nat}{cs:List V}{Ω:List Ent}:R1 (.r n) (Z3 n cs::Ω) Ω
 |zv {α:Type}{E:Enc α}{v:V}{l:List α}{Ω:List Ent}:R1 (.v v) (eSl E v l::Ω) Ω
 |za {α:Type}{E:Enc α}{vs:List V}{ll:List (List α)}{Ω:List Ent}:R1 .a (Zx E vs ll::Ω) Ω
 |s {k:Key}{a:Ent}{Ω Ω':List Ent}:R1 k Ω Ω'->R1 k (a::Ω) (a::Ω')
inductive Rm:List Key->List Ent->List Ent->Prop
 |z {Ω:List Ent}:Rm [] Ω Ω
 |s {k:Key}{l:List Key}{Ω Ω' Ω'':List Ent}:R1 k Ω Ω'->Rm l Ω' Ω''->Rm (k::l) Ω Ω''
inductive Bx where
 |c(r j:Nat)
 |d(i j:Nat)
def vN:List V->Nat->V
 |[],_=>.un
 |v::_,0=>v
 |_::l,j+1=>vN l j
def rf:V->Nat
 |.p r _=>r
 |_=>0
inductive Vl(Ω:List Ent):List V->List Bx->List V->Prop
 |z {vs:List V}:Vl Ω vs [] vs
 |s {r j:Nat}{cs:List V}{v:V}{l:List Bx}{az vs:List V}:FB r cs Ω->cs[j]?=some v->Vl Ω (az++[v]) l vs->Vl Ω az (.c r j::l) vs
 |t {i j:Nat}{cs:List V}{v:V}{l:List Bx}{az vs:List V}:FB (rf (vN az i)) cs Ω->cs[j]?=some v->Vl Ω (az++[v]) l vs->Vl Ω az (.d i j::l) vs
/-! Frames. -/
def Fr.junk(fr fr':Fr)(m:Nat):Fr:=λi=>match bit m i with|true=>fr' i|false=>fr i
theorem Zlj{fr fr':Fr}{m:Nat}(h:Keep m fr fr'):fr.junk fr' m=fr':=by
 funext i;unfold Fr.junk;split
 .rfl
 .rename_i hb;exact(h i hb).symm
theorem kpI{m:Nat}{fr fr':Fr}{Q:Prop}{l:List (Nat×V)}(hk:Keep m fr fr')(g:∀w,fr'=(fr.junk w m).sets l->Q):At fr' l->Q:=λha=>g fr' (by rw[Zlj hk,At.eq ha])
theorem Zut{fr:Fr}{i:Nat}{v:V}{l:List (Nat×V)}(h:fr i=v)(t:At fr l):At fr ((i,v)::l):=⟨h,t⟩
theorem Zuu{fr:Fr}:At fr []:=trivial

def Out{α:Type}(o:Option α)(P:α->Prop):Prop:=∀x,o=some x->P x
theorem noS{α:Type}{r:α}{P:Prop}(h:none=some r):P:=nomatch h
theorem Zrh{α:Type}{o:Option α}{P:α->Prop}(f:∀x,o=some x->P x):Out o P:=f
/-! Loops,joins:what isn't turned is as it was. -/
section
variable {N:Prog}{Q:Ex->Fr->Hp->Prop}{fr:Fr}{h:Hp}
theorem Zun{a:Code}{σ ρ β:Type}{step:σ->Option (σ⊕ρ)}{n:Nat}{s:σ}{f:ρ->Option β}{r:β}{B:Nat->Prop}{h0:Hp}{Ω R:List Ent}{Vs:List V}{m:Nat}(hp:(Zn step n s).bind f=some r)(D:Fr->List Bx)(C:Fr->List V->List Key)(I:(Hp->List Ent->Prop)->List Ent->Fr->List V->σ->Fr->Hp->Prop)(J:(Hp->List Ent->Prop)->List Ent->Fr->List V->ρ->Ex->Fr->Hp->Prop)
  (hO:Own B h0 h Ω)(hd:Vl Ω [] (D fr) Vs)(hc:Rm (C fr Vs) Ω R)(hm:wr a=m)
  (hi:I (Own B h0) R fr Vs s fr h)
  (hs:∀s fr' k',Keep m fr fr'->I (Own B h0) R fr Vs s fr' k'->Out (step s) λo=>W N a (lpo (I (Own B h0) R fr Vs) (J (Own B h0) R fr Vs) o) fr' k')
  (h2:∀x,f x=some r->∀e fr' k',Keep m fr fr'->J (Own B h0) R fr Vs x e fr' k'->Q e fr' k'):W N (.loop a) Q fr h:=by
 subst hm;refine Zcw hp (λs fr' k'=>Keep (wr a) fr fr'/\I (Own B h0) R fr Vs s fr' k') (λx e fr' k'=>Keep (wr a) fr fr'/\J (Own B h0) R fr Vs x e fr' k') ⟨Keep.rfl',hi⟩ ?_ ?_
 .intro s fr' k' hk o ho;refine(hs s fr' k' hk.1 hk.2 o ho).keep.mono ?_;intro e fr'' k'' h3;rcases o with s'|r'
  .exact⟨h3.2.1,hk.1.trans h3.1,h3.2.2⟩
  .exact⟨h3.2.1,hk.1.trans h3.1,h3.2.2⟩
 .intro x hx e fr' k' hj;exact h2 x hx e fr' k' hj.1 hj.2
theorem Zum{α β:Type}{o:Option α}{f:α->Option β}{r:β}{a:Code}{B:Nat->Prop}{h0:Hp}{Ω R:List Ent}{Vs:List V}{m:Nat}(hp:o.bind f=some r)(D:Fr->List Bx)(C:Fr->List V->List Key)(J:(Hp->List Ent->Prop)->List Ent->Fr->List V->α->Ex->Fr->Hp->Prop)
  (hO:Own B h0 h Ω)(hd:Vl Ω [] (D fr) Vs)(hc:Rm (C fr Vs) Ω R)(hm:wr a=m)
  (h1:Out o λx=>W N a (J (Own B h0) R fr Vs x) fr h)(h2:∀x,f x=some r->∀e fr' h',Keep m fr fr'->J (Own B h0) R fr Vs x e fr' h'->Q e fr' h'):W N a Q fr h:=by
 subst hm;obtain⟨x,hx,hf⟩:=ZbL hp;refine(h1 x hx).keep.mono ?_;intro e fr' h' hj;exact h2 x hf e fr' h' hj.1 hj.2
end

theorem Zbd{σ ρ:Type}{step:σ->Option (σ⊕ρ)}(D:Fr->List Bx)(C:Fr->List V->List Key)(I:(Hp->List Ent->Prop)->List Ent->Fr->List V->σ->Fr->Hp->Prop)(J:(Hp->List Ent->Prop)->List Ent->Fr->List V->ρ->Ex->Fr->Hp->Prop){N:Prog}{Q:Ex->Fr->Hp->Prop}{fr:Fr}{h:Hp}{a:Code}{β:Type}{n:Nat}{s:σ}{f:ρ->Option β}{r:β}{B:Nat->Prop}{h0:Hp}{Ω R:List Ent}{Vs:List V}{m:Nat}(hp:(Zn step n s).bind f=some r)(hO:Own B h0 h Ω)(hd:Vl Ω [] (D fr) Vs)(hc:Rm (C fr Vs) Ω R)(hm:wr a=m)
  (hi:I (Own B h0) R fr Vs s fr h)
  (hs:∀s fr' k',Keep m fr fr'->I (Own B h0) R fr Vs s fr' k'->Out (step s) λo=>W N a (lpo (I (Own B h0) R fr Vs) (J (Own B h0) R fr Vs) o) fr' k')
  (h2:∀x,f x=some r->∀e fr' k',Keep m fr fr'->J (Own B h0) R fr Vs x e fr' k'->Q e fr' k'):W N (.loop a) Q fr h:=Zun hp D C I J hO hd hc hm hi hs h2
theorem ZiA{α:Type}(D:Fr->List Bx)(C:Fr->List V->List Key)(J:(Hp->List Ent->Prop)->List Ent->Fr->List V->α->Ex->Fr->Hp->Prop){N:Prog}{Q:Ex->Fr->Hp->Prop}{fr:Fr}{h:Hp}{β:Type}{o:Option α}{f:α->Option β}{r:β}{a:Code}{B:Nat->Prop}{h0:Hp}{Ω R:List Ent}{Vs:List V}{m:Nat}(hp:o.bind f=some r)
  (hO:Own B h0 h Ω)(hd:Vl Ω [] (D fr) Vs)(hc:Rm (C fr Vs) Ω R)(hm:wr a=m)
  (h1:Out o λx=>W N a (J (Own B h0) R fr Vs x) fr h)(h2:∀x,f x=some r->∀e fr' h',Keep m fr fr'->J (Own B h0) R fr Vs x e fr' h'->Q e fr' h'):W N a Q fr h:=Zum hp D C J hO hd hc hm h1 h2

/-! Groups:operations that wait for a condition,and the pick that ends them. -/
inductive Gr(j:Nat):List Oper->List Oper->Nat->List Oper->Prop
 |z {q:Nat}{x y:Opd}{g:Option (Nat×Bool)}{l:List Oper}:Gr j (⟨some q,.pick (.t j) x y,g⟩::l) [⟨some q,.pick (.t j) x y,g⟩] q l
 |s {a:Oper}{l l1 l2:List Oper}{q:Nat}:Gr j l l1 q l2->Gr j (a::l) (a::l1) q l2
theorem Gr.eq{j q:Nat}{l l1 l2:List Oper}(g:Gr j l l1 q l2):l=l1++l2:=by
 induction g with
 |z=>rfl
 |s _ ih=>rw[ih];rfl
theorem Zkr{N:Prog}{l1 l2:List Oper}{Q:Fr->Hp->Prop}{fr:Fr}{h:Hp}{m:Nat}{P:Fr->Hp->Prop}(hm:wrO l1=m)(h1:WO N l1 P fr h)(h2:∀fr' h',Keep m fr fr'->P fr' h'->WO N l2 Q fr' h'):WO N (l1++l2) Q fr h:=by
 subst hm;refine Zcn l1.length (λfr' h'=>Keep (wrO l1) fr fr'/\P fr' h') ?_ ?_
 .rw[List.take_left']
  .obtain⟨k,fr',h',he,q⟩:=h1;exact⟨k,fr',h',he,Zh7 he,q⟩
  .rfl
 .intro fr' h' hq;rw[List.drop_left']
  .exact h2 fr' h' hq.1 hq.2
  .rfl
def Gq(q:Nat)(y:Bool)(O:Hp->Prop)(fr':Fr)(h':Hp):Prop:=fr' q=.b y/\O h'
theorem gq_{q:Nat}{y:Bool}{O:Hp->Prop}{h:Hp}{fr:Fr}(hq:fr q=.b y)(hO:O h):Gq q y O fr h:=⟨hq,hO⟩
theorem jk_{fr fr':Fr}{m q:Nat}{b:Bool}{W:Fr->Prop}(hk:Keep m fr fr')(hq:fr' q=.b b)(hw:W ((fr.junk fr' m).sets [(q,.b b)])):W fr':=by
 rw[Zlj hk,At.eq (l:=[(q,.b b)]) ⟨hq,trivial⟩]at hw;exact hw
section
variable {N:Prog}{Q:Fr->Hp->Prop}{fr:Fr}{h:Hp}{op:Op}{d:Option Nat}{j q m:Nat}{w t:Bool}{l l1 l2:List Oper}{B:Nat->Prop}{hb:Hp}{Ω:List Ent}
theorem Zsq{β:Type}{a b:Option Bool}{f:Bool->Option β}{r:β}(hp:((if t=true then a else b).bind f)=some r)(hj:fr j=.b t)(hg:Gr j l l1 q l2)(hm:wrO (⟨d,op,some (j,w)⟩::l1)=m)(hO:Own B hb h Ω)
  (h1:t=true->Out a λx=>WO N (⟨d,op,some (j,w)⟩::l1) (Gq q x λk=>Own B hb k Ω) fr h)
  (h0:t=false->Out b λx=>WO N (⟨d,op,some (j,w)⟩::l1) (Gq q x λk=>Own B hb k Ω) fr h)
  (h2:∀x,f x=some r->∀fr' h',Own B hb h' Ω->WO N l2 Q ((fr.junk fr' m).sets [(q,.b x)]) h'):WO N (⟨d,op,some (j,w)⟩::l) Q fr h:=by
 obtain⟨x,hx,hf⟩:=ZbL hp;rw[hg.eq];refine Zkr (l1:=⟨d,op,some (j,w)⟩::l1) hm (P:=Gq q x λk=>Own B hb k Ω) ?_ ?_
 .rcases Zd7 hx with⟨ht,hx⟩|⟨ht,hx⟩
  .exact h1 ht x hx
  .exact h0 ht x hx
 .rintro fr' h' hk ⟨hq,ho⟩;exact jk_ (W:=λfr'=>WO N l2 Q fr' h') hk hq (h2 x hf fr' h' ho)
theorem Zso{y:Bool}(hj:fr j=.b t)(hg:Gr j l l1 q l2)(hm:wrO (⟨d,op,some (j,true)⟩::l1)=m)(hO:Own B hb h Ω)
  (h1:t=true->WO N (⟨d,op,some (j,true)⟩::l1) (Gq q y λk=>Own B hb k Ω) fr h)
  (h0:t=false->WO N (⟨d,op,some (j,true)⟩::l1) (Gq q false λk=>Own B hb k Ω) fr h)
  (h2:∀fr' h',Own B hb h' Ω->WO N l2 Q ((fr.junk fr' m).sets [(q,.b (t&&y))]) h'):WO N (⟨d,op,some (j,true)⟩::l) Q fr h:=by
 rw[hg.eq];refine Zkr (l1:=⟨d,op,some (j,true)⟩::l1) hm (P:=Gq q (t&&y) λk=>Own B hb k Ω) ?_ ?_
 .cases t
  .exact h0 rfl
  .rw[Bool.true_and];exact h1 rfl
 .rintro fr' h' hk ⟨hq,ho⟩;exact jk_ (W:=λfr'=>WO N l2 Q fr' h') hk hq (h2 fr' h' ho)
theorem Zsp{y:Bool}(hj:fr j=.b t)(hg:Gr j l l1 q l2)(hm:wrO (⟨d,op,some (j,false)⟩::l1)=m)(hO:Own B hb h Ω)
  (h1:t=false->WO N (⟨d,op,some (j,false)⟩::l1) (Gq q y λk=>Own B hb k Ω) fr h)
  (h0:t=true->WO N (⟨d,op,some (j,false)⟩::l1) (Gq q true λk=>Own B hb k Ω) fr h)
  (h2:∀fr' h',Own B hb h' Ω->WO N l2 Q ((fr.junk fr' m).sets [(q,.b (t||y))]) h'):WO N (⟨d,op,some (j,false)⟩::l) Q fr h:=by
 rw[hg.eq];refine Zkr (l1:=⟨d,op,some (j,false)⟩::l1) hm (P:=Gq q (t||y) λk=>Own B hb k Ω) ?_ ?_
 .cases t
  .rw[Bool.false_or];exact h1 rfl
  .exact h0 rfl
 .rintro fr' h' hk ⟨hq,ho⟩;exact jk_ (W:=λfr'=>WO N l2 Q fr' h') hk hq (h2 fr' h' ho)
end
/-! Draws of which still operations,those that make something and calls may change places. -/
def kind:Op->Nat
 |.alloc .. |.box .. |.bsl .. |.mks .. |.mkm|.growz ..=>1
 |.call ..=>2
 |.st .. |.app .. |.cpy .. |.clr .. |.mup ..=>3
 |_=>0
def ZbU(ops:List Oper)(j:Nat):Nat:=match ops,j with
 |[],_=>3
 |o::_,0=>kind o.op
 |_::l,j+1=>ZbU l j
def okP(S:List Oper)(p:Nat×Nat):Bool:=match ZbU S p.1,ZbU S p.2 with
 |0,0|0,1|1,0|1,1|0,2|2,0=>true
 |_,_=>false
def Zgg(S:List Oper)(j:Nat):List (Nat×Nat)->Bool
 |[]=>false
 |p::l=>(Nat.beq p.1 j&&!Nat.beq (ZbU S p.2) 0)||(Nat.beq p.2 j&&!Nat.beq (ZbU S p.1) 0)||Zgg S j l
def prd(j:Nat):List (Nat×Nat)->Bool
 |[]=>false
 |p::l=>Nat.beq p.1 j||Nat.beq p.2 j||prd j l
theorem Zs7{n:Nat}(h:n≠0):n.beq 0=false:=by cases n<;>first|rfl|exact absurd rfl h
theorem Znp{S:List Oper}:∀{prs:List (Nat×Nat)}{p:Nat×Nat},p∈prs->ZbU S p.2≠0->Zgg S p.1 prs=true
 |q::l,p,hm,hk=>by
  unfold Zgg;rcases List.mem_cons.1 hm with rfl|hm
  .simp[Zs7 hk]
  .simp[Znp hm hk]
theorem Znq{S:List Oper}:∀{prs:List (Nat×Nat)}{p:Nat×Nat},p∈prs->ZbU S p.1≠0->Zgg S p.2 prs=true
 |q::l,p,hm,hk=>by
  unfold Zgg;rcases List.mem_cons.1 hm with rfl|hm
  .simp[Zs7 hk]
  .simp[Znq hm hk]
theorem ZpJ:∀{prs:List (Nat×Nat)}{p:Nat×Nat},p∈prs->prd p.1 prs=true
 |q::l,p,hm=>by
  unfold prd;rcases List.mem_cons.1 hm with rfl|hm
  .simp
  .simp[ZpJ hm]
theorem ZpK:∀{prs:List (Nat×Nat)}{p:Nat×Nat},p∈prs->prd p.2 prs=true
 |q::l,p,hm=>by
  unfold prd;rcases List.mem_cons.1 hm with rfl|hm
  .simp
  .simp[ZpK hm]
def ZtI:Tr->List Nat
 |.op _ _ t _=>t
 |_=>[]
def ZjV(S:List Oper)(prs:List (Nat×Nat))(bs j:Nat)(t:Tr):Prop :=
 (ZbU S j=0->t.quiet=true/\(Zgg S j prs=true->∀r∈ZtI t,r<bs))/\
 (ZbU S j=1->t=.no\/∃z,t=.op true z [] (bs+j))/\
 (ZbU S j=2->prd j prs=true->t=.no\/∃c,t=.call c/\∀r,r<bs->¬c r)
theorem Zjg{S:List Oper}{prs:List (Nat×Nat)}{bs j:Nat}:ZjV S prs bs j .no:=⟨λ_=>⟨rfl,λ_ r hr=>by simp[ZtI]at hr⟩,λ_=>.inl rfl,λ_ _=>.inl rfl⟩
theorem Zjh{S:List Oper}{prs:List (Nat×Nat)}{bs:Nat}:∀{ts:List (Nat×Tr)},(∀p∈ts,ZjV S prs bs p.1 p.2)->∀i,ZjV S prs bs i (Zf2 ts i)
 |[],_,i=>Zjg
 |(j,t)::ts,h,i=>by
  rw[Zi3];split
  .rename_i hj;subst hj;exact h (_,t) (by simp)
  .exact Zjh (λp hp=>h p (by simp[hp])) i
theorem ZkH{S:List Oper}{prs:List (Nat×Nat)}{bs:Nat}{p:Nat×Nat}{t t':Tr}(hm:p∈prs)(hp:okP S p=true)(h:ZjV S prs bs p.1 t)(h':ZjV S prs bs p.2 t'):t.apart t':=by
 obtain⟨a0,a1,a2⟩:=h;obtain⟨b0,b1,b2⟩:=h';have l1:=Znp (S:=S) hm;have l2:=Znq (S:=S) hm;have l3:=ZpJ hm;have l4:=ZpK hm;unfold okP at hp;split at hp<;>(try (cases hp))<;>rename_i h1 h2<;>simp only[h1,h2]at l1 l2<;>(try have A0:=a0 h1)<;>(try have A1:=a1 h1)<;>(try have A2:=a2 h1 l3)<;>(try have B0:=b0 h2)<;>(try have B1:=b1 h2)<;>(try have B2:=b2 h2 l4)
 .exact ZgH A0.1 B0.1
 .rcases B1 with rfl|⟨z,rfl⟩
  .exact Zj5
  .have:=A0.2 (l1 (by decide))
   cases t with
   |no=>exact Zen
   |call c=>simp[Tr.quiet]at A0
   |op l z' tt n=>
    simp only[Tr.quiet,Bool.and_eq_true]at A0;refine⟨.inl ⟨A0.1.1,rfl⟩,λhz=>(by rw[A0.1.2]at hz;cases hz),λ_ hr=>?_⟩;have:=this _ hr;omega
 .rcases A1 with rfl|⟨z,rfl⟩
  .exact Zen
  .have:=B0.2 (l2 (by decide))
   cases t' with
   |no=>exact Zj5
   |call c=>simp[Tr.quiet]at B0
   |op l z' tt n=>
    simp only[Tr.quiet,Bool.and_eq_true]at B0;refine⟨.inl ⟨rfl,B0.1.1⟩,λ_ hr=>?_,λhz=>(by rw[B0.1.2]at hz;cases hz)⟩;have:=this _ hr;omega
 .rcases A1 with rfl|⟨z,rfl⟩
  .exact Zen
  .rcases B1 with rfl|⟨z',rfl⟩
   .exact Zj5
   .exact⟨.inl ⟨rfl,rfl⟩,by simp,by simp⟩
 .rcases B2 with rfl|⟨c,rfl,hc⟩
  .exact Zj5
  .have:=A0.2 (l1 (by decide))
   cases t with
   |no=>exact Zen
   |call c=>simp[Tr.quiet]at A0
   |op l z' tt n=>
    simp only[Tr.quiet,Bool.and_eq_true]at A0;exact⟨A0.1.1,A0.1.2,λr hr=>hc r (this r hr)⟩
 .rcases A2 with rfl|⟨c,rfl,hc⟩
  .exact Zen
  .have:=B0.2 (l2 (by decide))
   cases t' with
   |no=>exact Zj5
   |call c=>simp[Tr.quiet]at B0
   |op l z' tt n=>
    simp only[Tr.quiet,Bool.and_eq_true]at B0;exact⟨B0.1.1,λr hr=>hc r (this r hr)⟩
def WF(N:Prog)(bs:Nat)(S:List Oper)(prs:List (Nat×Nat))(l:List (Nat×Oper))(Q:Fr->Hp->Prop)(fr:Fr)(h:Hp):Prop:=WD N bs l (λfr' h' ts=>(∀p∈ts,ZjV S prs bs p.1 p.2)/\Q fr' h') fr h
theorem WD.mono{N:Prog}{bs:Nat}{l:List (Nat×Oper)}{Q Q':Fr->Hp->List (Nat×Tr)->Prop}{fr:Fr}{h:Hp}(hw:WD N bs l Q fr h)(hq:∀fr h ts,Q fr h ts->Q' fr h ts):WD N bs l Q' fr h:=by
 obtain⟨k,fr',h',ts,he,q⟩:=hw;exact⟨k,fr',h',ts,he,hq _ _ _ q⟩
def Fq(h:Hp)(bs n J:Nat)(k:Hp):Prop:=Fresh bs n J k/\h.n<=bs
section
variable {N:Prog}{Q:Fr->Hp->Prop}{fr:Fr}{h:Hp}{op:Op}{d:Option Nat}{bs j:Nat}{S:List Oper}{prs:List (Nat×Nat)}{l:List (Nat×Oper)}{v:V}
theorem Zul{Q:Ex->Fr->Hp->Prop}{ops:List Oper}{B:Nat->Prop}{h0:Hp}{Ω:List Ent}(hs:prs.all (okP ops)=true)(hO:Own B h0 h Ω)(hk:Own B h0 (h.bump ops.length) Ω->Fq h0 h.n ops.length 0 (h.bump ops.length)->WF N h.n ops prs (ZjU 0 ops) (Q .normal) fr (h.bump ops.length)):W N (.draw ops prs) Q fr h:=by
 rw[Zi9];refine(hk (hO.bump _) ⟨Fresh.start h _,hO.n⟩).mono ?_;intro fr' h' ts hq;exact⟨λq hm=>ZkH hm (List.all_eq_true.1 hs q hm) (Zjh hq.1 _) (Zjh hq.1 _),hq.2⟩
theorem Zug(hk:Q fr h):WF N bs S prs [] Q fr h:=Zbz ⟨by simp,hk⟩
theorem ZlG{Q':Fr->Hp->List (Nat×Tr)->Prop}{t:Tr}(ht:ZjV S prs bs j t)(h1:WF N bs S prs l Q fr h):WD N bs l (λfr' h' ts=>(∀p∈(j,t)::ts,ZjV S prs bs p.1 p.2)/\Q fr' h') fr h:=by
 refine WD.mono h1 ?_;rintro fr' h' ts ⟨h1,h2⟩;exact⟨λp hp=>by
  rcases List.mem_cons.1 hp with rfl|hp
  .exact ht
  .exact h1 p hp,h2⟩
theorem Zmr(ht:Zgg S j prs=true->∀r∈ZaZ fr.ev op,r<bs)(hs:ZbU S j=0)(ho:op.looks=true)(ha:act h.m (bs+j) fr.ev op=some (v,[]))(hk:WF N bs S prs l Q (fr.put d v) h):WF N bs S prs ((j,⟨d,op,none⟩)::l) Q fr h :=
 Z7 ha (ZlG (Q':=λ_ _ _=>True) ⟨λ_=>⟨by simp[Tr.quiet,ho],ht⟩,λh1=>(by rw[hs]at h1;cases h1),λh1=>(by rw[hs]at h1;cases h1)⟩ hk)
theorem Zui(hn:Zgg S j prs=false)(hs:ZbU S j=0)(ho:op.looks=true)(ha:act h.m (bs+j) fr.ev op=some (v,[]))(hk:WF N bs S prs l Q (fr.put d v) h):WF N bs S prs ((j,⟨d,op,none⟩)::l) Q fr h:=Zmr (λh1=>by rw[hn]at h1;cases h1) hs ho ha hk
theorem Zuj{agg:Bool}{sz:Nat}{a:Opd}{w:V}(hx:fr.ev a=w)(hw:∀r∈Za0 w,r<bs)(hs:ZbU S j=0)(ha:act h.m (bs+j) fr.ev (.ld agg sz a)=some (v,[]))(hk:WF N bs S prs l Q (fr.put d v) h):WF N bs S prs ((j,⟨d,.ld agg sz a,none⟩)::l) Q fr h:=Zmr (λ_ r hr=>hw r (by rw[<-hx];exact hr)) hs rfl ha hk
theorem Zuh(hw:ZaZ fr.ev op=[])(hs:ZbU S j=0)(ho:op.looks=true)(ha:act h.m (bs+j) fr.ev op=some (v,[]))(hk:WF N bs S prs l Q (fr.put d v) h):WF N bs S prs ((j,⟨d,op,none⟩)::l) Q fr h:=Zmr (λ_ r hr=>by rw[hw]at hr;simp at hr) hs ho ha hk
theorem Zsk{g:Nat}{w t:Bool}(hj:fr g=.b t)(ht:t=w)(hk:WF N bs S prs ((j,⟨d,op,none⟩)::l) Q fr h):WF N bs S prs ((j,⟨d,op,some (g,w)⟩)::l) Q fr h:=Zce hj ht hk
theorem ZpW{g:Nat}{w t:Bool}(hj:fr g=.b t)(ht:t=!w)(hk:WF N bs S prs l Q (fr.put d .un) h):WF N bs S prs ((j,⟨d,op,some (g,w)⟩)::l) Q fr h:=Zag hj ht (ZlG (Q':=λ_ _ _=>True) Zjg hk)
theorem Zsl{g:Nat}{w:Bool}(hj:fr g=.un)(hk:WF N bs S prs l Q (fr.put d .un) h):WF N bs S prs ((j,⟨d,op,some (g,w)⟩)::l) Q fr h:=Zsd hj (ZlG (Q':=λ_ _ _=>True) Zjg hk)
theorem Zuk{P:V->Hp->Prop}(hs:(ZbU S j=1/\op.looks=true/\ZaZ fr.ev op=[])\/ZbU S j=3)(hx:∃v k' up,act h.m (bs+j) fr.ev op=some (v,up)/\h.puts up=k'/\P v k')(hk:∀v k',P v k'->WF N bs S prs l Q (fr.put d v) k'):WF N bs S prs ((j,⟨d,op,none⟩)::l) Q fr h:=by
 refine ZcA hx ?_;intro v k' z hP;refine ZlG (Q':=λ_ _ _=>True) ?_ (hk v k' hP);rcases hs with⟨h1,h2,h3⟩|h1
 .exact⟨λh=>(by rw[h1]at h;cases h),λ_=>.inr ⟨z,by rw[h2,h3]⟩,λh=>(by rw[h1]at h;cases h)⟩
 .exact⟨λh=>(by rw[h1]at h;cases h),λh=>(by rw[h1]at h;cases h),λh=>(by rw[h1]at h;cases h)⟩
theorem Zsf{f:Opd}{args:List Opd}{id:Nat}{caps vs:List V}{h':Hp}(hs:ZbU S j=2)(hp:prd j prs=true->∀r,r<bs->h'.m r=h.m r)(hf:fr.ev f=.f id caps)(hv:args.map fr.ev++caps=vs)(hi:Is N id vs h v h')(hk:WF N bs S prs l Q (fr.put d v) h')(hl:id<1000000):WF N bs S prs ((j,⟨d,.call f args,none⟩)::l) Q fr h :=
 Zev hf hv hi (ZlG (Q':=λ_ _ _=>True) ⟨λh=>(by rw[hs]at h;cases h),λh=>(by rw[hs]at h;cases h),λ_ hq=>.inr ⟨_,rfl,λr hr hc=>hc (hp hq r hr)⟩⟩ hk) hl
theorem Zsg{f:Opd}{args:List Opd}{id:Nat}{caps vs:List V}{h':Hp}(hs:ZbU S j=2)(hp:prd j prs=true->∀r,r<bs->h'.m r=h.m r)(hf:fr.ev f=.f id caps)(hv:args.map fr.ev++[]=vs)(hi:IsF N id vs caps h v h')(hk:WF N bs S prs l Q (fr.put d v) h'):WF N bs S prs ((j,⟨d,.call f args,none⟩)::l) Q fr h :=
 Zsa hf hv hi (ZlG (Q':=λ_ _ _=>True) ⟨λh=>(by rw[hs]at h;cases h),λh=>(by rw[hs]at h;cases h),λ_ hq=>.inr ⟨_,rfl,λr hr hc=>hc (hp hq r hr)⟩⟩ hk)
theorem Zkq{P:Fr->Hp->Prop}{l1 l2:List (Nat×Oper)}{m:Nat}(hm:wrD l1=m)(h1:WF N bs S prs l1 P fr h)(h2:∀fr' h',Keep m fr fr'->P fr' h'->WF N bs S prs l2 Q fr' h'):WF N bs S prs (l1++l2) Q fr h:=by
 subst hm;obtain⟨m,fr',k',ts,he,qa,qp⟩:=h1;obtain⟨m2,fr2,k2,ts2,he2,qb,q⟩:=h2 fr' k' (Zgu he) qp;refine⟨max m m2,fr2,k2,ts++ts2,?_,λp hp=>?_,q⟩
 .have he':=ZcC (Zcs N (Nat.le_max_left m m2)) he;have he2':=ZcC (Zcs N (Nat.le_max_right m m2)) he2;clear he he2 qa h2
  induction l1 generalizing fr h ts with
  |nil=>
   simp only[zB,Option.some.injEq,Prod.mk.injEq]at he';obtain⟨rfl,rfl,rfl⟩:=he';exact he2'
  | cons o a ih=>
   obtain⟨j,o⟩:=o;simp only[List.cons_append,zB]at he'⊢;split at he'
   .split at he'
    .rename_i hr;simp only[Option.some.injEq,Prod.mk.injEq]at he';obtain⟨rfl,rfl,rfl⟩:=he';rw[ih _ hr];rfl
    .cases he'
   .cases he'
 .rcases List.mem_append.1 hp with h|h
  .exact qa p h
  .exact qb p h
end
inductive GrQ(j:Nat):List (Nat×Oper)->List (Nat×Oper)->Nat->List (Nat×Oper)->Prop
 |z {q z:Nat}{x y:Opd}{g:Option (Nat×Bool)}{l:List (Nat×Oper)}:GrQ j ((z,⟨some q,.pick (.t j) x y,g⟩)::l) [(z,⟨some q,.pick (.t j) x y,g⟩)] q l
 |s {a:Nat×Oper}{l l1 l2:List (Nat×Oper)}{q:Nat}:GrQ j l l1 q l2->GrQ j (a::l) (a::l1) q l2
theorem GrQ.eq{j q:Nat}{l l1 l2:List (Nat×Oper)}(g:GrQ j l l1 q l2):l=l1++l2:=by
 induction g with
 |z=>rfl
 |s _ ih=>rw[ih];rfl
section
variable {N:Prog}{Q:Fr->Hp->Prop}{fr:Fr}{h:Hp}{op:Op}{d:Option Nat}{j q m z bs n J:Nat}{S:List Oper}{prs:List (Nat×Nat)}{w t:Bool}{l l1 l2:List (Nat×Oper)}{B:Nat->Prop}{hb:Hp}{Ω:List Ent}
theorem Zsj{β:Type}{a b:Option Bool}{f:Bool->Option β}{r:β}(hp:((if t=true then a else b).bind f)=some r)(hj:fr j=.b t)(hg:GrQ j l l1 q l2)(hm:wrD ((z,⟨d,op,some (j,w)⟩)::l1)=m)(hO:Own B hb h Ω)(hF:Fq hb bs n J h)
  (h1:t=true->Out a λx=>WF N bs S prs ((z,⟨d,op,some (j,w)⟩)::l1) (Gq q x λk=>Own B hb k Ω/\Fq hb bs n J k) fr h)
  (h0:t=false->Out b λx=>WF N bs S prs ((z,⟨d,op,some (j,w)⟩)::l1) (Gq q x λk=>Own B hb k Ω/\Fq hb bs n J k) fr h)
  (h2:∀x,f x=some r->∀fr' h',Own B hb h' Ω->Fq hb bs n J h'->WF N bs S prs l2 Q ((fr.junk fr' m).sets [(q,.b x)]) h'):WF N bs S prs ((z,⟨d,op,some (j,w)⟩)::l) Q fr h:=by
 obtain⟨x,hx,hf⟩:=ZbL hp;rw[hg.eq];refine Zkq (l1:=(z,⟨d,op,some (j,w)⟩)::l1) hm (P:=Gq q x λk=>Own B hb k Ω/\Fq hb bs n J k) ?_ ?_
 .rcases Zd7 hx with⟨ht,hx⟩|⟨ht,hx⟩
  .exact h1 ht x hx
  .exact h0 ht x hx
 .rintro fr' h' hk ⟨hq,ho⟩;exact jk_ (W:=λfr'=>WF N bs S prs l2 Q fr' h') hk hq (h2 x hf fr' h' ho.1 ho.2)
theorem Zsh{y:Bool}(hj:fr j=.b t)(hg:GrQ j l l1 q l2)(hm:wrD ((z,⟨d,op,some (j,true)⟩)::l1)=m)(hO:Own B hb h Ω)(hF:Fq hb bs n J h)
  (h1:t=true->WF N bs S prs ((z,⟨d,op,some (j,true)⟩)::l1) (Gq q y λk=>Own B hb k Ω/\Fq hb bs n J k) fr h)
  (h0:t=false->WF N bs S prs ((z,⟨d,op,some (j,true)⟩)::l1) (Gq q false λk=>Own B hb k Ω/\Fq hb bs n J k) fr h)
  (h2:∀fr' h',Own B hb h' Ω->Fq hb bs n J h'->WF N bs S prs l2 Q ((fr.junk fr' m).sets [(q,.b (t&&y))]) h'):WF N bs S prs ((z,⟨d,op,some (j,true)⟩)::l) Q fr h:=by
 rw[hg.eq];refine Zkq (l1:=(z,⟨d,op,some (j,true)⟩)::l1) hm (P:=Gq q (t&&y) λk=>Own B hb k Ω/\Fq hb bs n J k) ?_ ?_
 .cases t
  .exact h0 rfl
  .rw[Bool.true_and];exact h1 rfl
 .rintro fr' h' hk ⟨hq,ho⟩;exact jk_ (W:=λfr'=>WF N bs S prs l2 Q fr' h') hk hq (h2 fr' h' ho.1 ho.2)
theorem Zsi{y:Bool}(hj:fr j=.b t)(hg:GrQ j l l1 q l2)(hm:wrD ((z,⟨d,op,some (j,false)⟩)::l1)=m)(hO:Own B hb h Ω)(hF:Fq hb bs n J h)
  (h1:t=false->WF N bs S prs ((z,⟨d,op,some (j,false)⟩)::l1) (Gq q y λk=>Own B hb k Ω/\Fq hb bs n J k) fr h)
  (h0:t=true->WF N bs S prs ((z,⟨d,op,some (j,false)⟩)::l1) (Gq q true λk=>Own B hb k Ω/\Fq hb bs n J k) fr h)
  (h2:∀fr' h',Own B hb h' Ω->Fq hb bs n J h'->WF N bs S prs l2 Q ((fr.junk fr' m).sets [(q,.b (t||y))]) h'):WF N bs S prs ((z,⟨d,op,some (j,false)⟩)::l) Q fr h:=by
 rw[hg.eq];refine Zkq (l1:=(z,⟨d,op,some (j,false)⟩)::l1) hm (P:=Gq q (t||y) λk=>Own B hb k Ω/\Fq hb bs n J k) ?_ ?_
 .cases t
  .rw[Bool.false_or];exact h1 rfl
  .exact h0 rfl
 .rintro fr' h' hk ⟨hq,ho⟩;exact jk_ (W:=λfr'=>WF N bs S prs l2 Q fr' h') hk hq (h2 fr' h' ho.1 ho.2)
end
/-! What is told of a goal. -/
theorem exI{α:Sort _}{P:α->Prop}{Q:Prop}(f:∀x,P x->Q):(∃x,P x)->Q:=λ⟨x,h⟩=>f x h
theorem anI{P R Q:Prop}(f:P->R->Q):P/\R->Q:=λh=>f h.1 h.2
theorem prI{α β:Type}{P:α×β->Prop}(f:∀a b,P (a,b)):∀x,P x:=λx=>f x.1 x.2
theorem suI{α β:Type}{P:α⊕β->Prop}(f:∀a,P (.inl a))(g:∀b,P (.inr b)):∀x,P x:=λx=>match x with|.inl a=>f a|.inr b=>g b
theorem unI{P:Unit->Prop}(f:P ()):∀x,P x:=λ_=>f
theorem hpI{α:Type}{o:Option α}{r:α}{Q:Prop}(f:o=some r->Q):o=some r->Q:=f
theorem owI{B:Nat->Prop}{h k k':Hp}{Ω Ω1:List Ent}{g:List Ent->List Ent}{Q:Prop}(hO:Own B h k Ω)(ha:Ap Ω g)(f:Own B h k' (g Ω1)->Q):Own (λr=>r<k.n) k k' Ω1->Q:=λH=>f (hO.call H (ha.eq Ω1))
theorem Pk.toM{B:Nat->Prop}{h k:Hp}{Ω Ωi Ωj:List Ent}(hO:Own B h k Ω)(p:Pk Ωi Ω Ωj):Own (Bm k Ωi) k k Ωi:=Own.startM (hO.pks p).P (hO.pks p).sep
theorem Ziz:∀(Ω:List Ent),(List.range Ω.length).map (ent Ω)=Ω
 |[]=>rfl
 |a::l=>by
  rw[List.length_cons,List.range_succ_eq_map,List.map_cons,List.map_map];exact congrArg (a :: ·) (Ziz l)
theorem ZkK(Ω Ω':List Ent):(List.range' Ω.length Ω'.length).map (ent (Ω++Ω'))=Ω':=by
 induction Ω with
 |nil=>rw[List.length_nil,<-List.range_eq_range',List.nil_append];exact Ziz Ω'
 |cons a l ih=>
  rw[List.length_cons,List.cons_append]
  conv=>rhs;rw[<-ih]
  rw[show l.length+1=1+l.length by omega,<-List.map_add_range',List.map_map];refine List.map_congr_left λi _=>?_;show ent (a::(l++Ω')) (1+i)=_;rw[show 1+i=i+1 by omega];rfl
theorem ZkL(Ω Ω':List Ent):(List.range Ω.length).map (ent (Ω++Ω'))=Ω:=by
 induction Ω with
 |nil=>rfl
 |cons a l ih=>
  rw[List.length_cons,List.range_succ_eq_map,List.map_cons,List.map_map];exact congrArg (a :: ·) ih
theorem Ztq{B:Nat->Prop}{h k k':Hp}{Ω Ω1 Ωi Ωj:List Ent}{g:List Ent->List Ent}{Q:Prop}(hO:Own B h k Ω)(p:Pk Ωi Ω Ωj)(ha:Ap Ωj g)(f:Own B h k' (g Ω1)->Q):Own (Bm k Ωi) k k' Ω1->Q:=by
 intro H;have H0:=hO.perm p.perm;refine f (H0.callM (List.range Ωi.length) (List.range' Ωi.length Ωj.length) (ZkL Ωi Ωj) (ZkK Ωi Ωj) ?_ H (ha.eq Ω1));rw[List.nodup_append];refine⟨List.nodup_range,List.nodup_range',?_⟩;intro a ha b hb hab;subst hab;rw[List.mem_range]at ha;rw[List.mem_range']at hb;obtain⟨i,_,hi⟩:=hb;omega
inductive Ev(fr:Fr):List Opd->List V->Prop
 |n:Ev fr [] []
 |c {x:Opd}{v:V}{l:List Opd}{vs:List V}:fr.ev x=v->Ev fr l vs->Ev fr (x::l) (v::vs)
theorem Ev.eq{fr:Fr}{l:List Opd}{vs:List V}(h:Ev fr l vs):l.map fr.ev++[]=vs:=by
 induction h with
 |n=>rfl
 |c hx _ ih=>simp only[List.append_nil]at ih;simp[hx,ih]
theorem Own.bor{B0:Nat->Prop}{h0 h k:Hp}{Ω:List Ent}(HO:Own B0 h0 h [])(hO:Own (λr=>r<h.n) h k Ω):Own B0 h0 k Ω:=HO.call hO rfl
inductive Cat:List V->List V->List V->Prop
 |z {ws:List V}:Cat [] ws ws
 |s {a:V}{l ws r:List V}:Cat l ws r->Cat (a::l) ws (a::r)
theorem Cat.eq{l ws r:List V}(h:Cat l ws r):l++ws=r:=by
 induction h with
 |z=>rfl
 |s _ ih=>rw[List.cons_append,ih]
theorem ZrH{N:Prog}{Q:Fr->Hp->Prop}{fr:Fr}{k:Hp}{d:Option Nat}{l:List Oper}{α β:Type}{p:Option α}{F:α->Option β}{r:β}{f:Opd}{args:List Opd}{id:Nat}{caps vs ws:List V}{R:α->V->Hp->Prop}(hp:p.bind F=some r)(hf:fr.ev f=.f id caps)(hv:Ev fr args vs)(hc:Cat vs caps ws)(hl:id<1000000/\0=0)(H:Out p λx=>∃u k',Is N id ws k u k'/\R x u k')(g:∀x,F x=some r->∀u k',R x u k'->WO N l Q (fr.put d u) k'):WO N (⟨d,.call f args,none⟩::l) Q fr k:=by
 obtain⟨x,hx,hf'⟩:=ZbL hp;obtain⟨u,k',hi,hr⟩:=H x hx;exact Zcq hf (by rw[<-hc.eq,<-hv.eq,List.append_nil]) hi (g x hf' u k' hr) hl.1
theorem Zpv{N:Prog}{Q:Fr->Hp->Prop}{fr:Fr}{k:Hp}{d:Option Nat}{l:List Oper}{α β:Type}{p:Option α}{F:α->Option β}{r:β}{f:Opd}{args:List Opd}{id:Nat}{caps vs:List V}{R:α->V->Hp->Prop}(hp:p.bind F=some r)(hf:fr.ev f=.f id caps)(hv:Ev fr args vs)(hl:0=0)(H:Out p λx=>∃u k',IsF N id vs caps k u k'/\R x u k')(g:∀x,F x=some r->∀u k',R x u k'->WO N l Q (fr.put d u) k'):WO N (⟨d,.call f args,none⟩::l) Q fr k:=by
 obtain⟨x,hx,hf'⟩:=ZbL hp;obtain⟨u,k',hi,hr⟩:=H x hx;exact Zpz hf hv.eq hi (g x hf' u k' hr)
theorem Own.mv{B:Nat->Prop}{h k k':Hp}{Ω:List Ent}(H:Own B h k Ω)(e:Ex' (λr=>r<k.n) k k'):Own B h k' Ω:=by
 have:=H.call (Ω1:=[]) (Ω':=Ω) ⟨e.1,e.2,λr hr=>hr,by simp,by simp,.nil⟩ (by simp);exact this
inductive Ov:List V->Nat->List V->List V->Prop
 |f {cs ws:List V}:cs.length=ws.length->Ov cs 0 ws ws
 |z {cs:List V}:Ov cs 0 [] cs
 |w {c w:V}{cs ws cs':List V}:Ov cs 0 ws cs'->Ov (c::cs) 0 (w::ws) (w::cs')
 |s {c:V}{o:Nat}{cs ws cs':List V}:Ov cs o ws cs'->Ov (c::cs) (o+1) ws (c::cs')
theorem Ov.eq{cs ws cs':List V}{o:Nat}(h:Ov cs o ws cs'):over cs o ws=cs':=by
 induction h with
 |f h=>simp[over,h.symm]
 |z=>simp[over]
 |w _ ih=>simp only[over,List.take_zero,List.nil_append,List.length_cons,Nat.zero_add]at ih⊢;simp[ih]
 |@s c o cs ws cs' _ ih=>
  unfold over at ih⊢;rw[<-ih,show o+1+ws.length=(o+ws.length)+1 by omega];rfl
/-! Operations that make or turn something. -/
def X(k:Hp)(nr:Nat)(e:Opd->V)(op:Op)(P:V->Hp->Prop):Prop:=∃v k' up,act k.m nr e op=some (v,up)/\k.puts up=k'/\P v k'/\ZeA k k' nr
def Via{α:Type}(E:Enc α)(P:Prop):Prop:=P
theorem Fq.fr{h:Hp}{bs n J j:Nat}{k:Hp}(F:Fq h bs n J k)(h1:J<=j)(h2:j<n):k.m (bs+j)=none/\h.n<=bs+j:=⟨F.1.m j h2 h1,Nat.le_trans F.2 (Nat.le_add_right _ _)⟩
section
variable {N:Prog}{Q:Fr->Hp->Prop}{fr:Fr}{k h:Hp}{op:Op}{d:Option Nat}{bs j n J:Nat}{S:List Oper}{prs:List (Nat×Nat)}{P:V->Hp->Prop}
theorem Zsm{l:List Oper}(hx:X k k.n fr.ev op P)(g:∀v k',P v k'->WO N l Q (fr.put d v) k'):WO N (⟨d,op,none⟩::l) Q fr k:=by
 obtain⟨v,k',up,h1,h2,h3,_⟩:=hx;exact zE ⟨v,k',up,h1,h2,h3⟩ g
theorem Zse{l:List (Nat×Oper)}(hs:(ZbU S j=1/\op.looks=true/\ZaZ fr.ev op=[])\/ZbU S j=3)(hF:Fq h bs n J k)(hJ:J<=j)(hx:X k (bs+j) fr.ev op P)(g:∀v k',P v k'->Fq h bs n (j+1) k'->WF N bs S prs l Q (fr.put d v) k'):WF N bs S prs ((j,⟨d,op,none⟩)::l) Q fr k:=by
 obtain⟨v,k',up,h1,h2,h3,h4⟩:=hx;refine Zuk hs (P:=λv k'=>P v k'/\Fq h bs n (j+1) k') ⟨v,k',up,h1,h2,h3,hF.1.kept h4 hJ,hF.2⟩ ?_;intro v k' hp;exact g v k' hp.1 hp.2
theorem ZnU{l:List (Nat×Oper)}{α β:Type}{p:Option α}{F:α->Option β}{r:β}{f:Opd}{args:List Opd}{id:Nat}{caps vs ws:List V}{R:α->V->Hp->Prop}(hp:p.bind F=some r)(hf:fr.ev f=.f id caps)(hv:Ev fr args vs)(hc:Cat vs caps ws)(hl:id<1000000/\ZbU S j=2)(H:Out p λx=>∃u k',Is N id ws k u k'/\R x u k')(hR:prd j prs=true->∀x u k',R x u k'->∀r,r<bs->k'.m r=k.m r)(g:∀x,F x=some r->∀u k',R x u k'->WF N bs S prs l Q (fr.put d u) k'):WF N bs S prs ((j,⟨d,.call f args,none⟩)::l) Q fr k:=by
 obtain⟨x,hx,hf'⟩:=ZbL hp;obtain⟨u,k',hi,hr⟩:=H x hx;exact Zsf hl.2 (λhq=>hR hq x u k' hr) hf (by rw[<-hc.eq,<-hv.eq,List.append_nil]) hi (g x hf' u k' hr) hl.1
theorem Zmq{l:List (Nat×Oper)}{α β:Type}{p:Option α}{F:α->Option β}{r:β}{f:Opd}{args:List Opd}{id:Nat}{caps vs:List V}{R:α->V->Hp->Prop}(hp:p.bind F=some r)(hf:fr.ev f=.f id caps)(hv:Ev fr args vs)(hl:ZbU S j=2)(H:Out p λx=>∃u k',IsF N id vs caps k u k'/\R x u k')(hR:prd j prs=true->∀x u k',R x u k'->∀r,r<bs->k'.m r=k.m r)(g:∀x,F x=some r->∀u k',R x u k'->WF N bs S prs l Q (fr.put d u) k'):WF N bs S prs ((j,⟨d,.call f args,none⟩)::l) Q fr k:=by
 obtain⟨x,hx,hf'⟩:=ZbL hp;obtain⟨u,k',hi,hr⟩:=H x hx;exact Zsg hl (λhq=>hR hq x u k' hr) hf hv.eq hi (g x hf' u k' hr)
end
section
variable {N:Prog}{Q:Fr->Hp->Prop}{fr:Fr}{k h:Hp}{op:Op}{d:Option Nat}{bs j n J:Nat}{S:List Oper}{prs:List (Nat×Nat)}{P:V->Hp->Prop}{α:Type}{E:Enc α}
theorem ZtM{l:List Oper}(hx:Via E (X k k.n fr.ev op P)):Via E ((∀v k',P v k'->WO N l Q (fr.put d v) k')->WO N (⟨d,op,none⟩::l) Q fr k):=Zsm hx
theorem ZtL{l:List (Nat×Oper)}(hs:(ZbU S j=1/\op.looks=true/\ZaZ fr.ev op=[])\/ZbU S j=3)(hF:Fq h bs n J k)(hJ:J<=j)(hx:Via E (X k (bs+j) fr.ev op P)):Via E ((∀v k',P v k'->Fq h bs n (j+1) k'->WF N bs S prs l Q (fr.put d v) k')->WF N bs S prs ((j,⟨d,op,none⟩)::l) Q fr k):=Zse hs hF hJ hx
end
theorem owB{h k k':Hp}{Ω1:List Ent}{bs n J:Nat}(F:Fq h bs n J k):Own (λr=>r<k.n) k k' Ω1->∀r,r<bs->k'.m r=k.m r:=λH r hr=>H.base r (Nat.lt_of_lt_of_le (Nat.lt_of_lt_of_le hr (Nat.le_add_right _ _)) F.1.n)
theorem owF{B:Nat->Prop}{h k k':Hp}{Ω Ω1:List Ent}{g:List Ent->List Ent}{Q:Prop}{bs n J:Nat}(F:Fq h bs n J k)(hO:Own B h k Ω)(ha:Ap Ω g)(f:Own B h k' (g Ω1)->Fq h bs n J k'->Q):Own (λr=>r<k.n) k k' Ω1->Q:=λH=>f (hO.call H (ha.eq Ω1)) ⟨F.1.call H,F.2⟩
theorem ZuO{B:Nat->Prop}{h k k':Hp}{Ω Ω1 Ωi Ωj:List Ent}{g:List Ent->List Ent}{Q:Prop}{bs n J:Nat}(F:Fq h bs n J k)(hO:Own B h k Ω)(p:Pk Ωi Ω Ωj)(ha:Ap Ωj g)(f:Own B h k' (g Ω1)->Fq h bs n J k'->Q):Own (Bm k Ωi) k k' Ω1->Q:=λH=>Ztq hO p ha (λH'=>f H' ⟨F.1.callM (hO.pks p).P H,F.2⟩) H
section
variable {k:Hp}{nr:Nat}{e:Opd->V}{B:Nat->Prop}{h:Hp}{Ω:List Ent}{f:Ent->List Ent}{α:Type}{E:Enc α}
theorem Zpw{cs:List V}(hO:Own B h k Ω)(hn:k.m nr=none/\h.n<=nr)(ho:Sn Ω f):X k nr e (.alloc cs) λv k'=>∃r,v=.p r 0/\Own B h k' (f (Z3 r cs)):=by
 obtain⟨v,k',up,h1,h2,r,h3,_,h5,H⟩:=hO.alloc (e:=e) hn (cs:=cs);exact⟨v,k',up,h1,h2,⟨r,h3,ho.eq _▸H⟩,h5⟩
theorem ZrL{cs:List V}{x:Opd}{v:V}(hO:Own B h k Ω)(hn:k.m nr=none/\h.n<=nr)(ho:Sn Ω f)(hx:e x=v)(hc:v.cells=cs):X k nr e (.box x) λv k'=>∃r,v=.p r 0/\Own B h k' (f (Z3 r cs)):=by
 obtain⟨v,k',up,h1,h2,r,h3,_,h5,H⟩:=hO.boxd hn hx hc;exact⟨v,k',up,h1,h2,⟨r,h3,ho.eq _▸H⟩,h5⟩
theorem ZtU{r o sz:Nat}{cs ws cs':List V}{a x:Opd}{v:V}(ha:e a=.p r o)(hO:Own B h k Ω)(hi:Up (Z3 r cs) Ω f)(hx:e x=v)(hv:v.cells=ws)(ho:Ov cs o ws cs')(hw:ws.all V.one=true)(h1:ws.length=sz/\o+sz<=cs.length):X k nr e (.st sz a x) λv k'=>v=.un/\Own B h k' (f (Z3 r cs')):=by
 obtain⟨i,h2,h3⟩:=hi.at
 obtain⟨v,k',up,h4,h5,h6,h7,_,H⟩:=hO.stb (nr:=nr) i h2 ha hx hv ⟨h1.1,h1.2,hw⟩ ho.eq;exact⟨v,k',up,h4,h5,⟨h6,h3 _▸H⟩,h7⟩
theorem ZnN{r o sz:Nat}{y z:α}{ws:List V}{a x:Opd}{v:V}(ha:e a=.p r o)(hO:Own B h k Ω)(hi:Up (Z3 r (E.c y)) Ω f)(hx:e x=v)(hv:v.cells=ws)(ho:over (E.c y) o ws=E.c z)(hw:ws.all V.one=true)(h1:ws.length=sz){N:Nat}(hN:E.sz=N)(h2':o+sz<=N):X k nr e (.st sz a x) λv k'=>v=.un/\Own B h k' (f (Z3 r (E.c z))):=by
 obtain⟨i,h2,h3⟩:=hi.at
 obtain⟨v,k',up,h4,h5,h6,h7,_,H⟩:=hO.stb (nr:=nr) i h2 ha hx hv ⟨h1,by rw[E.hc,hN];exact h2',hw⟩ ho;exact⟨v,k',up,h4,h5,⟨h6,h3 _▸H⟩,h7⟩
theorem ZrO{r o sz:Nat}{y z:α}{ws cs':List V}{a x:Opd}{v:V}(ha:e a=.p r o)(hO:Own B h k Ω)(hi:Up (Z3 r (E.c y)) Ω f)(hx:e x=v)(hv:v.cells=ws)(ho:Ov (E.c y) o ws cs')(hz:Mk E cs' z)(hw:ws.all V.one=true)(h1:ws.length=sz)(h2':o+sz<=E.sz):X k nr e (.st sz a x) λv k'=>v=.un/\Own B h k' (f (Z3 r (E.c z))):=ZnN ha hO hi hx hv (ho.eq.trans hz.eq.symm) hw h1 rfl h2'
theorem ZnO{v:V}{m:List α}{y:α}{j off sz:Nat}{a x:Opd}{w:V}{ws:List V}(ha:e a=v.elt j off)(hO:Own B h k Ω)(hi:Up (eSl E v m) Ω f)(hx:e x=w)(hw:w.cells=ws)(hj:j<m.length)(I:Inhabited α)(ho:over (E.c (gi m j)) off ws=E.c y)(h1:ws.all V.one=true)(h2:ws.length=sz){N:Nat}(hN:E.sz=N)(h3':off+sz<=N):X k nr e (.st sz a x) λv' k'=>v'=.un/\Own B h k' (f (eSl E v (m.set j y))):=by
 obtain⟨i,h2',h3⟩:=hi.at
 obtain⟨v,k',up,h4,h5,h6,h7,_,H⟩:=hO.ste (nr:=nr) i h2' ha hj hx hw ⟨h2,by rw[hN];exact h3',h1⟩ ho;exact⟨v,k',up,h4,h5,⟨h6,h3 _▸H⟩,h7⟩
theorem ZtV{v:V}{m:List α}{y:α}{j off sz:Nat}{a x:Opd}{w:V}{ws cs':List V}(ha:e a=v.elt j off)(hO:Own B h k Ω)(hi:Up (eSl E v m) Ω f)(hx:e x=w)(hw:w.cells=ws)(hj:j<m.length)(I:Inhabited α)(ho:Ov (E.c (gi m j)) off ws cs')(hy:Mk E cs' y)(h1:ws.all V.one=true)(h2:ws.length=sz)(h3':off+sz<=E.sz):X k nr e (.st sz a x) λv' k'=>v'=.un/\Own B h k' (f (eSl E v (m.set j y))):=ZnO ha hO hi hx hw hj I (ho.eq.trans hy.eq.symm) h1 h2 rfl h3'
theorem ZtP{v w:V}{m n:List α}{sz bytes:Nat}{x y:Opd}(hx:e x=v)(hO:Own B h k Ω)(hi:Up (eSl E v m) Ω f)(hz:E.sz=sz)(hn:k.m nr=none/\h.n<=nr)(hy':e y=w)(hy:Sl E k w n)(h1:∀a,(E.c a).all V.one=true)(hl:m.length+n.length<=1000000000)(hb:bytes<=100000):X k nr e (.app sz bytes x y) λv' k'=>Own B h k' (f (eSl E v' (m++n))):=by
 subst hz;obtain⟨i,h2,h3⟩:=hi.at
 obtain⟨v',k',up,h4,h5,h6,H⟩:=hO.app i hn h2 hy hx hy' h1 hl hb;exact⟨v',k',up,h4,h5,by show Own B h k' (f _);rw[<-h3];exact H,h6⟩
theorem ZrK{w:V}{n:List α}{sz bytes:Nat}{x y:Opd}(hx:e x=.sn)(hO:Own B h k Ω)(hi:Sn Ω f)(hn:k.m nr=none/\h.n<=nr)(hy':e y=w)(hy:Sl E k w n)(hz:E.sz=sz)(h1:∀a,(E.c a).all V.one=true)(hl:([]:List α).length+n.length<=1000000000)(hb:bytes<=100000):X k nr e (.app sz bytes x y) λv' k'=>Own B h k' (f (eSl E v' ([]++n))):=by
 subst hz;have hO':=hO.nil E;rw[hi.eq]at hO';have key:∃i,ent (f (eSl E .sn [])) i=eSl E .sn []/\∀e',Mu.upd (f (eSl E .sn [])) i e'=f e':=by
  clear hO hO' hy' hx hy
  induction hi with
  |z=>exact⟨0,rfl,λ_=>rfl⟩
  |s _ ih=>obtain⟨i,h1,h2⟩:=ih;exact⟨i+1,h1,λe'=>by simp only[Mu.upd,h2]⟩
 obtain⟨i,h2,h3⟩:=key;obtain⟨v',k',up,h4,h5,h6,H⟩:=hO'.app i hn h2 hy hx hy' h1 hl hb;exact⟨v',k',up,h4,h5,by show Own B h k' (f _);rw[<-h3];exact H,h6⟩
theorem ZtQ{y:α}{sz:Nat}{zero ws:List V}{x:Opd}{v:V}(hz:E.sz=sz)(hO:Own B h k Ω)(hn:k.m nr=none/\h.n<=nr)(ho:Sn Ω f)(hx:e x=v)(hv:v.cells=ws)(hy:Mk E ws y)(h1:ws.length=sz/\zero.length=sz):Via E (X k nr e (.bsl sz 1 zero [(0,sz,x)]) λv' k'=>Own B h k' (f (eSl E v' [y]))):=by
 subst hz;have hf:fill ((List.replicate 1 zero).flatten) (evs e [(0,E.sz,x)])=some (([y].map E.c).flatten):=by
  simp only[evs,List.map_cons,List.map_nil,hx,fill,hv,List.replicate_one,List.flatten_cons,List.flatten_nil,List.append_nil];rw[if_pos ⟨h1.1,by omega⟩,hy.eq];congr 1;unfold over;rw[List.take_zero,List.nil_append,Nat.zero_add,List.drop_of_length_le (by omega),List.append_nil]
 obtain⟨v',k',up,h4,h5,_,h6,H⟩:=hO.bsl hn hf rfl;exact⟨v',k',up,h4,h5,by show Own B h k' (f _);rw[<-ho.eq];exact H,h6⟩
theorem ZtT{y:α}{sz bytes:Nat}{K K':IntKind}{z:Int}{zero:List V}{x x':Opd}(hz:E.sz=sz)(hO:Own B h k Ω)(hn:k.m nr=none/\h.n<=nr)(ho:Sn Ω f)(hx:e x=.i K z)(hx':e x'=.i K' z)(hy:Mk E zero y)(h0:0<=z/\z<=1000000000)(hb:bytes<=100000):Via E (X k nr e (.mks sz bytes zero x x') λv' k'=>Own B h k' (f (eSl E v' (List.replicate z.toNat y)))):=by
 subst hz;obtain⟨v',k',up,h4,h5,_,h6,H⟩:=hO.mks hn hx hx' hy.eq h0 hb;exact⟨v',k',up,h4,h5,by show Own B h k' (f _);rw[<-ho.eq];exact H,h6⟩
theorem ZtS{v w:V}{m n:List α}{sz:Nat}{x y:Opd}(hx:e x=v)(hO:Own B h k Ω)(hi:Up (eSl E v m) Ω f)(hz:E.sz=sz)(hy':e y=w)(hy:Sl E k w n)(h1:∀a,(E.c a).all V.one=true):X k nr e (.cpy sz x y) λu k'=>u=.i .i64 ((min n.length m.length:Nat):Int)/\Own B h k' (f (eSl E v (n.take m.length++m.drop n.length))):=by
 subst hz;obtain⟨i,h2,h3⟩:=hi.at
 obtain⟨u,k',up,h4,h5,h6,h7,H⟩:=hO.cpy (nr:=nr) i h2 hy hx hy' h1;exact⟨u,k',up,h4,h5,⟨h6,h3 _▸H⟩,h7⟩
theorem ZrN{v w:V}{m n:List α}{sz:Nat}{z:Int}{x y:Opd}(hx:e x=v.cut z.toNat m.length)(hO:Own B h k Ω)(hi:Up (eSl E v m) Ω f)(hz:E.sz=sz)(hc:0<=z/\z<=(m.length:Int))(hy':e y=w)(hy:Sl E k w n)(h1:∀a,(E.c a).all V.one=true):X k nr e (.cpy sz x y) λu k'=>u=.i .i64 ((min n.length (m.drop z.toNat).length:Nat):Int)/\Own B h k' (f (eSl E v (m.take z.toNat++(n.take (m.drop z.toNat).length++(m.drop z.toNat).drop n.length)))):=by
 subst hz;obtain⟨i,h2,h3⟩:=hi.at
 obtain⟨u,k',up,h4,h5,h6,h7,H⟩:=hO.cpyF (nr:=nr) i h2 hc hy hx hy' h1;exact⟨u,k',up,h4,h5,⟨h6,h3 _▸H⟩,h7⟩
theorem ZrM{v:V}{m:List α}{y:α}{zero:List V}{z:Int}{x:Opd}(hx:e x=v.cut z.toNat m.length)(hO:Own B h k Ω)(hi:Up (eSl E v m) Ω f)(hc:0<=z/\z<=(m.length:Int))(hy:Mk E zero y)(h1:∀a,(E.c a).all V.one=true):X k nr e (.clr zero x) λu k'=>u=.un/\Own B h k' (f (eSl E v (m.take z.toNat++List.replicate (m.length-z.toNat) y))):=by
 obtain⟨i,h2,h3⟩:=hi.at
 obtain⟨u,k',up,h4,h5,h6,h7,H⟩:=hO.clrF (nr:=nr) i h2 hc hx hy.eq h1;exact⟨u,k',up,h4,h5,⟨h6,h3 _▸H⟩,h7⟩
theorem ZrP{vs:List V}{ll:List (List α)}{y:α}{j q off sz:Nat}{a x:Opd}{w:V}{ws cs':List V}(ha:e a=(gi vs j).elt q off)(hO:Own B h k Ω)(hi:Up (Zx E vs ll) Ω f)(hx:e x=w)(hw:w.cells=ws)(hj:j<ll.length)(hq:q<(gi ll j).length)(I:Inhabited α)(ho:Ov (E.c (gi (gi ll j) q)) off ws cs')(hy:Mk E cs' y)(h1:ws.all V.one=true)(h2:ws.length=sz)(h3':off+sz<=E.sz):X k nr e (.st sz a x) λv' k'=>v'=.un/\Own B h k' (f (Zx E vs (ll.set j ((gi ll j).set q y)))):=by
 obtain⟨i,h2',h3⟩:=hi.at
 obtain⟨u,k',up,g1,g2,g3,g4,_,H⟩:=hO.steInn (nr:=nr) i h2' hj ha hq hx hw ⟨h2,h3',h1⟩ (ho.eq.trans hy.eq.symm);exact⟨u,k',up,g1,g2,⟨g3,h3 _▸H⟩,g4⟩
end
/-! Lengths of slices of slices. -/
theorem lnC{vs:List V}{n:Nat}{z:Int}(hn:vs.length=n)(h:0<=z/\z<(n:Int)):0<=z/\z<(vs.length:Int):=hn▸h
theorem lnD{vs:List V}{n j:Nat}(hn:vs.length=n)(h:j<n):j<vs.length:=hn▸h
inductive FA{α:Type}(E:Enc α)(vs:List V)(ll:List (List α)):List Ent->Prop
 |z {Ω:List Ent}:FA E vs ll (Zx E vs ll::Ω)
 |s {e:Ent}{Ω:List Ent}:FA E vs ll Ω->FA E vs ll (e::Ω)
theorem FA.at{α:Type}{E:Enc α}{vs:List V}{ll:List (List α)}{Ω:List Ent}(f:FA E vs ll Ω):∃i,ent Ω i=Zx E vs ll:=by
 induction f with
 |z=>exact⟨0,rfl⟩
 |s _ ih=>obtain⟨i,h⟩:=ih;exact⟨i+1,h⟩
section
variable {B:Nat->Prop}{h k:Hp}{Ω:List Ent}{α:Type}{E:Enc α}{vs:List V}{ll:List (List α)}{j:Nat}
theorem lnA(H:Own B h k Ω)(f:FA E vs ll Ω):vs.length=ll.length:=by obtain⟨i,q⟩:=f.at;exact H.allLen i q
theorem lkA(H:Own B h k Ω)(f:FA E vs ll Ω)(hj:j<ll.length):Sl E k (gi vs j) (gi ll j):=by obtain⟨i,q⟩:=f.at;exact H.inn i q hj
theorem lkN(H:Own (λr=>r<h.n) h k Ω)(f:∀j,j<ll.length->Sl E h (gi vs j) (gi ll j))(hj:j<ll.length):Sl E k (gi vs j) (gi ll j):=H.rd0 (f j hj).rd
theorem lkM(H:Own B h k Ω)(f:∀j,j<ll.length->Rd B h E (gi vs j) (gi ll j))(hj:j<ll.length):Sl E k (gi vs j) (gi ll j):=H.rd0 (f j hj)
end
theorem Zp9{z m:Int}{c s sz N:Nat}(h:0<=z/\z<m)(hb:c+(m.toNat-1)*s+sz<=N):c+z.toNat*s+sz<=N:=by
 have h1:z.toNat<=m.toNat-1:=by omega
 have:=Nat.mul_le_mul_right s h1;omega
section
variable {B:Nat->Prop}{h k:Hp}{Ω:List Ent}{α:Type}{E:Enc α}{v:V}{l:List α}{r o j off:Nat}{cs:List V}
theorem ZuG(H:Own B h k Ω)(f:FB r cs Ω):∀q∈Za0 (.p r o),q<k.n:=by
 obtain⟨i,hi⟩:=f.at
 intro q hq;exact H.ltAt i hi q hq
theorem ZuL(H:Own B h k Ω)(f:FS E v l Ω):∀q∈Za0 (v.elt j off),q<k.n:=by
 obtain⟨i,hi⟩:=f.at
 intro q hq;exact H.ltAt i hi q (ZbS hq)
theorem ZuJ(H:Own B h k Ω){w:Bool}(f:h.m r=some (.cells w cs)):∀q∈Za0 (.p r o),q<k.n:=by
 intro q hq;simp only[Za0,List.mem_singleton]at hq;subst hq;exact Nat.lt_of_lt_of_le (Hp.lt f) H.n
theorem ZuK(H:Own B h k Ω)(f:RdB B h r cs):∀q∈Za0 (.p r o),q<k.n:=by
 intro q hq;simp only[Za0,List.mem_singleton]at hq;subst hq;exact Nat.lt_of_lt_of_le (H.lo _ f.B) H.n
theorem Ztm(H:Own B h k Ω)(f:Sl E h v l)(hj:j<l.length):∀q∈Za0 (v.elt j off),q<k.n:=by
 intro q hq
 cases f with
 |nil=>simp at hj
 |emp=>simp at hj
 |sl hm _ _ _ _=>
  simp only[V.elt,Za0,List.mem_singleton]at hq;subst hq;exact Nat.lt_of_lt_of_le (Hp.lt hm) H.n
theorem Ztl(H:Own B h k Ω)(f:Rd B h E v l)(hj:j<l.length):∀q∈Za0 (v.elt j off),q<k.n:=λq hq=>Nat.lt_of_lt_of_le (H.lo _ (f.B H.lo hj _ (ZbS hq))) H.n
end
theorem ZuF{B:Nat->Prop}{h k:Hp}{Ω:List Ent}{α:Type}{E:Enc α}{vs:List V}{ll:List (List α)}{i j off:Nat}(H:Own B h k Ω)(f:FA E vs ll Ω)(hi:i<ll.length):∀q∈Za0 ((gi vs i).elt j off),q<k.n:=by
 obtain⟨n,hn⟩:=f.at
 intro q hq;have hl:=H.allLen n hn;refine H.ltAt n hn q (List.mem_flatMap.2 ⟨gi vs i,?_,ZbS hq⟩);rw[zO (by omega)];simp
theorem ZuI{h k:Hp}{Ω:List Ent}{α:Type}{E:Enc α}{vs:List V}{ll:List (List α)}{i j off:Nat}(H:Own (λr=>r<h.n) h k Ω)(f:∀j,j<ll.length->Sl E h (gi vs j) (gi ll j))(hi:i<ll.length)(hj:j<(gi ll i).length):∀q∈Za0 ((gi vs i).elt j off),q<k.n:=Ztm H (f i hi) hj
theorem ZuH{B:Nat->Prop}{h k:Hp}{Ω:List Ent}{α:Type}{E:Enc α}{vs:List V}{ll:List (List α)}{i j off:Nat}(H:Own B h k Ω)(f:∀j,j<ll.length->Rd B h E (gi vs j) (gi ll j))(hi:i<ll.length)(hj:j<(gi ll i).length):∀q∈Za0 ((gi vs i).elt j off),q<k.n:=Ztl H (f i hi) hj
inductive Fi(e:Opd->V):List V->List (Nat×Nat×Opd)->List V->Prop
 |n {cs:List V}:Fi e cs [] cs
 |c {cs cs' cs'' ws:List V}{o sz:Nat}{x:Opd}{v:V}{l:List (Nat×Nat×Opd)}:e x=v->v.cells=ws->ws.length=sz->Ov cs o ws cs'->Fi e cs' l cs''->Fi e cs ((o,sz,x)::l) cs''
theorem Ov.le{cs ws cs':List V}{o:Nat}(h:Ov cs o ws cs'):o+ws.length<=cs.length:=by
 induction h with
 |f h=>omega
 |z=>simp
 |w _ ih=>simp only[List.length_cons]at ih⊢;omega
 |s _ ih=>simp only[List.length_cons]at ih⊢;omega
theorem Fi.eq{e:Opd->V}{cs cs':List V}{l:List (Nat×Nat×Opd)}(h:Fi e cs l cs'):fill cs (evs e l)=some cs':=by
 induction h with
 |n=>rfl
 |c hx hv hl ho _ ih=>
  subst hx;subst hv;subst hl;rw[ZjF,fill,if_pos ⟨rfl,ho.le⟩,ho.eq,ih]
theorem Zpr{rd:Nat->Option Obj}{nr:Nat}{e:Opd->V}{zero cs:List V}{ps:List (Nat×Nat×Opd)}(h:Fi e zero ps cs):act rd nr e (.build zero ps)=some (.ag cs,[]):=Zbv h.eq
inductive Ch:Nat->List V->List V->List V->Prop
 |z {cs:List V}:Ch 0 cs [] cs
 |s {n:Nat}{c:V}{cs ws r:List V}:Ch n cs ws r->Ch (n+1) (c::cs) (c::ws) r
theorem Ch.eq{n:Nat}{cs ws r:List V}(h:Ch n cs ws r):ws++r=cs:=by
 induction h with
 |z=>rfl
 |s _ ih=>rw[List.cons_append,ih]
inductive MkL{α:Type}(E:Enc α)(sz:Nat):List V->List α->Prop
 |n:MkL E sz [] []
 |c {cs ws r:List V}{y:α}{l:List α}:Ch sz cs ws r->Mk E ws y->MkL E sz r l->MkL E sz cs (y::l)
theorem MkL.eq{α:Type}{E:Enc α}{sz:Nat}{cs:List V}{l:List α}(h:MkL E sz cs l):(l.map E.c).flatten=cs:=by
 induction h with
 |n=>rfl
 |c hc hm _ ih=>rw[List.map_cons,List.flatten_cons,ih,hm.eq,hc.eq]
inductive Zr(zero:List V):Nat->List V->Prop
 |z:Zr zero 0 []
 |s {n:Nat}{cs cs':List V}:Zr zero n cs->zero++cs=cs'->Zr zero (n+1) cs'
theorem Zr.eq{zero cs:List V}{n:Nat}(h:Zr zero n cs):(List.replicate n zero).flatten=cs:=by
 induction h with
 |z=>rfl
 |s _ h ih=>rw[List.replicate_succ,List.flatten_cons,ih,h]
theorem ZtR{k:Hp}{nr:Nat}{e:Opd->V}{B:Nat->Prop}{h:Hp}{Ω:List Ent}{f:Ent->List Ent}{α:Type}{E:Enc α}{m:List α}{len sz:Nat}{zero cs0 cs:List V}{ps:List (Nat×Nat×Opd)}(hz:E.sz=sz)(hO:Own B h k Ω)(hn:k.m nr=none/\h.n<=nr)(ho:Sn Ω f)(h0:Zr zero len cs0)(hf:Fi e cs0 ps cs)(hy:MkL E sz cs m)(hl:m.length=len):Via E (X k nr e (.bsl sz len zero ps) λv' k'=>Own B h k' (f (eSl E v' m))):=by
 subst hz;have hf':fill ((List.replicate len zero).flatten) (evs e ps)=some ((m.map E.c).flatten):=by rw[h0.eq,hf.eq,hy.eq]
 obtain⟨v',k',up,h4,h5,_,h6,H⟩:=hO.bsl hn hf' hl;exact⟨v',k',up,h4,h5,by show Own B h k' (f _);rw[<-ho.eq];exact H,h6⟩
theorem ZuT{fr:Fr}{h:Hp}{n r o sz:Nat}{agg:Bool}{cs:List V}{v:V}{l:List Res}{vs:List V}(hr:fr n=.p r o)(hb:∃w,h.m r=some (.cells w cs))(hv:ZbG agg cs o sz=some v)(ht:ZbO fr h l=some vs):ZbO fr h (.cell n agg sz::l)=some (v::vs):=by obtain⟨_,hb⟩:=hb;exact Zjp hr hb hv ht
theorem ixm{α:Type}{E:Enc α}{cs:List V}{y:α}{agg:Bool}{o sz:Nat}{w:V}(hy:Mk E cs y)(h:ZbG agg (E.c y) o sz=some w):ZbG agg cs o sz=some w:=hy.eq▸h
theorem ldm{α:Type}{E:Enc α}{cs:List V}{y:α}{o:Nat}{w:V}(hy:Mk E cs y)(h:(E.c y)[o]?=some w):cs[o]?=some w:=hy.eq▸h
theorem Own.nil0{B:Nat->Prop}{h k:Hp}{Ω:List Ent}(H:Own B h k Ω):Own B h k []:=H.pks .z
theorem Rd.of_N{h:Hp}{α:Type}{E:Enc α}{vs:List V}{ll:List (List α)}{j:Nat}(f:∀j,j<ll.length->Sl E h (gi vs j) (gi ll j))(hj:j<ll.length):Rd (λr=>r<h.n) h E (gi vs j) (gi ll j):=(f j hj).rd
theorem ZuR{B:Nat->Prop}{h:Hp}{α:Type}{E:Enc α}:Rd B h E .sn []:=λ_ _=>Sl.nil
theorem ZuQ{B:Nat->Prop}{h:Hp}{α:Type}{E:Enc α}{vs:List V}{ll:List (List α)}{j:Nat}(f:∀j,j<ll.length->Rd B h E (gi vs j) (gi ll j))(hj:j<ll.length):Rd B h E (gi vs j) (gi ll j):=f j hj
theorem cbk{α β:Type}{P:Prop}{c:Prop}[Decidable c]{o:Option α}{f:α->Option β}{r:β}(hp:(ck c o).bind f=some r)(k:c->o.bind f=some r->P):P:=by
 by_cases hc:c
 .rw[ck,if_pos hc]at hp;exact k hc hp
 .rw[ck,if_neg hc]at hp;cases hp
theorem bas{α β γ:Type}{o:Option α}{g:α->Option β}{f:β->Option γ}{r:γ}{P:Prop}(hp:(o.bind g).bind f=some r)(k:(o.bind λx=>(g x).bind f)=some r->P):P:=k (by cases o<;>exact hp)
theorem bdT{α:Type}{p:Option α}{r:α}(hp:p=some r):p.bind some=some r:=by rw[hp];rfl
section
variable {B:Nat->Prop}{h k:Hp}{Ω Ω1:List Ent}{f g s1 s2:Ent->List Ent}{nr:Nat}{e:Opd->V}{α:Type}{E:Enc α}{v w w':V}{vs:List V}{ll:List (List α)}{l:List α}{x y:Opd}{bytes:Nat}
theorem Own.abs1(H:Own B h k Ω)(hd:Dl (eSl E w l) Ω Ω1)(ha:Up (Zx E vs ll) Ω1 f):Own B h k (f (Zx E (vs++[w]) (ll++[l])))/\w.one=true/\vs.length=ll.length:=by
 have H1:=H.perm hd.perm;obtain⟨i,h1,h2⟩:=ha.at
 have H2:=H1.absorb (i+1) 0 h1 rfl (by omega);simp only[Mu.upd,h2]at H2;exact⟨(H2.perm (List.perm_append_comm (l₁:=[Zcu]))).left,(H1.sl 0 rfl).oneV,H1.allLen (i+1) h1⟩
theorem ZrI(hx:e x=v)(hO:Own B h k Ω)(hn:k.m nr=none/\h.n<=nr)(hy':e y=w')(hy:Sl eV k w' [w])(hd:Dl (eSl E w l) Ω Ω1)(ha:Up (Zx E vs ll) Ω1 f)(hi:Up (eSl eV v vs) (f (Zx E (vs++[w]) (ll++[l]))) g)(hl:ll.length+1<=1000000000)(hb:bytes<=100000):X k nr e (.app 1 bytes x y) λv' k'=>Own B h k' (g (eSl eV v' (vs++[w]))):=by
 obtain⟨H,h1,h2⟩:=hO.abs1 hd ha;obtain⟨i,h3,h4⟩:=hi.at
 obtain⟨v',k',up,a,b,c,d⟩:=H.appV i hn h3 hy hx hy' (by simp[h1]) (by simpa[h2]using hl) hb;exact⟨v',k',up,a,b,by show Own B h k' (g _);rw[<-h4];exact d,c⟩
theorem ZrJ(hx:e x=.sn)(hO:Own B h k Ω)(hn:k.m nr=none/\h.n<=nr)(hy':e y=w')(hy:Sl eV k w' [w])(u1:Sn Ω s1)(hd:Dl (eSl E w l) (s1 (eSl eV .sn [])) Ω1)(u2:Sn Ω1 s2)(ha:Up (Zx E [] []) (s2 (Zx E [] [])) f)(hi:Up (eSl eV .sn []) (f (Zx E ([]++[w]) ([]++[l]))) g)(hb:bytes<=100000):X k nr e (.app 1 bytes x y) λv' k'=>Own B h k' (g (eSl eV v' ([]++[w]))):=by
 have H0:=hO.nil eV;rw[u1.eq]at H0;have H1:=(H0.allNil E 0).perm (hd.perm.append_right _);have hd':Dl (eSl E w l) (eSl E w l::Ω1++[Zx E [] []]) (s2 (Zx E [] [])):=by rw[<-u2.eq];exact .z
 obtain⟨H,h1,h2⟩:=H1.abs1 hd' ha;obtain⟨i,h3,h4⟩:=hi.at
 obtain⟨v',k',up,a,b,c,d⟩:=H.appV i hn h3 hy hx hy' (by simp[h1]) (by simp) hb;exact⟨v',k',up,a,b,by show Own B h k' (g _);rw[<-h4];exact d,c⟩
end
theorem ZsB{cs:List V}:(V.ag cs).cells=cs:=rfl
theorem Zuy{K:IntKind}{z:Int}:(V.i K z).cells=[.i K z]:=rfl
theorem Zuw{t:Bool}:(V.b t).cells=[.b t]:=rfl
theorem Zuz{r o:Nat}:(V.p r o).cells=[.p r o]:=rfl
theorem ZsC:V.pn.cells=[.pn]:=rfl
theorem ZsD:V.sn.cells=[.sn]:=rfl
theorem Zux{id:Nat}{cs:List V}:(V.f id cs).cells=[.f id cs]:=rfl
end Mu
