/- What a piece of the evaluator's code comes to: rules. -/
import Derived.Test.YtjhlegefgllihaaGreatMuE1
namespace Mu
open Go (IntKind BinOp UnOp)
set_option linter.unusedVariables false

/-! ### More fuel makes no difference -/
def Le(call call':Zbu):Prop:=∀f args h r,call f args h=some r->call' f args h=some r

theorem Zkl{call call':Zbu}(hl:Le call call'){nr:Nat}{o:Oper}{fr:Fr}{h:Hp}{r:V×Hp×Tr}(hs:Zav call nr o fr h=some r):Zav call' nr o fr h=some r:=by
 unfold Zav at hs⊢;split at hs
 .rename_i hw;rw[if_pos hw];split at hs
  .split at hs
   .split at hs
    .rename_i hc;simp only[hl _ _ _ _ hc];exact hs
    .cases hs
   .cases hs
  .exact hs
 .rename_i hw;rw[if_neg hw];exact hs

theorem ZdZ{call call':Zbu}(hl:Le call call'):∀{ops:List Oper}{fr:Fr}{h:Hp}{r:Fr×Hp},ZaS call ops fr h=some r->ZaS call' ops fr h=some r
 |[],_,_,_,he=>he
 |o::l,fr,h,r,he=>by
  simp only[ZaS]at he⊢;split at he
  .rename_i hs;rw[Zkl hl hs];exact ZdZ hl he
  .cases he

theorem ZcC{call call':Zbu}(hl:Le call call'){base:Nat}:∀{ops:List (Nat×Oper)}{fr:Fr}{h:Hp}{r:Fr×Hp×List (Nat×Tr)},zB call base ops fr h=some r->zB call' base ops fr h=some r
 |[],_,_,_,he=>he
 | (j,o)::l,fr,h,r,he=>by
  simp only[zB]at he⊢;split at he
  .rename_i hs;rw[Zkl hl hs];split at he
   .rename_i hr;simp only[ZcC hl hr];exact he
   .cases he
  .cases he

theorem ZhT{call call':Zbu}(hl:Le call call'){ops:List Oper}{prs:List (Nat×Nat)}{fr:Fr}{h:Hp}{r:Fr×Hp}(he:ZbC call ops prs fr h=some r):ZbC call' ops prs fr h=some r:=by
 unfold ZbC at he⊢;split at he
 .rename_i hd;rw[ZcC hl hd];exact he
 .cases he

theorem Zh2{F F':Fr->Hp->Option (Ex×Fr×Hp)}(hF:∀fr h r,F fr h=some r->F' fr h=some r):∀{k k':Nat},k<=k'->∀{fr:Fr}{h:Hp}{r:Ex×Fr×Hp},Zer F k fr h=some r->Zer F' k' fr h=some r
 |0,_,_,_,_,_,he=>by cases he
 |k+1,0,hk,_,_,_,he=>by omega
 | k+1,k'+1,hk,fr,h,r,he=>by
  simp only[Zer]at he⊢;split at he
  .rename_i hb;rw[hF _ _ _ hb];exact Zh2 hF (by omega) he
  .rename_i hne;rw[hF _ _ _ he];split
   .rename_i heq;simp only[Option.some.injEq]at heq;subst heq;exact absurd he (hne _ _)
   .rfl

theorem ZcB{call call':Zbu}(hl:Le call call'){k k':Nat}(hk:k<=k'):∀{c:Code}{fr:Fr}{h:Hp}{r:Ex×Fr×Hp},Zai call k c fr h=some r->Zai call' k' c fr h=some r
 |.skip,_,_,_,he=>he
 |.region ops,fr,h,r,he=>by
  simp only[Zai]at he⊢;split at he
  .rename_i hb;rw[ZdZ hl hb];exact he
  .cases he
 |.draw ops prs,fr,h,r,he=>by
  simp only[Zai]at he⊢;split at he
  .rename_i hb;rw[ZhT hl hb];exact he
  .cases he
 | .seq a b,fr,h,r,he=>by
  simp only[Zai]at he⊢;split at he
  .rename_i hb;rw[ZcB hl hk hb];exact ZcB hl hk he
  .rename_i hne;rw[ZcB hl hk he];split
   .rename_i heq;simp only[Option.some.injEq]at heq;subst heq;exact absurd he (hne _ _)
   .rfl
 |.cond c a b,fr,h,r,he=>by
  simp only[Zai]at he⊢;split at he
  .exact ZcB hl hk he
  .exact ZcB hl hk he
  .cases he
 | .block id a,fr,h,r,he=>by
  simp only[Zai]at he⊢;split at he
  .rename_i hb;rw[ZcB hl hk hb];exact he
  .rename_i hne;rw[ZcB hl hk he];split
   .rename_i heq;simp only[Option.some.injEq]at heq;subst heq;exact absurd he (hne _ _ _)
   .rfl
 |.loop a,fr,h,r,he=>Zh2 (λ_ _ _ hb=>ZcB hl hk hb) hk he
 |.exit id,_,_,_,he=>he
 |.ret,_,_,_,he=>he
 |.bad,_,_,_,he=>by cases he

theorem Zj8(P:Prog)(k:Nat)(f:Nat)(args:List V)(h:Hp):Zbl P (k+1) f args h=(match P f with
  |none=>none
  | some fn=>if fn.ntmps=0/\0<args.length then none else match Zai (Zbl P k) k fn.body (Fr.start args) h with
   |some (.normal,fr,h')|some (.ret,fr,h')=>match ZbO fr h' fn.results with
    |some vs=>some (Zka vs,h')
    |none=>none
   |_=>none):=rfl
theorem Zf9(N:Prog):∀k,Le (Zbl N k) (Zbl N (k+1))
 |0=>λf args h r he=>by cases he
 | k+1=>λf args h r he=>by
  rw[Zj8]at he;rw[Zj8];split at he
  .cases he
  .rename_i fn hf;split at he
   .cases he
   rename_i hz;rw[if_neg hz];split at he
   .rename_i hb;simp only[ZcB (Zf9 N k) (Nat.le_succ k) hb];exact he
   .rename_i hb;simp only[ZcB (Zf9 N k) (Nat.le_succ k) hb];exact he
   .cases he

theorem Zcs(N:Prog){k k':Nat}(hk:k<=k'):Le (Zbl N k) (Zbl N k'):=by
 induction hk with
 |refl=>exact λ_ _ _ _ h=>h
 |step _ ih=>exact λf args h r he=>Zf9 N _ f args h r (ih f args h r he)

theorem ZdY(N:Prog){k k':Nat}(hk:k<=k'){c:Code}{fr:Fr}{h:Hp}{r:Ex×Fr×Hp}(he:Zai (Zbl N k) k c fr h=some r):Zai (Zbl N k') k' c fr h=some r :=
 ZcB (Zcs N hk) hk he

/-! ### Words -/
variable {N:Prog}

def WC(N:Prog)(f:Nat)(args:List V)(h:Hp)(Q:V->Hp->Prop):Prop:=∃k v h',Zbl N k f args h=some (v,h')/\Q v h'
def W(N:Prog)(c:Code)(Q:Ex->Fr->Hp->Prop)(fr:Fr)(h:Hp):Prop:=∃k e fr' h',Zai (Zbl N k) k c fr h=some (e,fr',h')/\Q e fr' h'
def WO(N:Prog)(ops:List Oper)(Q:Fr->Hp->Prop)(fr:Fr)(h:Hp):Prop:=∃k fr' h',ZaS (Zbl N k) ops fr h=some (fr',h')/\Q fr' h'
def WD(N:Prog)(base:Nat)(ops:List (Nat×Oper))(Q:Fr->Hp->List (Nat×Tr)->Prop)(fr:Fr)(h:Hp):Prop:=∃k fr' h' ts,zB (Zbl N k) base ops fr h=some (fr',h',ts)/\Q fr' h' ts

def Ex.then(next:Fr->Hp->Prop)(Q:Ex->Fr->Hp->Prop):Ex->Fr->Hp->Prop
 |.normal,fr,h=>next fr h
 |e,fr,h=>Q e fr h
def Ex.blk(id:Nat)(Q:Ex->Fr->Hp->Prop):Ex->Fr->Hp->Prop
 |.exit i,fr,h=>if i=id then Q .normal fr h else Q (.exit i) fr h
 |e,fr,h=>Q e fr h

@[simp] theorem Ex.then_normal{next:Fr->Hp->Prop}{Q:Ex->Fr->Hp->Prop}{fr:Fr}{h:Hp}:Ex.then next Q .normal fr h=next fr h:=rfl
@[simp] theorem Ex.then_exit{next:Fr->Hp->Prop}{Q:Ex->Fr->Hp->Prop}{fr:Fr}{h:Hp}{i:Nat}:Ex.then next Q (.exit i) fr h=Q (.exit i) fr h:=rfl
@[simp] theorem Ex.then_ret{next:Fr->Hp->Prop}{Q:Ex->Fr->Hp->Prop}{fr:Fr}{h:Hp}:Ex.then next Q .ret fr h=Q .ret fr h:=rfl
@[simp] theorem Ex.blk_normal{id:Nat}{Q:Ex->Fr->Hp->Prop}{fr:Fr}{h:Hp}:Ex.blk id Q .normal fr h=Q .normal fr h:=rfl
@[simp] theorem Ex.blk_exit{id i:Nat}{Q:Ex->Fr->Hp->Prop}{fr:Fr}{h:Hp}:Ex.blk id Q (.exit i) fr h=if i=id then Q .normal fr h else Q (.exit i) fr h:=rfl
@[simp] theorem Ex.blk_ret{id:Nat}{Q:Ex->Fr->Hp->Prop}{fr:Fr}{h:Hp}:Ex.blk id Q .ret fr h=Q .ret fr h:=rfl

theorem WC.mono{f:Nat}{args:List V}{h:Hp}{Q Q':V->Hp->Prop}(hw:WC N f args h Q)(hq:∀v h',Q v h'->Q' v h'):WC N f args h Q':=by
 obtain⟨k,v,h',e,q⟩:=hw;exact⟨k,v,h',e,hq _ _ q⟩
theorem W.mono{c:Code}{Q Q':Ex->Fr->Hp->Prop}{fr:Fr}{h:Hp}(hw:W N c Q fr h)(hq:∀e fr h,Q e fr h->Q' e fr h):W N c Q' fr h:=by
 obtain⟨k,e,fr',h',he,q⟩:=hw;exact⟨k,e,fr',h',he,hq _ _ _ q⟩
theorem WO.mono{c:List Oper}{Q Q':Fr->Hp->Prop}{fr:Fr}{h:Hp}(hw:WO N c Q fr h)(hq:∀fr h,Q fr h->Q' fr h):WO N c Q' fr h:=by
 obtain⟨k,fr',h',he,q⟩:=hw;exact⟨k,fr',h',he,hq _ _ q⟩

section rules
variable {Q:Ex->Fr->Hp->Prop}{fr:Fr}{h:Hp}

@[simp] theorem Zqc:W N .skip Q fr h↔Q .normal fr h:=by
 constructor
 .rintro⟨k,e,fr',h',he,q⟩;simp only[Zai,Option.some.injEq,Prod.mk.injEq]at he;obtain⟨rfl,rfl,rfl⟩:=he;exact q
 .exact λq=>⟨0,_,_,_,rfl,q⟩
@[simp] theorem Zqb{id:Nat}:W N (.exit id) Q fr h↔Q (.exit id) fr h:=by
 constructor
 .rintro⟨k,e,fr',h',he,q⟩;simp only[Zai,Option.some.injEq,Prod.mk.injEq]at he;obtain⟨rfl,rfl,rfl⟩:=he;exact q
 .exact λq=>⟨0,_,_,_,rfl,q⟩
@[simp] theorem Zsv:W N .ret Q fr h↔Q .ret fr h:=by
 constructor
 .rintro⟨k,e,fr',h',he,q⟩;simp only[Zai,Option.some.injEq,Prod.mk.injEq]at he;obtain⟨rfl,rfl,rfl⟩:=he;exact q
 .exact λq=>⟨0,_,_,_,rfl,q⟩
@[simp] theorem Zsw{a b:Code}:W N (.seq a b) Q fr h↔W N a (Ex.then (W N b Q) Q) fr h:=by
 constructor
 .rintro⟨k,e,fr',h',he,q⟩;simp only[Zai]at he;split at he
  .rename_i fr1 h1 hb;exact⟨k,.normal,fr1,h1,hb,k,e,fr',h',he,q⟩
  .rename_i hne;refine⟨k,e,fr',h',he,?_⟩;cases e
   .exact absurd he (hne _ _)
   .exact q
   .exact q
 .rintro⟨k,e,fr',h',he,q⟩
  cases e with
  |normal=>
   obtain⟨k',e',fr'',h'',he',q'⟩:=q;refine⟨max k k',e',fr'',h'',?_,q'⟩;simp only[Zai,ZdY N (Nat.le_max_left k k') he];exact ZdY N (Nat.le_max_right k k') he'
  |exit i=>exact⟨k,.exit i,fr',h',by simp only[Zai,he],q⟩
  |ret=>exact⟨k,.ret,fr',h',by simp only[Zai,he],q⟩
theorem Zks{c:Opd}{a b:Code}{t:Bool}(hc:fr.ev c=.b t):W N (.cond c a b) Q fr h↔if t=true then W N a Q fr h else W N b Q fr h:=by
 unfold W;cases t<;>simp[Zai,hc]
@[simp] theorem ZnW{id:Nat}{a:Code}:W N (.block id a) Q fr h↔W N a (Ex.blk id Q) fr h:=by
 constructor
 .rintro⟨k,e,fr',h',he,q⟩;simp only[Zai]at he;split at he
  .rename_i id' fr1 h1 hb;refine⟨k,.exit id',fr1,h1,hb,?_⟩;split at he
   .rename_i hid;simp only[Option.some.injEq,Prod.mk.injEq]at he;obtain⟨rfl,rfl,rfl⟩:=he;simpa[hid]using q
   .rename_i hid;simp only[Option.some.injEq,Prod.mk.injEq]at he;obtain⟨rfl,rfl,rfl⟩:=he;simpa[hid]using q
  .rename_i hne;refine⟨k,e,fr',h',he,?_⟩;cases e
   .exact q
   .exact absurd he (hne _ _ _)
   .exact q
 .rintro⟨k,e,fr',h',he,q⟩
  cases e with
  |normal=>exact⟨k,.normal,fr',h',by simp only[Zai,he],q⟩
  |exit i=>
   simp only[Ex.blk_exit]at q;split at q
   .rename_i hid;exact⟨k,.normal,fr',h',by simp only[Zai,he,if_pos hid],q⟩
   .rename_i hid;exact⟨k,.exit i,fr',h',by simp only[Zai,he,if_neg hid],q⟩
  |ret=>exact⟨k,.ret,fr',h',by simp only[Zai,he],q⟩

theorem Zj4{a:Code}(hw:W N a (Ex.then (W N (.loop a) Q) Q) fr h):W N (.loop a) Q fr h:=by
 obtain⟨k,e,fr',h',he,q⟩:=hw
 cases e with
 |normal=>
  obtain⟨k',e',fr'',h'',he',q'⟩:=q;refine⟨max k k'+1,e',fr'',h'',?_,q'⟩;simp only[Zai,Zer,ZdY N (Nat.le_trans (Nat.le_max_left k k') (Nat.le_succ _)) he];have:=ZdY N (Nat.le_max_right k k') he';simp only[Zai]at this;exact Zh2 (λ_ _ _ hb=>ZdY N (Nat.le_succ _) hb) (Nat.le_refl _) this
 |exit i=>
  refine⟨k+1,.exit i,fr',h',?_,q⟩;simp only[Zai,Zer,ZdY N (Nat.le_succ k) he]
 |ret=>
  refine⟨k+1,.ret,fr',h',?_,q⟩;simp only[Zai,Zer,ZdY N (Nat.le_succ k) he]

@[simp] theorem Zmv{ops:List Oper}:W N (.region ops) Q fr h↔WO N ops (Q .normal) fr h:=by
 constructor
 .rintro⟨k,e,fr',h',he,q⟩;simp only[Zai]at he;split at he
  .rename_i hb;simp only[Option.some.injEq,Prod.mk.injEq]at he;obtain⟨rfl,rfl,rfl⟩:=he;exact⟨k,_,_,hb,q⟩
  .cases he
 .rintro⟨k,fr',h',he,q⟩;exact⟨k,.normal,fr',h',by simp only[Zai,he],q⟩

@[simp] theorem ZpX{Q:Fr->Hp->Prop}:WO N [] Q fr h↔Q fr h:=by
 constructor
 .rintro⟨k,fr',h',he,q⟩;simp only[ZaS,Option.some.injEq,Prod.mk.injEq]at he;obtain⟨rfl,rfl⟩:=he;exact q
 .exact λq=>⟨0,_,_,rfl,q⟩

def WA(o:Option (V×List (Nat×Obj)))(K:V->List (Nat×Obj)->Prop):Prop:=match o with|some (v,up)=>K v up|none=>False
@[simp] theorem ZkW{v:V}{up:List (Nat×Obj)}{K:V->List (Nat×Obj)->Prop}:WA (some (v,up)) K=K v up:=rfl
@[simp] theorem ZnS{K:V->List (Nat×Obj)->Prop}:WA none K=False:=rfl

theorem Zms{Q:Fr->Hp->Prop}{d:Option Nat}{op:Op}{l:List Oper}(hop:∀f args,op≠.call f args):WO N (⟨d,op,none⟩::l) Q fr h↔WA (act h.m h.n fr.ev op) λv up=>WO N l Q (fr.put d v) (h.puts up):=by
 have hst:∀k,Zav (Zbl N k) h.n ⟨d,op,none⟩ fr h=match act h.m h.n fr.ev op with|some (v,up)=>some (v,h.puts up,.op op.looks up.isEmpty (ZaZ fr.ev op) h.n)|none=>none:=by
  intro k;unfold Zav;simp only[Zb5,if_true];rfl
 constructor
 .rintro⟨k,fr',h',he,q⟩;simp only[ZaS,hst]at he
  cases ha:act h.m h.n fr.ev op with
  |none=>simp[ha]at he
  |some r=>
   obtain⟨v,up⟩:=r;simp only[ha]at he;exact⟨k,fr',h',he,q⟩
 .intro hw
  cases ha:act h.m h.n fr.ev op with
  |none=>rw[ha]at hw;exact hw.elim
  |some r=>
   obtain⟨v,up⟩:=r;rw[ha]at hw;obtain⟨k,fr',h',he,q⟩:=hw;refine⟨k,fr',h',?_,q⟩;simp only[ZaS,hst,ha];exact he

theorem Zi8{Q:Fr->Hp->Prop}{d:Option Nat}{f:Opd}{args:List Opd}{l:List Oper}{id:Nat}{caps:List V}(hf:fr.ev f=.f id caps) :
  WO N (⟨d,.call f args,none⟩::l) Q fr h↔WC N (fid id) (ZdD id (args.map fr.ev) caps) h λv h'=>WO N l Q (fr.put d v) h':=by
 have hst:∀k,Zav (Zbl N k) h.n ⟨d,.call f args,none⟩ fr h=match Zbl N k (fid id) (ZdD id (args.map fr.ev) caps) h with|some (v,h')=>some (v,h',.call λr=>h'.m r≠h.m r)|none=>none:=by
  intro k;unfold Zav;simp only[Zb5,if_true,hf];rfl
 constructor
 .rintro⟨k,fr',h',he,q⟩;simp only[ZaS,hst]at he
  cases ha:Zbl N k (fid id) (ZdD id (args.map fr.ev) caps) h with
  |none=>simp[ha]at he
  |some r=>
   obtain⟨v,h1⟩:=r;simp only[ha]at he;exact⟨k,v,h1,ha,k,fr',h',he,q⟩
 .rintro⟨k,v,h1,ha,k',fr',h',he,q⟩;refine⟨max k k',fr',h',?_,q⟩;simp only[ZaS,hst,Zcs N (Nat.le_max_left k k') _ _ _ _ ha];exact ZdZ (Zcs N (Nat.le_max_right k k')) he

theorem Zj3{Q:Fr->Hp->Prop}{d:Option Nat}{op:Op}{j:Nat}{w t:Bool}{l:List Oper}(hg:fr j=.b t) :
  WO N (⟨d,op,some (j,w)⟩::l) Q fr h↔if t=w then WO N (⟨d,op,none⟩::l) Q fr h else WO N l Q (fr.put d .un) h:=by
 by_cases htw:t=w
 .rw[if_pos htw];have:∀k,Zav (Zbl N k) h.n ⟨d,op,some (j,w)⟩ fr h=Zav (Zbl N k) h.n ⟨d,op,none⟩ fr h:=by
   intro k;have h1:Zb5 (some (j,w)) fr=true:=by simp[Zb5,hg,htw]
   have h2:Zb5 none fr=true:=rfl;unfold Zav;simp only[h1,h2]
  unfold WO;simp only[ZaS,this]
 .rw[if_neg htw];have:∀k,Zav (Zbl N k) h.n ⟨d,op,some (j,w)⟩ fr h=some (.un,h,.no):=by
   intro k;have h1:Zb5 (some (j,w)) fr=false:=by simp[Zb5,hg,htw]
   unfold Zav;simp[h1]
  unfold WO;simp only[ZaS,this]

/-! An order is Zep. -/
theorem Zqa{ops:List Oper}{prs:List (Nat×Nat)}:W N (.draw ops prs) Q fr h↔WD N h.n ((List.range ops.length).zip ops) (λfr' h' ts=>(∀q∈prs,(Zf2 ts q.1).apart (Zf2 ts q.2))/\Q .normal fr' h') fr (h.bump ops.length):=by
 constructor
 .rintro⟨k,e,fr',h',he,q⟩;simp only[Zai]at he;split at he
  .rename_i hb;simp only[Option.some.injEq,Prod.mk.injEq]at he;obtain⟨rfl,rfl,rfl⟩:=he;unfold ZbC at hb;split at hb
   .rename_i hd;split at hb
    .rename_i hp;simp only[Option.some.injEq,Prod.mk.injEq]at hb;obtain⟨rfl,rfl⟩:=hb;exact⟨k,_,_,_,hd,hp,q⟩
    .cases hb
   .cases hb
  .cases he
 .rintro⟨k,fr',h',ts,he,hp,q⟩;refine⟨k,.normal,fr',h',?_,q⟩;simp only[Zai,ZbC,he,if_pos hp]

@[simp] theorem Zmp{base:Nat}{Q:Fr->Hp->List (Nat×Tr)->Prop}:WD N base [] Q fr h↔Q fr h []:=by
 constructor
 .rintro⟨k,fr',h',ts,he,q⟩;simp only[zB,Option.some.injEq,Prod.mk.injEq]at he;obtain⟨rfl,rfl,rfl⟩:=he;exact q
 .exact λq=>⟨0,_,_,_,rfl,q⟩

theorem Zkp{base j:Nat}{Q:Fr->Hp->List (Nat×Tr)->Prop}{d:Option Nat}{op:Op}{l:List (Nat×Oper)}(hop:∀f args,op≠.call f args) :
  WD N base ((j,⟨d,op,none⟩)::l) Q fr h↔WA (act h.m (base+j) fr.ev op) λv up=>WD N base l (λfr' h' ts=>Q fr' h' ((j,.op op.looks up.isEmpty (ZaZ fr.ev op) (base+j))::ts)) (fr.put d v) (h.puts up):=by
 have hst:∀k,Zav (Zbl N k) (base+j) ⟨d,op,none⟩ fr h=match act h.m (base+j) fr.ev op with|some (v,up)=>some (v,h.puts up,.op op.looks up.isEmpty (ZaZ fr.ev op) (base+j))|none=>none:=by
  intro k;unfold Zav;simp only[Zb5,if_true];rfl
 constructor
 .rintro⟨k,fr',h',ts,he,q⟩;simp only[zB,hst]at he
  cases ha:act h.m (base+j) fr.ev op with
  |none=>simp[ha]at he
  |some r=>
   obtain⟨v,up⟩:=r;simp only[ha]at he;split at he
   .rename_i hr;simp only[Option.some.injEq,Prod.mk.injEq]at he;obtain⟨rfl,rfl,rfl⟩:=he;exact⟨k,_,_,_,hr,q⟩
   .cases he
 .intro hw
  cases ha:act h.m (base+j) fr.ev op with
  |none=>rw[ha]at hw;exact hw.elim
  |some r=>
   obtain⟨v,up⟩:=r;rw[ha]at hw;obtain⟨k,fr',h',ts,he,q⟩:=hw;refine⟨k,fr',h',_,?_,q⟩;simp only[zB,hst,ha,he]

theorem Zi7{base j:Nat}{Q:Fr->Hp->List (Nat×Tr)->Prop}{d:Option Nat}{f:Opd}{args:List Opd}{l:List (Nat×Oper)}{id:Nat}{caps:List V}(hf:fr.ev f=.f id caps) :
  WD N base ((j,⟨d,.call f args,none⟩)::l) Q fr h↔WC N (fid id) (ZdD id (args.map fr.ev) caps) h λv h'=>WD N base l (λfr' h'' ts=>Q fr' h'' ((j,.call λr=>h'.m r≠h.m r)::ts)) (fr.put d v) h':=by
 have hst:∀k,Zav (Zbl N k) (base+j) ⟨d,.call f args,none⟩ fr h=match Zbl N k (fid id) (ZdD id (args.map fr.ev) caps) h with|some (v,h')=>some (v,h',.call λr=>h'.m r≠h.m r)|none=>none:=by
  intro k;unfold Zav;simp only[Zb5,if_true,hf];rfl
 constructor
 .rintro⟨k,fr',h',ts,he,q⟩;simp only[zB,hst]at he
  cases ha:Zbl N k (fid id) (ZdD id (args.map fr.ev) caps) h with
  |none=>simp[ha]at he
  |some r=>
   obtain⟨v,h1⟩:=r;simp only[ha]at he;split at he
   .rename_i hr;simp only[Option.some.injEq,Prod.mk.injEq]at he;obtain⟨rfl,rfl,rfl⟩:=he;exact⟨k,v,h1,ha,k,_,_,_,hr,q⟩
   .cases he
 .rintro⟨k,v,h1,ha,k',fr',h',ts,he,q⟩;refine⟨max k k',fr',h',_,?_,q⟩;simp only[zB,hst,Zcs N (Nat.le_max_left k k') _ _ _ _ ha,ZcC (Zcs N (Nat.le_max_right k k')) he]

theorem Zj2{base i:Nat}{Q:Fr->Hp->List (Nat×Tr)->Prop}{d:Option Nat}{op:Op}{j:Nat}{w t:Bool}{l:List (Nat×Oper)}(hg:fr j=.b t) :
  WD N base ((i,⟨d,op,some (j,w)⟩)::l) Q fr h↔if t=w then WD N base ((i,⟨d,op,none⟩)::l) Q fr h else WD N base l (λfr' h' ts=>Q fr' h' ((i,.no)::ts)) (fr.put d .un) h:=by
 by_cases htw:t=w
 .rw[if_pos htw];have:∀k,Zav (Zbl N k) (base+i) ⟨d,op,some (j,w)⟩ fr h=Zav (Zbl N k) (base+i) ⟨d,op,none⟩ fr h:=by
   intro k;have h1:Zb5 (some (j,w)) fr=true:=by simp[Zb5,hg,htw]
   have h2:Zb5 none fr=true:=rfl;unfold Zav;simp only[h1,h2]
  unfold WD;simp only[zB,this]
 .rw[if_neg htw];have hst:∀k,Zav (Zbl N k) (base+i) ⟨d,op,some (j,w)⟩ fr h=some (.un,h,.no):=by
   intro k;have h1:Zb5 (some (j,w)) fr=false:=by simp[Zb5,hg,htw]
   unfold Zav;simp[h1]
  constructor
  .rintro⟨k,fr',h',ts,he,q⟩;simp only[zB,hst]at he;split at he
   .rename_i hr;simp only[Option.some.injEq,Prod.mk.injEq]at he;obtain⟨rfl,rfl,rfl⟩:=he;exact⟨k,_,_,_,hr,q⟩
   .cases he
  .rintro⟨k,fr',h',ts,he,q⟩;refine⟨k,fr',h',_,?_,q⟩;simp only[zB,hst,he]

theorem Zmo{f:Nat}{F:Func}{args:List V}{h:Hp}{Q:V->Hp->Prop}(hN:N f=some F)
  (hw:W N F.body (λe fr h'=>match e with|.exit _=>False|_=>match ZbO fr h' F.results with|some vs=>Q (Zka vs) h'|none=>False) (Fr.start args) h)(hz:¬(F.ntmps=0/\0<args.length):=by first|exact λh=>absurd h.1 (by decide)|exact λh=>absurd h.2 (by simp)):WC N f args h Q:=by
 obtain⟨k,e,fr',h',he,q⟩:=hw
 cases e with
 |exit i=>exact q.elim
 |normal=>
  simp only at q;split at q
  .rename_i vs hv;exact⟨k+1,_,_,by simp only[Zbl,hN,if_neg hz,he,hv],q⟩
  .exact q.elim
 |ret=>
  simp only at q;split at q
  .rename_i vs hv;exact⟨k+1,_,_,by simp only[Zbl,hN,if_neg hz,he,hv],q⟩
  .exact q.elim

def Ret(rs:List Res)(Q:V->Hp->Prop)(e:Ex)(fr:Fr)(h':Hp):Prop:=match e with|.exit _=>False|_=>match ZbO fr h' rs with|some vs=>Q (Zka vs) h'|none=>False
theorem Zpy{f:Nat}{F:Func}{args:List V}{h:Hp}{Q:V->Hp->Prop}(hN:N f=some F)(hw:W N F.body (Ret F.results Q) (Fr.start args) h)(hz:¬(F.ntmps=0/\0<args.length):=by first|exact λh=>absurd h.1 (by decide)|exact λh=>absurd h.2 (by simp)):WC N f args h Q:=Zmo hN hw hz
end rules
end Mu
