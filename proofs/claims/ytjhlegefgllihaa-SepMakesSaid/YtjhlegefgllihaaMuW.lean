/- What a piece of the evaluator's code comes to: rules. -/
import Derived.Test.YtjhlegefgllihaaMuE1
namespace Mu
open Go (IntKind BinOp UnOp)
set_option linter.unusedVariables false

/-! ### More fuel makes no difference -/
def Le (call call':Zcl):Prop:=∀ f args h r,call f args h=some r→call' f args h=some r

theorem ZjW {call call':Zcl}(hl:Le call call') {nr:Nat}{o:Oper}{fr:Fr}{h:Hp}{r:V×Hp×Tr}(hs:ZaY call nr o fr h=some r):ZaY call' nr o fr h=some r:=by
 unfold ZaY at hs ⊢;split at hs
 ·rename_i hw;rw [if_pos hw];split at hs
  ·split at hs
   ·split at hs
    ·rename_i hc;simp only [hl _ _ _ _ hc];exact hs
    ·cases hs
   ·cases hs
  ·exact hs
 ·rename_i hw;rw [if_neg hw];exact hs

theorem ZeS {call call':Zcl}(hl:Le call call'):∀ {ops:List Oper}{fr:Fr}{h:Hp}{r:Fr×Hp},ZbU call ops fr h=some r→ZbU call' ops fr h=some r
 | [],_,_,_,he=>he
 | o::l,fr,h,r,he=>by
  simp only [ZbU] at he ⊢;split at he
  ·rename_i hs;rw [ZjW hl hs];exact ZeS hl he
  ·cases he

theorem Ze0 {call call':Zcl}(hl:Le call call') {base:Nat}:∀ {ops:List (Nat×Oper)}{fr:Fr}{h:Hp}{r:Fr×Hp×List (Nat×Tr)},Zax call base ops fr h=some r→Zax call' base ops fr h=some r
 | [],_,_,_,he=>he
 | (j,o)::l,fr,h,r,he=>by
  simp only [Zax] at he ⊢;split at he
  ·rename_i hs;rw [ZjW hl hs];split at he
   ·rename_i hr;simp only [Ze0 hl hr];exact he
   ·cases he
  ·cases he

theorem Ziq {call call':Zcl}(hl:Le call call') {ops:List Oper}{prs:List (Nat×Nat)}{fr:Fr}{h:Hp}{r:Fr×Hp}(he:Zc0 call ops prs fr h=some r):Zc0 call' ops prs fr h=some r:=by
 unfold Zc0 at he ⊢;split at he
 ·rename_i hd;rw [Ze0 hl hd];exact he
 ·cases he

theorem ZhV {F F':Fr→Hp→Option (Ex×Fr×Hp)}(hF:∀ fr h r,F fr h=some r→F' fr h=some r):∀ {k k':Nat},k≤k'→∀ {fr:Fr}{h:Hp}{r:Ex×Fr×Hp},ZfJ F k fr h=some r→ZfJ F' k' fr h=some r
 | 0,_,_,_,_,_,he=>by cases he
 | k+1,0,hk,_,_,_,he=>by omega
 | k+1,k'+1,hk,fr,h,r,he=>by
  simp only [ZfJ] at he ⊢;split at he
  ·rename_i hb;rw [hF _ _ _ hb];exact ZhV hF (by omega) he
  ·rename_i hne;rw [hF _ _ _ he];split
   ·rename_i heq;simp only [Option.some.injEq] at heq;subst heq;exact absurd he (hne _ _)
   ·rfl

theorem Zdb {call call':Zcl}(hl:Le call call') {k k':Nat}(hk:k≤k'):∀ {c:Code}{fr:Fr}{h:Hp}{r:Ex×Fr×Hp},Zbe call k c fr h=some r→Zbe call' k' c fr h=some r
 | .skip,_,_,_,he=>he
 | .region ops,fr,h,r,he=>by
  simp only [Zbe] at he ⊢;split at he
  ·rename_i hb;rw [ZeS hl hb];exact he
  ·cases he
 | .draw ops prs,fr,h,r,he=>by
  simp only [Zbe] at he ⊢;split at he
  ·rename_i hb;rw [Ziq hl hb];exact he
  ·cases he
 | .seq a b,fr,h,r,he=>by
  simp only [Zbe] at he ⊢;split at he
  ·rename_i hb;rw [Zdb hl hk hb];exact Zdb hl hk he
  ·rename_i hne;rw [Zdb hl hk he];split
   ·rename_i heq;simp only [Option.some.injEq] at heq;subst heq;exact absurd he (hne _ _)
   ·rfl
 | .cond c a b,fr,h,r,he=>by
  simp only [Zbe] at he ⊢;split at he
  ·exact Zdb hl hk he
  ·exact Zdb hl hk he
  ·cases he
 | .block id a,fr,h,r,he=>by
  simp only [Zbe] at he ⊢;split at he
  ·rename_i hb;rw [Zdb hl hk hb];exact he
  ·rename_i hne;rw [Zdb hl hk he];split
   ·rename_i heq;simp only [Option.some.injEq] at heq;subst heq;exact absurd he (hne _ _ _)
   ·rfl
 | .loop a,fr,h,r,he=>ZhV (fun _ _ _ hb=>Zdb hl hk hb) hk he
 | .exit id,_,_,_,he=>he
 | .ret,_,_,_,he=>he
 | .bad,_,_,_,he=>by cases he

theorem Zj8 (P:Prog) (k:Nat) (f:Nat) (args:List V) (h:Hp):ZbS P (k+1) f args h=(match P f with
  | none=>none
  | some fn=>if fn.ntmps=0∧0<args.length then none else match Zbe (ZbS P k) k fn.body (Fr.start args) h with
   | some (.normal,fr,h')|some (.ret,fr,h')=>match Zc8 fr h' fn.results with
    | some vs=>some (Zk2 vs,h')
    | none=>none
   | _=>none):=rfl
theorem Zgy (N:Prog):∀ k,Le (ZbS N k) (ZbS N (k+1))
 | 0=>fun f args h r he=>by cases he
 | k+1=>fun f args h r he=>by
  rw [Zj8] at he;rw [Zj8];split at he
  ·cases he
  ·rename_i fn hf;split at he
   ·cases he
   rename_i hz;rw [if_neg hz];split at he
   ·rename_i hb;simp only [Zdb (Zgy N k) (Nat.le_succ k) hb];exact he
   ·rename_i hb;simp only [Zdb (Zgy N k) (Nat.le_succ k) hb];exact he
   ·cases he

theorem ZcY (N:Prog) {k k':Nat}(hk:k≤k'):Le (ZbS N k) (ZbS N k'):=by
 induction hk with
 | refl=>exact fun _ _ _ _ h=>h
 | step _ ih=>exact fun f args h r he=>Zgy N _ f args h r (ih f args h r he)

theorem ZeR (N:Prog) {k k':Nat}(hk:k≤k') {c:Code}{fr:Fr}{h:Hp}{r:Ex×Fr×Hp}(he:Zbe (ZbS N k) k c fr h=some r):Zbe (ZbS N k') k' c fr h=some r :=
 Zdb (ZcY N hk) hk he

/-! ### Words -/
variable {N:Prog}

def WC (N:Prog) (f:Nat) (args:List V) (h:Hp) (Q:V→Hp→Prop):Prop:=∃ k v h',ZbS N k f args h=some (v,h')∧Q v h'
def W (N:Prog) (c:Code) (Q:Ex→Fr→Hp→Prop) (fr:Fr) (h:Hp):Prop:=∃ k e fr' h',Zbe (ZbS N k) k c fr h=some (e,fr',h')∧Q e fr' h'
def WO (N:Prog) (ops:List Oper) (Q:Fr→Hp→Prop) (fr:Fr) (h:Hp):Prop:=∃ k fr' h',ZbU (ZbS N k) ops fr h=some (fr',h')∧Q fr' h'
def WD (N:Prog) (base:Nat) (ops:List (Nat×Oper)) (Q:Fr→Hp→List (Nat×Tr)→Prop) (fr:Fr) (h:Hp):Prop:=∃ k fr' h' ts,Zax (ZbS N k) base ops fr h=some (fr',h',ts)∧Q fr' h' ts

def Ex.then (next:Fr→Hp→Prop) (Q:Ex→Fr→Hp→Prop):Ex→Fr→Hp→Prop
 | .normal,fr,h=>next fr h
 | e,fr,h=>Q e fr h
def Ex.blk (id:Nat) (Q:Ex→Fr→Hp→Prop):Ex→Fr→Hp→Prop
 | .exit i,fr,h=>if i=id then Q .normal fr h else Q (.exit i) fr h
 | e,fr,h=>Q e fr h

@[simp] theorem Ex.then_normal {next:Fr→Hp→Prop}{Q:Ex→Fr→Hp→Prop}{fr:Fr}{h:Hp}:Ex.then next Q .normal fr h=next fr h:=rfl
@[simp] theorem Ex.then_exit {next:Fr→Hp→Prop}{Q:Ex→Fr→Hp→Prop}{fr:Fr}{h:Hp}{i:Nat}:Ex.then next Q (.exit i) fr h=Q (.exit i) fr h:=rfl
@[simp] theorem Ex.then_ret {next:Fr→Hp→Prop}{Q:Ex→Fr→Hp→Prop}{fr:Fr}{h:Hp}:Ex.then next Q .ret fr h=Q .ret fr h:=rfl
@[simp] theorem Ex.blk_normal {id:Nat}{Q:Ex→Fr→Hp→Prop}{fr:Fr}{h:Hp}:Ex.blk id Q .normal fr h=Q .normal fr h:=rfl
@[simp] theorem Ex.blk_exit {id i:Nat}{Q:Ex→Fr→Hp→Prop}{fr:Fr}{h:Hp}:Ex.blk id Q (.exit i) fr h=if i=id then Q .normal fr h else Q (.exit i) fr h:=rfl
@[simp] theorem Ex.blk_ret {id:Nat}{Q:Ex→Fr→Hp→Prop}{fr:Fr}{h:Hp}:Ex.blk id Q .ret fr h=Q .ret fr h:=rfl

theorem WC.mono {f:Nat}{args:List V}{h:Hp}{Q Q':V→Hp→Prop}(hw:WC N f args h Q) (hq:∀ v h',Q v h'→Q' v h'):WC N f args h Q':=by
 obtain ⟨k,v,h',e,q⟩:=hw;exact ⟨k,v,h',e,hq _ _ q⟩
theorem W.mono {c:Code}{Q Q':Ex→Fr→Hp→Prop}{fr:Fr}{h:Hp}(hw:W N c Q fr h) (hq:∀ e fr h,Q e fr h→Q' e fr h):W N c Q' fr h:=by
 obtain ⟨k,e,fr',h',he,q⟩:=hw;exact ⟨k,e,fr',h',he,hq _ _ _ q⟩
theorem WO.mono {c:List Oper}{Q Q':Fr→Hp→Prop}{fr:Fr}{h:Hp}(hw:WO N c Q fr h) (hq:∀ fr h,Q fr h→Q' fr h):WO N c Q' fr h:=by
 obtain ⟨k,fr',h',he,q⟩:=hw;exact ⟨k,fr',h',he,hq _ _ q⟩

section rules
variable {Q:Ex→Fr→Hp→Prop}{fr:Fr}{h:Hp}

@[simp] theorem Zos:W N .skip Q fr h↔Q .normal fr h:=by
 constructor
 ·rintro ⟨k,e,fr',h',he,q⟩;simp only [Zbe,Option.some.injEq,Prod.mk.injEq] at he;obtain ⟨rfl,rfl,rfl⟩:=he;exact q
 ·exact fun q=>⟨0,_,_,_,rfl,q⟩
@[simp] theorem Zor {id:Nat}:W N (.exit id) Q fr h↔Q (.exit id) fr h:=by
 constructor
 ·rintro ⟨k,e,fr',h',he,q⟩;simp only [Zbe,Option.some.injEq,Prod.mk.injEq] at he;obtain ⟨rfl,rfl,rfl⟩:=he;exact q
 ·exact fun q=>⟨0,_,_,_,rfl,q⟩
@[simp] theorem ZpD:W N .ret Q fr h↔Q .ret fr h:=by
 constructor
 ·rintro ⟨k,e,fr',h',he,q⟩;simp only [Zbe,Option.some.injEq,Prod.mk.injEq] at he;obtain ⟨rfl,rfl,rfl⟩:=he;exact q
 ·exact fun q=>⟨0,_,_,_,rfl,q⟩
@[simp] theorem ZpE {a b:Code}:W N (.seq a b) Q fr h↔W N a (Ex.then (W N b Q) Q) fr h:=by
 constructor
 ·rintro ⟨k,e,fr',h',he,q⟩;simp only [Zbe] at he;split at he
  ·rename_i fr1 h1 hb;exact ⟨k,.normal,fr1,h1,hb,k,e,fr',h',he,q⟩
  ·rename_i hne;refine ⟨k,e,fr',h',he,?_⟩;cases e
   ·exact absurd he (hne _ _)
   ·exact q
   ·exact q
 ·rintro ⟨k,e,fr',h',he,q⟩
  cases e with
  | normal =>
   obtain ⟨k',e',fr'',h'',he',q'⟩:=q;refine ⟨max k k',e',fr'',h'',?_,q'⟩;simp only [Zbe,ZeR N (Nat.le_max_left k k') he];exact ZeR N (Nat.le_max_right k k') he'
  | exit i=>exact ⟨k,.exit i,fr',h',by simp only [Zbe,he],q⟩
  | ret=>exact ⟨k,.ret,fr',h',by simp only [Zbe,he],q⟩
theorem ZjZ {c:Opd}{a b:Code}{t:Bool}(hc:fr.ev c=.b t):W N (.cond c a b) Q fr h↔if t=true then W N a Q fr h else W N b Q fr h:=by
 unfold W;cases t<;>simp [Zbe,hc]
@[simp] theorem ZmZ {id:Nat}{a:Code}:W N (.block id a) Q fr h↔W N a (Ex.blk id Q) fr h:=by
 constructor
 ·rintro ⟨k,e,fr',h',he,q⟩;simp only [Zbe] at he;split at he
  ·rename_i id' fr1 h1 hb;refine ⟨k,.exit id',fr1,h1,hb,?_⟩;split at he
   ·rename_i hid;simp only [Option.some.injEq,Prod.mk.injEq] at he;obtain ⟨rfl,rfl,rfl⟩:=he;simpa [hid] using q
   ·rename_i hid;simp only [Option.some.injEq,Prod.mk.injEq] at he;obtain ⟨rfl,rfl,rfl⟩:=he;simpa [hid] using q
  ·rename_i hne;refine ⟨k,e,fr',h',he,?_⟩;cases e
   ·exact q
   ·exact absurd he (hne _ _ _)
   ·exact q
 ·rintro ⟨k,e,fr',h',he,q⟩
  cases e with
  | normal=>exact ⟨k,.normal,fr',h',by simp only [Zbe,he],q⟩
  | exit i =>
   simp only [Ex.blk_exit] at q;split at q
   ·rename_i hid;exact ⟨k,.normal,fr',h',by simp only [Zbe,he,if_pos hid],q⟩
   ·rename_i hid;exact ⟨k,.exit i,fr',h',by simp only [Zbe,he,if_neg hid],q⟩
  | ret=>exact ⟨k,.ret,fr',h',by simp only [Zbe,he],q⟩

theorem Zj5 {a:Code}(hw:W N a (Ex.then (W N (.loop a) Q) Q) fr h):W N (.loop a) Q fr h:=by
 obtain ⟨k,e,fr',h',he,q⟩:=hw
 cases e with
 | normal =>
  obtain ⟨k',e',fr'',h'',he',q'⟩:=q;refine ⟨max k k'+1,e',fr'',h'',?_,q'⟩;simp only [Zbe,ZfJ,ZeR N (Nat.le_trans (Nat.le_max_left k k') (Nat.le_succ _)) he];have:=ZeR N (Nat.le_max_right k k') he';simp only [Zbe] at this;exact ZhV (fun _ _ _ hb=>ZeR N (Nat.le_succ _) hb) (Nat.le_refl _) this
 | exit i =>
  refine ⟨k+1,.exit i,fr',h',?_,q⟩;simp only [Zbe,ZfJ,ZeR N (Nat.le_succ k) he]
 | ret =>
  refine ⟨k+1,.ret,fr',h',?_,q⟩;simp only [Zbe,ZfJ,ZeR N (Nat.le_succ k) he]

@[simp] theorem ZlL {ops:List Oper}:W N (.region ops) Q fr h↔WO N ops (Q .normal) fr h:=by
 constructor
 ·rintro ⟨k,e,fr',h',he,q⟩;simp only [Zbe] at he;split at he
  ·rename_i hb;simp only [Option.some.injEq,Prod.mk.injEq] at he;obtain ⟨rfl,rfl,rfl⟩:=he;exact ⟨k,_,_,hb,q⟩
  ·cases he
 ·rintro ⟨k,fr',h',he,q⟩;exact ⟨k,.normal,fr',h',by simp only [Zbe,he],q⟩

@[simp] theorem Zop {Q:Fr→Hp→Prop}:WO N [] Q fr h↔Q fr h:=by
 constructor
 ·rintro ⟨k,fr',h',he,q⟩;simp only [ZbU,Option.some.injEq,Prod.mk.injEq] at he;obtain ⟨rfl,rfl⟩:=he;exact q
 ·exact fun q=>⟨0,_,_,rfl,q⟩

def WA (o:Option (V×List (Nat×Obj))) (K:V→List (Nat×Obj)→Prop):Prop:=match o with|some (v,up)=>K v up|none=>False
@[simp] theorem ZkC {v:V}{up:List (Nat×Obj)}{K:V→List (Nat×Obj)→Prop}:WA (some (v,up)) K=K v up:=rfl
@[simp] theorem ZmW {K:V→List (Nat×Obj)→Prop}:WA none K=False:=rfl

theorem ZlJ {Q:Fr→Hp→Prop}{d:Option Nat}{op:Op}{l:List Oper}(hop:∀ f args,op≠.call f args):WO N (⟨d,op,none⟩::l) Q fr h↔WA (act h.m h.n fr.ev op) fun v up=>WO N l Q (fr.put d v) (h.puts up):=by
 have hst:∀ k,ZaY (ZbS N k) h.n ⟨d,op,none⟩ fr h=match act h.m h.n fr.ev op with|some (v,up)=>some (v,h.puts up,.op op.looks up.isEmpty (ZbW fr.ev op) h.n)|none=>none:=by
  intro k;unfold ZaY;simp only [Zci,if_true];rfl
 constructor
 ·rintro ⟨k,fr',h',he,q⟩;simp only [ZbU,hst] at he
  cases ha:act h.m h.n fr.ev op with
  | none=>simp [ha] at he
  | some r =>
   obtain ⟨v,up⟩:=r;simp only [ha] at he;exact ⟨k,fr',h',he,q⟩
 ·intro hw
  cases ha:act h.m h.n fr.ev op with
  | none=>rw [ha] at hw;exact hw.elim
  | some r =>
   obtain ⟨v,up⟩:=r;rw [ha] at hw;obtain ⟨k,fr',h',he,q⟩:=hw;refine ⟨k,fr',h',?_,q⟩;simp only [ZbU,hst,ha];exact he

theorem ZiM {Q:Fr→Hp→Prop}{d:Option Nat}{f:Opd}{args:List Opd}{l:List Oper}{id:Nat}{caps:List V}(hf:fr.ev f=.f id caps) :
  WO N (⟨d,.call f args,none⟩::l) Q fr h↔WC N (fid id) (Ze1 id (args.map fr.ev) caps) h fun v h'=>WO N l Q (fr.put d v) h':=by
 have hst:∀ k,ZaY (ZbS N k) h.n ⟨d,.call f args,none⟩ fr h=match ZbS N k (fid id) (Ze1 id (args.map fr.ev) caps) h with|some (v,h')=>some (v,h',.call fun r=>h'.m r≠h.m r)|none=>none:=by
  intro k;unfold ZaY;simp only [Zci,if_true,hf];rfl
 constructor
 ·rintro ⟨k,fr',h',he,q⟩;simp only [ZbU,hst] at he
  cases ha:ZbS N k (fid id) (Ze1 id (args.map fr.ev) caps) h with
  | none=>simp [ha] at he
  | some r =>
   obtain ⟨v,h1⟩:=r;simp only [ha] at he;exact ⟨k,v,h1,ha,k,fr',h',he,q⟩
 ·rintro ⟨k,v,h1,ha,k',fr',h',he,q⟩;refine ⟨max k k',fr',h',?_,q⟩;simp only [ZbU,hst,ZcY N (Nat.le_max_left k k') _ _ _ _ ha];exact ZeS (ZcY N (Nat.le_max_right k k')) he

theorem Zj4 {Q:Fr→Hp→Prop}{d:Option Nat}{op:Op}{j:Nat}{w t:Bool}{l:List Oper}(hg:fr j=.b t) :
  WO N (⟨d,op,some (j,w)⟩::l) Q fr h↔if t=w then WO N (⟨d,op,none⟩::l) Q fr h else WO N l Q (fr.put d .un) h:=by
 by_cases htw:t=w
 ·rw [if_pos htw];have:∀ k,ZaY (ZbS N k) h.n ⟨d,op,some (j,w)⟩ fr h=ZaY (ZbS N k) h.n ⟨d,op,none⟩ fr h:=by
   intro k;have h1:Zci (some (j,w)) fr=true:=by simp [Zci,hg,htw]
   have h2:Zci none fr=true:=rfl;unfold ZaY;simp only [h1,h2]
  unfold WO;simp only [ZbU,this]
 ·rw [if_neg htw];have:∀ k,ZaY (ZbS N k) h.n ⟨d,op,some (j,w)⟩ fr h=some (.un,h,.no):=by
   intro k;have h1:Zci (some (j,w)) fr=false:=by simp [Zci,hg,htw]
   unfold ZaY;simp [h1]
  unfold WO;simp only [ZbU,this]

/-! An order is drawn. -/
theorem Zoq {ops:List Oper}{prs:List (Nat×Nat)}:W N (.draw ops prs) Q fr h↔WD N h.n ((List.range ops.length).zip ops) (fun fr' h' ts=>(∀ q∈prs,(Zg6 ts q.1).apart (Zg6 ts q.2))∧Q .normal fr' h') fr (h.bump ops.length):=by
 constructor
 ·rintro ⟨k,e,fr',h',he,q⟩;simp only [Zbe] at he;split at he
  ·rename_i hb;simp only [Option.some.injEq,Prod.mk.injEq] at he;obtain ⟨rfl,rfl,rfl⟩:=he;unfold Zc0 at hb;split at hb
   ·rename_i hd;split at hb
    ·rename_i hp;simp only [Option.some.injEq,Prod.mk.injEq] at hb;obtain ⟨rfl,rfl⟩:=hb;exact ⟨k,_,_,_,hd,hp,q⟩
    ·cases hb
   ·cases hb
  ·cases he
 ·rintro ⟨k,fr',h',ts,he,hp,q⟩;refine ⟨k,.normal,fr',h',?_,q⟩;simp only [Zbe,Zc0,he,if_pos hp]

@[simp] theorem ZlI {base:Nat}{Q:Fr→Hp→List (Nat×Tr)→Prop}:WD N base [] Q fr h↔Q fr h []:=by
 constructor
 ·rintro ⟨k,fr',h',ts,he,q⟩;simp only [Zax,Option.some.injEq,Prod.mk.injEq] at he;obtain ⟨rfl,rfl,rfl⟩:=he;exact q
 ·exact fun q=>⟨0,_,_,_,rfl,q⟩

theorem ZjY {base j:Nat}{Q:Fr→Hp→List (Nat×Tr)→Prop}{d:Option Nat}{op:Op}{l:List (Nat×Oper)}(hop:∀ f args,op≠.call f args) :
  WD N base ((j,⟨d,op,none⟩)::l) Q fr h↔WA (act h.m (base+j) fr.ev op) fun v up=>WD N base l (fun fr' h' ts=>Q fr' h' ((j,.op op.looks up.isEmpty (ZbW fr.ev op) (base+j))::ts)) (fr.put d v) (h.puts up):=by
 have hst:∀ k,ZaY (ZbS N k) (base+j) ⟨d,op,none⟩ fr h=match act h.m (base+j) fr.ev op with|some (v,up)=>some (v,h.puts up,.op op.looks up.isEmpty (ZbW fr.ev op) (base+j))|none=>none:=by
  intro k;unfold ZaY;simp only [Zci,if_true];rfl
 constructor
 ·rintro ⟨k,fr',h',ts,he,q⟩;simp only [Zax,hst] at he
  cases ha:act h.m (base+j) fr.ev op with
  | none=>simp [ha] at he
  | some r =>
   obtain ⟨v,up⟩:=r;simp only [ha] at he;split at he
   ·rename_i hr;simp only [Option.some.injEq,Prod.mk.injEq] at he;obtain ⟨rfl,rfl,rfl⟩:=he;exact ⟨k,_,_,_,hr,q⟩
   ·cases he
 ·intro hw
  cases ha:act h.m (base+j) fr.ev op with
  | none=>rw [ha] at hw;exact hw.elim
  | some r =>
   obtain ⟨v,up⟩:=r;rw [ha] at hw;obtain ⟨k,fr',h',ts,he,q⟩:=hw;refine ⟨k,fr',h',_,?_,q⟩;simp only [Zax,hst,ha,he]

theorem ZkD {base j:Nat}{Q:Fr→Hp→List (Nat×Tr)→Prop}{d:Option Nat}{f:Opd}{args:List Opd}{l:List (Nat×Oper)}{id:Nat}{caps:List V}(hf:fr.ev f=.f id caps) :
  WD N base ((j,⟨d,.call f args,none⟩)::l) Q fr h↔WC N (fid id) (Ze1 id (args.map fr.ev) caps) h fun v h'=>WD N base l (fun fr' h'' ts=>Q fr' h'' ((j,.call fun r=>h'.m r≠h.m r)::ts)) (fr.put d v) h':=by
 have hst:∀ k,ZaY (ZbS N k) (base+j) ⟨d,.call f args,none⟩ fr h=match ZbS N k (fid id) (Ze1 id (args.map fr.ev) caps) h with|some (v,h')=>some (v,h',.call fun r=>h'.m r≠h.m r)|none=>none:=by
  intro k;unfold ZaY;simp only [Zci,if_true,hf];rfl
 constructor
 ·rintro ⟨k,fr',h',ts,he,q⟩;simp only [Zax,hst] at he
  cases ha:ZbS N k (fid id) (Ze1 id (args.map fr.ev) caps) h with
  | none=>simp [ha] at he
  | some r =>
   obtain ⟨v,h1⟩:=r;simp only [ha] at he;split at he
   ·rename_i hr;simp only [Option.some.injEq,Prod.mk.injEq] at he;obtain ⟨rfl,rfl,rfl⟩:=he;exact ⟨k,v,h1,ha,k,_,_,_,hr,q⟩
   ·cases he
 ·rintro ⟨k,v,h1,ha,k',fr',h',ts,he,q⟩;refine ⟨max k k',fr',h',_,?_,q⟩;simp only [Zax,hst,ZcY N (Nat.le_max_left k k') _ _ _ _ ha,Ze0 (ZcY N (Nat.le_max_right k k')) he]

theorem Zj3 {base i:Nat}{Q:Fr→Hp→List (Nat×Tr)→Prop}{d:Option Nat}{op:Op}{j:Nat}{w t:Bool}{l:List (Nat×Oper)}(hg:fr j=.b t) :
  WD N base ((i,⟨d,op,some (j,w)⟩)::l) Q fr h↔if t=w then WD N base ((i,⟨d,op,none⟩)::l) Q fr h else WD N base l (fun fr' h' ts=>Q fr' h' ((i,.no)::ts)) (fr.put d .un) h:=by
 by_cases htw:t=w
 ·rw [if_pos htw];have:∀ k,ZaY (ZbS N k) (base+i) ⟨d,op,some (j,w)⟩ fr h=ZaY (ZbS N k) (base+i) ⟨d,op,none⟩ fr h:=by
   intro k;have h1:Zci (some (j,w)) fr=true:=by simp [Zci,hg,htw]
   have h2:Zci none fr=true:=rfl;unfold ZaY;simp only [h1,h2]
  unfold WD;simp only [Zax,this]
 ·rw [if_neg htw];have hst:∀ k,ZaY (ZbS N k) (base+i) ⟨d,op,some (j,w)⟩ fr h=some (.un,h,.no):=by
   intro k;have h1:Zci (some (j,w)) fr=false:=by simp [Zci,hg,htw]
   unfold ZaY;simp [h1]
  constructor
  ·rintro ⟨k,fr',h',ts,he,q⟩;simp only [Zax,hst] at he;split at he
   ·rename_i hr;simp only [Option.some.injEq,Prod.mk.injEq] at he;obtain ⟨rfl,rfl,rfl⟩:=he;exact ⟨k,_,_,_,hr,q⟩
   ·cases he
  ·rintro ⟨k,fr',h',ts,he,q⟩;refine ⟨k,fr',h',_,?_,q⟩;simp only [Zax,hst,he]

theorem ZlH {f:Nat}{F:Func}{args:List V}{h:Hp}{Q:V→Hp→Prop}(hN:N f=some F)
  (hw:W N F.body (fun e fr h'=>match e with|.exit _=>False|_=>match Zc8 fr h' F.results with|some vs=>Q (Zk2 vs) h'|none=>False) (Fr.start args) h) (hz:¬(F.ntmps=0∧0<args.length):=by first|exact fun h=>absurd h.1 (by decide)|exact fun h=>absurd h.2 (by simp)):WC N f args h Q:=by
 obtain ⟨k,e,fr',h',he,q⟩:=hw
 cases e with
 | exit i=>exact q.elim
 | normal =>
  simp only at q;split at q
  ·rename_i vs hv;exact ⟨k+1,_,_,by simp only [ZbS,hN,if_neg hz,he,hv],q⟩
  ·exact q.elim
 | ret =>
  simp only at q;split at q
  ·rename_i vs hv;exact ⟨k+1,_,_,by simp only [ZbS,hN,if_neg hz,he,hv],q⟩
  ·exact q.elim

def Ret (rs:List Res) (Q:V→Hp→Prop) (e:Ex) (fr:Fr) (h':Hp):Prop:=match e with|.exit _=>False|_=>match Zc8 fr h' rs with|some vs=>Q (Zk2 vs) h'|none=>False
theorem ZaI {f:Nat}{F:Func}{args:List V}{h:Hp}{Q:V→Hp→Prop}(hN:N f=some F) (hw:W N F.body (Ret F.results Q) (Fr.start args) h) (hz:¬(F.ntmps=0∧0<args.length):=by first|exact fun h=>absurd h.1 (by decide)|exact fun h=>absurd h.2 (by simp)):WC N f args h Q:=ZlH hN hw hz
end rules
end Mu
