/- What a piece of the evaluator's code comes to: rules. -/
import Derived.Test.YtjhlegefgllihaaMuE1
namespace Mu
open Go (IntKind BinOp UnOp)
set_option linter.unusedVariables false

/-! ### More fuel makes no difference -/
def Le (call call':ZbR):Prop:=∀ f args h r,call f args h=some r→call' f args h=some r

theorem ZjO {call call':ZbR}(hl:Le call call') {nr:Nat}{o:Oper}{fr:Fr}{h:Hp}{r:V×Hp×Tr}(hs:ZaD call nr o fr h=some r):ZaD call' nr o fr h=some r:=by
 unfold ZaD at hs ⊢;split at hs
 ·rename_i hw;rw [if_pos hw];split at hs
  ·split at hs
   ·split at hs
    ·rename_i hc;simp only [hl _ _ _ _ hc];exact hs
    ·cases hs
   ·cases hs
  ·exact hs
 ·rename_i hw;rw [if_neg hw];exact hs

theorem Ze4 {call call':ZbR}(hl:Le call call'):∀ {ops:List Oper}{fr:Fr}{h:Hp}{r:Fr×Hp},ZbA call ops fr h=some r→ZbA call' ops fr h=some r
 | [],_,_,_,he=>he
 | o::l,fr,h,r,he=>by
  simp only [ZbA] at he ⊢;split at he
  ·rename_i hs;rw [ZjO hl hs];exact Ze4 hl he
  ·cases he

theorem ZdW {call call':ZbR}(hl:Le call call') {base:Nat}:∀ {ops:List (Nat×Oper)}{fr:Fr}{h:Hp}{r:Fr×Hp×List (Nat×Tr)},Zad call base ops fr h=some r→Zad call' base ops fr h=some r
 | [],_,_,_,he=>he
 | (j,o)::l,fr,h,r,he=>by
  simp only [Zad] at he ⊢;split at he
  ·rename_i hs;rw [ZjO hl hs];split at he
   ·rename_i hr;simp only [ZdW hl hr];exact he
   ·cases he
  ·cases he

theorem Zib {call call':ZbR}(hl:Le call call') {ops:List Oper}{prs:List (Nat×Nat)}{fr:Fr}{h:Hp}{r:Fr×Hp}(he:Zcj call ops prs fr h=some r):Zcj call' ops prs fr h=some r:=by
 unfold Zcj at he ⊢;split at he
 ·rename_i hd;rw [ZdW hl hd];exact he
 ·cases he

theorem ZhG {F F':Fr→Hp→Option (Ex×Fr×Hp)}(hF:∀ fr h r,F fr h=some r→F' fr h=some r):∀ {k k':Nat},k≤k'→∀ {fr:Fr}{h:Hp}{r:Ex×Fr×Hp},Zfx F k fr h=some r→Zfx F' k' fr h=some r
 | 0,_,_,_,_,_,he=>by cases he
 | k+1,0,hk,_,_,_,he=>by omega
 | k+1,k'+1,hk,fr,h,r,he=>by
  simp only [Zfx] at he ⊢;split at he
  ·rename_i hb;rw [hF _ _ _ hb];exact ZhG hF (by omega) he
  ·rename_i hne;rw [hF _ _ _ he];split
   ·rename_i heq;simp only [Option.some.injEq] at heq;subst heq;exact absurd he (hne _ _)
   ·rfl

theorem ZcH {call call':ZbR}(hl:Le call call') {k k':Nat}(hk:k≤k'):∀ {c:Code}{fr:Fr}{h:Hp}{r:Ex×Fr×Hp},ZaN call k c fr h=some r→ZaN call' k' c fr h=some r
 | .skip,_,_,_,he=>he
 | .region ops,fr,h,r,he=>by
  simp only [ZaN] at he ⊢;split at he
  ·rename_i hb;rw [Ze4 hl hb];exact he
  ·cases he
 | .draw ops prs,fr,h,r,he=>by
  simp only [ZaN] at he ⊢;split at he
  ·rename_i hb;rw [Zib hl hb];exact he
  ·cases he
 | .seq a b,fr,h,r,he=>by
  simp only [ZaN] at he ⊢;split at he
  ·rename_i hb;rw [ZcH hl hk hb];exact ZcH hl hk he
  ·rename_i hne;rw [ZcH hl hk he];split
   ·rename_i heq;simp only [Option.some.injEq] at heq;subst heq;exact absurd he (hne _ _)
   ·rfl
 | .cond c a b,fr,h,r,he=>by
  simp only [ZaN] at he ⊢;split at he
  ·exact ZcH hl hk he
  ·exact ZcH hl hk he
  ·cases he
 | .block id a,fr,h,r,he=>by
  simp only [ZaN] at he ⊢;split at he
  ·rename_i hb;rw [ZcH hl hk hb];exact he
  ·rename_i hne;rw [ZcH hl hk he];split
   ·rename_i heq;simp only [Option.some.injEq] at heq;subst heq;exact absurd he (hne _ _ _)
   ·rfl
 | .loop a,fr,h,r,he=>ZhG (fun _ _ _ hb=>ZcH hl hk hb) hk he
 | .exit id,_,_,_,he=>he
 | .ret,_,_,_,he=>he
 | .bad,_,_,_,he=>by cases he

theorem Zjw (P:Prog) (k:Nat) (f:Nat) (args:List V) (h:Hp):Zb9 P (k+1) f args h=(match P f with
  | none=>none
  | some fn=>if fn.ntmps=0∧0<args.length then none else match ZaN (Zb9 P k) k fn.body (Fr.start args) h with
   | some (.normal,fr,h')|some (.ret,fr,h')=>match Zcq fr h' fn.results with
    | some vs=>some (Zkz vs,h')
    | none=>none
   | _=>none):=rfl
theorem Zgg (N:Prog):∀ k,Le (Zb9 N k) (Zb9 N (k+1))
 | 0=>fun f args h r he=>by cases he
 | k+1=>fun f args h r he=>by
  rw [Zjw] at he;rw [Zjw];split at he
  ·cases he
  ·rename_i fn hf;split at he
   ·cases he
   rename_i hz;rw [if_neg hz];split at he
   ·rename_i hb;simp only [ZcH (Zgg N k) (Nat.le_succ k) hb];exact he
   ·rename_i hb;simp only [ZcH (Zgg N k) (Nat.le_succ k) hb];exact he
   ·cases he

theorem ZcE (N:Prog) {k k':Nat}(hk:k≤k'):Le (Zb9 N k) (Zb9 N k'):=by
 induction hk with
 | refl=>exact fun _ _ _ _ h=>h
 | step _ ih=>exact fun f args h r he=>Zgg N _ f args h r (ih f args h r he)

theorem Ze3 (N:Prog) {k k':Nat}(hk:k≤k') {c:Code}{fr:Fr}{h:Hp}{r:Ex×Fr×Hp}(he:ZaN (Zb9 N k) k c fr h=some r):ZaN (Zb9 N k') k' c fr h=some r :=
 ZcH (ZcE N hk) hk he

/-! ### Words -/
variable {N:Prog}

def WC (N:Prog) (f:Nat) (args:List V) (h:Hp) (Q:V→Hp→Prop):Prop:=∃ k v h',Zb9 N k f args h=some (v,h')∧Q v h'
def W (N:Prog) (c:Code) (Q:Ex→Fr→Hp→Prop) (fr:Fr) (h:Hp):Prop:=∃ k e fr' h',ZaN (Zb9 N k) k c fr h=some (e,fr',h')∧Q e fr' h'
def WO (N:Prog) (ops:List Oper) (Q:Fr→Hp→Prop) (fr:Fr) (h:Hp):Prop:=∃ k fr' h',ZbA (Zb9 N k) ops fr h=some (fr',h')∧Q fr' h'
def WD (N:Prog) (base:Nat) (ops:List (Nat×Oper)) (Q:Fr→Hp→List (Nat×Tr)→Prop) (fr:Fr) (h:Hp):Prop:=∃ k fr' h' ts,Zad (Zb9 N k) base ops fr h=some (fr',h',ts)∧Q fr' h' ts

def Ex.then (next:Fr→Hp→Prop) (Q:Ex→Fr→Hp→Prop):Ex→Fr→Hp→Prop
 | .normal,fr,h=>next fr h
 | e,fr,h=>Q e fr h
def Ex.blk (id:Nat) (Q:Ex→Fr→Hp→Prop):Ex→Fr→Hp→Prop
 | .exit i,fr,h=>if i=id then Q .normal fr h else Q (.exit i) fr h
 | e,fr,h=>Q e fr h

@[simp] theorem Ex.then_normal {next:Fr→Hp→Prop}{Q:Ex→Fr→Hp→Prop}{fr:Fr}{h:Hp}:Ex.then next Q .normal fr h=next fr h:=rfl
@[simp] theorem Ex.then_exit {next:Fr→Hp→Prop}{Q:Ex→Fr→Hp→Prop}{fr:Fr}{h:Hp}{i:Nat}:Ex.then next Q (.exit i) fr h=Q (.exit i) fr h:=rfl
@[simp] theorem Ex.then_ret {next:Fr→Hp→Prop}{Q:Ex→Fr→Hp→Prop}{fr:Fr}{h:Hp}:Ex.then next Q .ret fr h=Q .ret fr h:=rfl
@[simp] theorem Ex.blk_normal {id:Nat}{Q:Ex→Fr→Hp→Prop}{fr:Fr}{h:Hp}:Ex.blk id Q .normal fr h=Q .normal fr h:=rfl
@[simp] theorem Ex.blk_exit {id i:Nat}{Q:Ex→Fr→Hp→Prop}{fr:Fr}{h:Hp}:Ex.blk id Q (.exit i) fr h=if i=id then Q .normal fr h else Q (.exit i) fr h:=rfl
@[simp] theorem Ex.blk_ret {id:Nat}{Q:Ex→Fr→Hp→Prop}{fr:Fr}{h:Hp}:Ex.blk id Q .ret fr h=Q .ret fr h:=rfl

theorem WC.mono {f:Nat}{args:List V}{h:Hp}{Q Q':V→Hp→Prop}(hw:WC N f args h Q) (hq:∀ v h',Q v h'→Q' v h'):WC N f args h Q':=by
 obtain ⟨k,v,h',e,q⟩:=hw;exact ⟨k,v,h',e,hq _ _ q⟩
theorem W.mono {c:Code}{Q Q':Ex→Fr→Hp→Prop}{fr:Fr}{h:Hp}(hw:W N c Q fr h) (hq:∀ e fr h,Q e fr h→Q' e fr h):W N c Q' fr h:=by
 obtain ⟨k,e,fr',h',he,q⟩:=hw;exact ⟨k,e,fr',h',he,hq _ _ _ q⟩
theorem WO.mono {c:List Oper}{Q Q':Fr→Hp→Prop}{fr:Fr}{h:Hp}(hw:WO N c Q fr h) (hq:∀ fr h,Q fr h→Q' fr h):WO N c Q' fr h:=by
 obtain ⟨k,fr',h',he,q⟩:=hw;exact ⟨k,fr',h',he,hq _ _ q⟩

section rules
variable {Q:Ex→Fr→Hp→Prop}{fr:Fr}{h:Hp}

@[simp] theorem Zo5:W N .skip Q fr h↔Q .normal fr h:=by
 constructor
 ·rintro ⟨k,e,fr',h',he,q⟩;simp only [ZaN,Option.some.injEq,Prod.mk.injEq] at he;obtain ⟨rfl,rfl,rfl⟩:=he;exact q
 ·exact fun q=>⟨0,_,_,_,rfl,q⟩
@[simp] theorem Zo4 {id:Nat}:W N (.exit id) Q fr h↔Q (.exit id) fr h:=by
 constructor
 ·rintro ⟨k,e,fr',h',he,q⟩;simp only [ZaN,Option.some.injEq,Prod.mk.injEq] at he;obtain ⟨rfl,rfl,rfl⟩:=he;exact q
 ·exact fun q=>⟨0,_,_,_,rfl,q⟩
@[simp] theorem ZpN:W N .ret Q fr h↔Q .ret fr h:=by
 constructor
 ·rintro ⟨k,e,fr',h',he,q⟩;simp only [ZaN,Option.some.injEq,Prod.mk.injEq] at he;obtain ⟨rfl,rfl,rfl⟩:=he;exact q
 ·exact fun q=>⟨0,_,_,_,rfl,q⟩
@[simp] theorem ZpO {a b:Code}:W N (.seq a b) Q fr h↔W N a (Ex.then (W N b Q) Q) fr h:=by
 constructor
 ·rintro ⟨k,e,fr',h',he,q⟩;simp only [ZaN] at he;split at he
  ·rename_i fr1 h1 hb;exact ⟨k,.normal,fr1,h1,hb,k,e,fr',h',he,q⟩
  ·rename_i hne;refine ⟨k,e,fr',h',he,?_⟩;cases e
   ·exact absurd he (hne _ _)
   ·exact q
   ·exact q
 ·rintro ⟨k,e,fr',h',he,q⟩
  cases e with
  | normal =>
   obtain ⟨k',e',fr'',h'',he',q'⟩:=q;refine ⟨max k k',e',fr'',h'',?_,q'⟩;simp only [ZaN,Ze3 N (Nat.le_max_left k k') he];exact Ze3 N (Nat.le_max_right k k') he'
  | exit i=>exact ⟨k,.exit i,fr',h',by simp only [ZaN,he],q⟩
  | ret=>exact ⟨k,.ret,fr',h',by simp only [ZaN,he],q⟩
theorem ZjS {c:Opd}{a b:Code}{t:Bool}(hc:fr.ev c=.b t):W N (.cond c a b) Q fr h↔if t=true then W N a Q fr h else W N b Q fr h:=by
 unfold W;cases t<;>simp [ZaN,hc]
@[simp] theorem Zng {id:Nat}{a:Code}:W N (.block id a) Q fr h↔W N a (Ex.blk id Q) fr h:=by
 constructor
 ·rintro ⟨k,e,fr',h',he,q⟩;simp only [ZaN] at he;split at he
  ·rename_i id' fr1 h1 hb;refine ⟨k,.exit id',fr1,h1,hb,?_⟩;split at he
   ·rename_i hid;simp only [Option.some.injEq,Prod.mk.injEq] at he;obtain ⟨rfl,rfl,rfl⟩:=he;simpa [hid] using q
   ·rename_i hid;simp only [Option.some.injEq,Prod.mk.injEq] at he;obtain ⟨rfl,rfl,rfl⟩:=he;simpa [hid] using q
  ·rename_i hne;refine ⟨k,e,fr',h',he,?_⟩;cases e
   ·exact q
   ·exact absurd he (hne _ _ _)
   ·exact q
 ·rintro ⟨k,e,fr',h',he,q⟩
  cases e with
  | normal=>exact ⟨k,.normal,fr',h',by simp only [ZaN,he],q⟩
  | exit i =>
   simp only [Ex.blk_exit] at q;split at q
   ·rename_i hid;exact ⟨k,.normal,fr',h',by simp only [ZaN,he,if_pos hid],q⟩
   ·rename_i hid;exact ⟨k,.exit i,fr',h',by simp only [ZaN,he,if_neg hid],q⟩
  | ret=>exact ⟨k,.ret,fr',h',by simp only [ZaN,he],q⟩

theorem Zju {a:Code}(hw:W N a (Ex.then (W N (.loop a) Q) Q) fr h):W N (.loop a) Q fr h:=by
 obtain ⟨k,e,fr',h',he,q⟩:=hw
 cases e with
 | normal =>
  obtain ⟨k',e',fr'',h'',he',q'⟩:=q;refine ⟨max k k'+1,e',fr'',h'',?_,q'⟩;simp only [ZaN,Zfx,Ze3 N (Nat.le_trans (Nat.le_max_left k k') (Nat.le_succ _)) he];have:=Ze3 N (Nat.le_max_right k k') he';simp only [ZaN] at this;exact ZhG (fun _ _ _ hb=>Ze3 N (Nat.le_succ _) hb) (Nat.le_refl _) this
 | exit i =>
  refine ⟨k+1,.exit i,fr',h',?_,q⟩;simp only [ZaN,Zfx,Ze3 N (Nat.le_succ k) he]
 | ret =>
  refine ⟨k+1,.ret,fr',h',?_,q⟩;simp only [ZaN,Zfx,Ze3 N (Nat.le_succ k) he]

@[simp] theorem ZlN {ops:List Oper}:W N (.region ops) Q fr h↔WO N ops (Q .normal) fr h:=by
 constructor
 ·rintro ⟨k,e,fr',h',he,q⟩;simp only [ZaN] at he;split at he
  ·rename_i hb;simp only [Option.some.injEq,Prod.mk.injEq] at he;obtain ⟨rfl,rfl,rfl⟩:=he;exact ⟨k,_,_,hb,q⟩
  ·cases he
 ·rintro ⟨k,fr',h',he,q⟩;exact ⟨k,.normal,fr',h',by simp only [ZaN,he],q⟩

@[simp] theorem Zo2 {Q:Fr→Hp→Prop}:WO N [] Q fr h↔Q fr h:=by
 constructor
 ·rintro ⟨k,fr',h',he,q⟩;simp only [ZbA,Option.some.injEq,Prod.mk.injEq] at he;obtain ⟨rfl,rfl⟩:=he;exact q
 ·exact fun q=>⟨0,_,_,rfl,q⟩

def WA (o:Option (V×List (Nat×Obj))) (K:V→List (Nat×Obj)→Prop):Prop:=match o with|some (v,up)=>K v up|none=>False
@[simp] theorem Zk9 {v:V}{up:List (Nat×Obj)}{K:V→List (Nat×Obj)→Prop}:WA (some (v,up)) K=K v up:=rfl
@[simp] theorem Znd {K:V→List (Nat×Obj)→Prop}:WA none K=False:=rfl

theorem ZlL {Q:Fr→Hp→Prop}{d:Option Nat}{op:Op}{l:List Oper}(hop:∀ f args,op≠.call f args):WO N (⟨d,op,none⟩::l) Q fr h↔WA (act h.m h.n fr.ev op) fun v up=>WO N l Q (fr.put d v) (h.puts up):=by
 have hst:∀ k,ZaD (Zb9 N k) h.n ⟨d,op,none⟩ fr h=match act h.m h.n fr.ev op with|some (v,up)=>some (v,h.puts up,.op op.looks up.isEmpty (ZbB fr.ev op) h.n)|none=>none:=by
  intro k;unfold ZaD;simp only [ZbO,if_true];rfl
 constructor
 ·rintro ⟨k,fr',h',he,q⟩;simp only [ZbA,hst] at he
  cases ha:act h.m h.n fr.ev op with
  | none=>simp [ha] at he
  | some r =>
   obtain ⟨v,up⟩:=r;simp only [ha] at he;exact ⟨k,fr',h',he,q⟩
 ·intro hw
  cases ha:act h.m h.n fr.ev op with
  | none=>rw [ha] at hw;exact hw.elim
  | some r =>
   obtain ⟨v,up⟩:=r;rw [ha] at hw;obtain ⟨k,fr',h',he,q⟩:=hw;refine ⟨k,fr',h',?_,q⟩;simp only [ZbA,hst,ha];exact he

theorem ZiA {Q:Fr→Hp→Prop}{d:Option Nat}{f:Opd}{args:List Opd}{l:List Oper}{id:Nat}{caps:List V}(hf:fr.ev f=.f id caps) :
  WO N (⟨d,.call f args,none⟩::l) Q fr h↔WC N (fid id) (ZdX id (args.map fr.ev) caps) h fun v h'=>WO N l Q (fr.put d v) h':=by
 have hst:∀ k,ZaD (Zb9 N k) h.n ⟨d,.call f args,none⟩ fr h=match Zb9 N k (fid id) (ZdX id (args.map fr.ev) caps) h with|some (v,h')=>some (v,h',.call fun r=>h'.m r≠h.m r)|none=>none:=by
  intro k;unfold ZaD;simp only [ZbO,if_true,hf];rfl
 constructor
 ·rintro ⟨k,fr',h',he,q⟩;simp only [ZbA,hst] at he
  cases ha:Zb9 N k (fid id) (ZdX id (args.map fr.ev) caps) h with
  | none=>simp [ha] at he
  | some r =>
   obtain ⟨v,h1⟩:=r;simp only [ha] at he;exact ⟨k,v,h1,ha,k,fr',h',he,q⟩
 ·rintro ⟨k,v,h1,ha,k',fr',h',he,q⟩;refine ⟨max k k',fr',h',?_,q⟩;simp only [ZbA,hst,ZcE N (Nat.le_max_left k k') _ _ _ _ ha];exact Ze4 (ZcE N (Nat.le_max_right k k')) he

theorem Zjs {Q:Fr→Hp→Prop}{d:Option Nat}{op:Op}{j:Nat}{w t:Bool}{l:List Oper}(hg:fr j=.b t) :
  WO N (⟨d,op,some (j,w)⟩::l) Q fr h↔if t=w then WO N (⟨d,op,none⟩::l) Q fr h else WO N l Q (fr.put d .un) h:=by
 by_cases htw:t=w
 ·rw [if_pos htw];have:∀ k,ZaD (Zb9 N k) h.n ⟨d,op,some (j,w)⟩ fr h=ZaD (Zb9 N k) h.n ⟨d,op,none⟩ fr h:=by
   intro k;have h1:ZbO (some (j,w)) fr=true:=by simp [ZbO,hg,htw]
   have h2:ZbO none fr=true:=rfl;unfold ZaD;simp only [h1,h2]
  unfold WO;simp only [ZbA,this]
 ·rw [if_neg htw];have:∀ k,ZaD (Zb9 N k) h.n ⟨d,op,some (j,w)⟩ fr h=some (.un,h,.no):=by
   intro k;have h1:ZbO (some (j,w)) fr=false:=by simp [ZbO,hg,htw]
   unfold ZaD;simp [h1]
  unfold WO;simp only [ZbA,this]

/-! An order is drawn. -/
theorem Zo3 {ops:List Oper}{prs:List (Nat×Nat)}:W N (.draw ops prs) Q fr h↔WD N h.n ((List.range ops.length).zip ops) (fun fr' h' ts=>(∀ q∈prs,(Zgr ts q.1).apart (Zgr ts q.2))∧Q .normal fr' h') fr (h.bump ops.length):=by
 constructor
 ·rintro ⟨k,e,fr',h',he,q⟩;simp only [ZaN] at he;split at he
  ·rename_i hb;simp only [Option.some.injEq,Prod.mk.injEq] at he;obtain ⟨rfl,rfl,rfl⟩:=he;unfold Zcj at hb;split at hb
   ·rename_i hd;split at hb
    ·rename_i hp;simp only [Option.some.injEq,Prod.mk.injEq] at hb;obtain ⟨rfl,rfl⟩:=hb;exact ⟨k,_,_,_,hd,hp,q⟩
    ·cases hb
   ·cases hb
  ·cases he
 ·rintro ⟨k,fr',h',ts,he,hp,q⟩;refine ⟨k,.normal,fr',h',?_,q⟩;simp only [ZaN,Zcj,he,if_pos hp]

@[simp] theorem ZlK {base:Nat}{Q:Fr→Hp→List (Nat×Tr)→Prop}:WD N base [] Q fr h↔Q fr h []:=by
 constructor
 ·rintro ⟨k,fr',h',ts,he,q⟩;simp only [Zad,Option.some.injEq,Prod.mk.injEq] at he;obtain ⟨rfl,rfl,rfl⟩:=he;exact q
 ·exact fun q=>⟨0,_,_,_,rfl,q⟩

theorem ZjR {base j:Nat}{Q:Fr→Hp→List (Nat×Tr)→Prop}{d:Option Nat}{op:Op}{l:List (Nat×Oper)}(hop:∀ f args,op≠.call f args) :
  WD N base ((j,⟨d,op,none⟩)::l) Q fr h↔WA (act h.m (base+j) fr.ev op) fun v up=>WD N base l (fun fr' h' ts=>Q fr' h' ((j,.op op.looks up.isEmpty (ZbB fr.ev op) (base+j))::ts)) (fr.put d v) (h.puts up):=by
 have hst:∀ k,ZaD (Zb9 N k) (base+j) ⟨d,op,none⟩ fr h=match act h.m (base+j) fr.ev op with|some (v,up)=>some (v,h.puts up,.op op.looks up.isEmpty (ZbB fr.ev op) (base+j))|none=>none:=by
  intro k;unfold ZaD;simp only [ZbO,if_true];rfl
 constructor
 ·rintro ⟨k,fr',h',ts,he,q⟩;simp only [Zad,hst] at he
  cases ha:act h.m (base+j) fr.ev op with
  | none=>simp [ha] at he
  | some r =>
   obtain ⟨v,up⟩:=r;simp only [ha] at he;split at he
   ·rename_i hr;simp only [Option.some.injEq,Prod.mk.injEq] at he;obtain ⟨rfl,rfl,rfl⟩:=he;exact ⟨k,_,_,_,hr,q⟩
   ·cases he
 ·intro hw
  cases ha:act h.m (base+j) fr.ev op with
  | none=>rw [ha] at hw;exact hw.elim
  | some r =>
   obtain ⟨v,up⟩:=r;rw [ha] at hw;obtain ⟨k,fr',h',ts,he,q⟩:=hw;refine ⟨k,fr',h',_,?_,q⟩;simp only [Zad,hst,ha,he]

theorem ZkA {base j:Nat}{Q:Fr→Hp→List (Nat×Tr)→Prop}{d:Option Nat}{f:Opd}{args:List Opd}{l:List (Nat×Oper)}{id:Nat}{caps:List V}(hf:fr.ev f=.f id caps) :
  WD N base ((j,⟨d,.call f args,none⟩)::l) Q fr h↔WC N (fid id) (ZdX id (args.map fr.ev) caps) h fun v h'=>WD N base l (fun fr' h'' ts=>Q fr' h'' ((j,.call fun r=>h'.m r≠h.m r)::ts)) (fr.put d v) h':=by
 have hst:∀ k,ZaD (Zb9 N k) (base+j) ⟨d,.call f args,none⟩ fr h=match Zb9 N k (fid id) (ZdX id (args.map fr.ev) caps) h with|some (v,h')=>some (v,h',.call fun r=>h'.m r≠h.m r)|none=>none:=by
  intro k;unfold ZaD;simp only [ZbO,if_true,hf];rfl
 constructor
 ·rintro ⟨k,fr',h',ts,he,q⟩;simp only [Zad,hst] at he
  cases ha:Zb9 N k (fid id) (ZdX id (args.map fr.ev) caps) h with
  | none=>simp [ha] at he
  | some r =>
   obtain ⟨v,h1⟩:=r;simp only [ha] at he;split at he
   ·rename_i hr;simp only [Option.some.injEq,Prod.mk.injEq] at he;obtain ⟨rfl,rfl,rfl⟩:=he;exact ⟨k,v,h1,ha,k,_,_,_,hr,q⟩
   ·cases he
 ·rintro ⟨k,v,h1,ha,k',fr',h',ts,he,q⟩;refine ⟨max k k',fr',h',_,?_,q⟩;simp only [Zad,hst,ZcE N (Nat.le_max_left k k') _ _ _ _ ha,ZdW (ZcE N (Nat.le_max_right k k')) he]

theorem Zjr {base i:Nat}{Q:Fr→Hp→List (Nat×Tr)→Prop}{d:Option Nat}{op:Op}{j:Nat}{w t:Bool}{l:List (Nat×Oper)}(hg:fr j=.b t) :
  WD N base ((i,⟨d,op,some (j,w)⟩)::l) Q fr h↔if t=w then WD N base ((i,⟨d,op,none⟩)::l) Q fr h else WD N base l (fun fr' h' ts=>Q fr' h' ((i,.no)::ts)) (fr.put d .un) h:=by
 by_cases htw:t=w
 ·rw [if_pos htw];have:∀ k,ZaD (Zb9 N k) (base+i) ⟨d,op,some (j,w)⟩ fr h=ZaD (Zb9 N k) (base+i) ⟨d,op,none⟩ fr h:=by
   intro k;have h1:ZbO (some (j,w)) fr=true:=by simp [ZbO,hg,htw]
   have h2:ZbO none fr=true:=rfl;unfold ZaD;simp only [h1,h2]
  unfold WD;simp only [Zad,this]
 ·rw [if_neg htw];have hst:∀ k,ZaD (Zb9 N k) (base+i) ⟨d,op,some (j,w)⟩ fr h=some (.un,h,.no):=by
   intro k;have h1:ZbO (some (j,w)) fr=false:=by simp [ZbO,hg,htw]
   unfold ZaD;simp [h1]
  constructor
  ·rintro ⟨k,fr',h',ts,he,q⟩;simp only [Zad,hst] at he;split at he
   ·rename_i hr;simp only [Option.some.injEq,Prod.mk.injEq] at he;obtain ⟨rfl,rfl,rfl⟩:=he;exact ⟨k,_,_,_,hr,q⟩
   ·cases he
  ·rintro ⟨k,fr',h',ts,he,q⟩;refine ⟨k,fr',h',_,?_,q⟩;simp only [Zad,hst,he]

theorem ZlJ {f:Nat}{F:Func}{args:List V}{h:Hp}{Q:V→Hp→Prop}(hN:N f=some F)
  (hw:W N F.body (fun e fr h'=>match e with|.exit _=>False|_=>match Zcq fr h' F.results with|some vs=>Q (Zkz vs) h'|none=>False) (Fr.start args) h) (hz:¬(F.ntmps=0∧0<args.length):=by first|exact fun h=>absurd h.1 (by decide)|exact fun h=>absurd h.2 (by simp)):WC N f args h Q:=by
 obtain ⟨k,e,fr',h',he,q⟩:=hw
 cases e with
 | exit i=>exact q.elim
 | normal =>
  simp only at q;split at q
  ·rename_i vs hv;exact ⟨k+1,_,_,by simp only [Zb9,hN,if_neg hz,he,hv],q⟩
  ·exact q.elim
 | ret =>
  simp only at q;split at q
  ·rename_i vs hv;exact ⟨k+1,_,_,by simp only [Zb9,hN,if_neg hz,he,hv],q⟩
  ·exact q.elim

def Ret (rs:List Res) (Q:V→Hp→Prop) (e:Ex) (fr:Fr) (h':Hp):Prop:=match e with|.exit _=>False|_=>match Zcq fr h' rs with|some vs=>Q (Zkz vs) h'|none=>False
theorem ZaB {f:Nat}{F:Func}{args:List V}{h:Hp}{Q:V→Hp→Prop}(hN:N f=some F) (hw:W N F.body (Ret F.results Q) (Fr.start args) h) (hz:¬(F.ntmps=0∧0<args.length):=by first|exact fun h=>absurd h.1 (by decide)|exact fun h=>absurd h.2 (by simp)):WC N f args h Q:=ZlJ hN hw hz
end rules
end Mu
