/- Symbolic runs: the rules that simp goes by. -/
import Derived.Test.YtdefkboekpjiiaaMuW
namespace Mu
open Go (IntKind BinOp UnOp)
variable {N:Prog}
section rules
variable {Q:Ex→Fr→Hp→Prop}{fr:Fr}{h:Hp}

def WB (v:V) (a b:Prop):Prop:=match v with|.b t=>if t=true then a else b|_=>False
@[simp] theorem Zlq {t:Bool}{a b:Prop}:WB (.b t) a b=if t=true then a else b:=rfl

@[simp] theorem Zmh {c:Opd}{a b:Code}:W N (.cond c a b) Q fr h↔WB (fr.ev c) (W N a Q fr h) (W N b Q fr h):=by
 cases hc:fr.ev c with
 | b t=>rw [ZgO hc];rfl
 | _=>exact ⟨fun ⟨k,e,fr',h',he,q⟩=>by simp [zz,hc] at he,fun q=>q.elim⟩

def WS (N:Prog) (d:Option Nat) (op:Op) (l:List Oper) (Q:Fr→Hp→Prop) (fr:Fr) (h:Hp):Prop :=
 match op with
 | .call f args=>(match fr.ev f with|.f id caps=>WC N (fid id) (ZbA id (args.map fr.ev) caps) h fun v h'=>WO N l Q (fr.put d v) h'|_=>False)
 | op=>WA (act h.m h.n fr.ev op) fun v up=>WO N l Q (fr.put d v) (h.puts up)

theorem Zhr {Q:Fr→Hp→Prop}{d:Option Nat}{op:Op}{l:List Oper}:WO N (⟨d,op,none⟩::l) Q fr h↔WS N d op l Q fr h:=by
 cases op
 case call f args =>
  cases hf:fr.ev f with
  | f id caps =>
   rw [Zhq hf];simp only [WS,hf]
  | _ =>
   simp only [WS,hf,iff_false];rintro ⟨k,fr',h',he,q⟩;simp [Zaj,zI,Za7,hf] at he
 all_goals exact Zij (by intro f args hh;cases hh)

@[simp] theorem Zmf {Q:Fr→Hp→Prop}{d:Option Nat}{op:Op}{l:List Oper}:WO N (⟨d,op,none⟩::l) Q fr h↔WS N d op l Q fr h:=Zhr

@[simp] theorem Zmg {Q:Fr→Hp→Prop}{d:Option Nat}{op:Op}{j:Nat}{w:Bool}{l:List Oper} :
  WO N (⟨d,op,some (j,w)⟩::l) Q fr h↔if Za7 (some (j,w)) fr=true then WS N d op l Q fr h else WO N l Q (fr.put d .un) h:=by
 rw [← Zhr]
 cases hb:Za7 (some (j,w)) fr with
 | true =>
  have:∀ k,zI (Zaw N k) h.n ⟨d,op,some (j,w)⟩ fr h=zI (Zaw N k) h.n ⟨d,op,none⟩ fr h:=by
   intro k;have h2:Za7 none fr=true:=rfl;unfold zI;simp only [hb,h2]
  unfold WO;simp only [Zaj,this,if_true]
 | false =>
  have:∀ k,zI (Zaw N k) h.n ⟨d,op,some (j,w)⟩ fr h=some (.un,h,.no):=by
   intro k;unfold zI;simp [hb]
  unfold WO;simp [Zaj,this]

@[simp] theorem Zlk {fr:Fr}:Za7 none fr=true:=rfl
def V.is (v:V) (w:Bool):Bool:=match v with|.b x=>x == w|_=>false
@[simp] theorem V.is_b {x w:Bool}:V.is (.b x) w=(x == w):=rfl
@[simp] theorem V.is_un {w:Bool}:V.is .un w=false:=rfl
@[simp] theorem ZeO {fr:Fr}{j:Nat}{w:Bool}:Za7 (some (j,w)) fr=V.is (fr j) w:=rfl

@[simp] theorem Fr.put_some {fr:Fr}{d:Nat}{v:V}:fr.put (some d) v=fr.set d v:=rfl
@[simp] theorem Fr.put_none {fr:Fr}{v:V}:fr.put none v=fr:=rfl
@[simp] theorem Fr.set_at {fr:Fr}{d t:Nat}{v:V}:fr.set d v t=if t=d then v else fr t:=rfl
@[simp] theorem Fr.ev_t {fr:Fr}{n:Nat}:fr.ev (.t n)=fr n:=rfl
@[simp] theorem Fr.ev_c {fr:Fr}{v:V}:fr.ev (.c v)=v:=rfl
@[simp] theorem Fr.start_at {args:List V}{t:Nat}:Fr.start args t=(args[t]?).getD .un:=rfl
@[simp] theorem Hp.puts_nil {h:Hp}:h.puts []=h:=rfl
@[simp] theorem Hp.puts_cons {h:Hp}{r:Nat}{o:Obj}{l:List (Nat×Obj)}:h.puts ((r,o)::l)=(h.put r o).puts l:=rfl
@[simp] theorem Hp.put_at {h:Hp}{r q:Nat}{o:Obj}:(h.put r o).m q=if q=r then some o else h.m q:=rfl
@[simp] theorem Hp.put_n {h:Hp}{r:Nat}{o:Obj}:(h.put r o).n=max h.n (r+1):=rfl
@[simp] theorem Hp.bump_m {h:Hp}{k:Nat}:(h.bump k).m=h.m:=rfl
@[simp] theorem Hp.bump_n {h:Hp}{k:Nat}:(h.bump k).n=h.n+k:=rfl

/-! Where simp goes,and where not. -/
def Ze1 {α:Type}(x:α):α:=x
@[simp] theorem ZaO {α:Type}{x:α}:Ze1 x=x:=id rfl
@[congr] theorem Zlp {o o':Option (V×List (Nat×Obj))}{K:V→List (Nat×Obj)→Prop}(ho:Ze1 o=o'):WA o K=WA o' K:=by rw [← ho];rfl
@[congr] theorem Zlr {v v':V}{a b:Prop}(hv:Ze1 v=v'):WB v a b=WB v' a b:=by rw [← hv];rfl
@[congr] theorem Zls {N:Prog}{f:Nat}{args args':List V}{h h':Hp}{Q:V→Hp→Prop}(ha:args=args') (hh:Ze1 h=h'):WC N f args h Q=WC N f args' h' Q:=by rw [ha,← hh];rfl
@[congr] theorem Zmi {N:Prog}{c c':Code}{Q:Ex→Fr→Hp→Prop}{fr:Fr}{h h':Hp}(hc:c=c') (hh:Ze1 h=h'):W N c Q fr h=W N c' Q fr h':=by rw [hc,← hh];rfl
@[congr] theorem Zlv {N:Prog}{c c':List Oper}{Q:Fr→Hp→Prop}{fr:Fr}{h h':Hp}(hc:c=c') (hh:Ze1 h=h'):WO N c Q fr h=WO N c' Q fr h':=by rw [hc,← hh];rfl
@[congr] theorem Zlx {N:Prog}{d:Option Nat}{o:Op}{l:List Oper}{Q:Fr→Hp→Prop}{fr:Fr}{h h':Hp}(hh:Ze1 h=h'):WS N d o l Q fr h=WS N d o l Q fr h':=by rw [← hh];rfl

/-! Where an order is drawn. -/
def ZgZ (i:Nat):List Oper→List (Nat×Oper)
 | []=>[]
 | o::l=>(i,o)::ZgZ (i+1) l
theorem Zh5:∀ (ops:List Oper) (i n:Nat),ops.length=n→(List.range' i n).zip ops=ZgZ i ops
 | [],i,n,h=>by subst h;rfl
 | o::l,i,n,h=>by
  subst h;simp only [List.length_cons,List.range'_succ,List.zip_cons_cons,ZgZ];rw [Zh5 l (i+1) _ rfl]
theorem Zhs {N:Prog}{Q:Ex→Fr→Hp→Prop}{fr:Fr}{h:Hp}{ops:List Oper}{prs:List (Nat×Nat)}:W N (.draw ops prs) Q fr h↔WD N h.n (ZgZ 0 ops) (fun fr' h' ts=>(∀ q∈prs,(Zcj ts q.1).apart (Zcj ts q.2))∧Q .normal fr' h') fr (h.bump ops.length):=by
 rw [Zkg,List.range_eq_range',Zh5 ops 0 _ rfl]

def WDS (N:Prog) (base j:Nat) (d:Option Nat) (op:Op) (l:List (Nat×Oper)) (Q:Fr→Hp→List (Nat×Tr)→Prop) (fr:Fr) (h:Hp):Prop :=
 match op with
 | .call f args=>(match fr.ev f with|.f id caps=>WC N (fid id) (ZbA id (args.map fr.ev) caps) h fun v h'=>WD N base l (fun fr' h'' ts=>Q fr' h'' ((j,.call fun r=>h'.m r≠h.m r)::ts)) (fr.put d v) h'|_=>False)
 | op=>WA (act h.m (base+j) fr.ev op) fun v up=>WD N base l (fun fr' h' ts=>Q fr' h' ((j,.op op.looks up.isEmpty (Zap fr.ev op) (base+j))::ts)) (fr.put d v) (h.puts up)

theorem Zhp {N:Prog}{fr:Fr}{h:Hp}{base j:Nat}{Q:Fr→Hp→List (Nat×Tr)→Prop}{d:Option Nat}{op:Op}{l:List (Nat×Oper)} :
  WD N base ((j,⟨d,op,none⟩)::l) Q fr h↔WDS N base j d op l Q fr h:=by
 cases op
 case call f args =>
  cases hf:fr.ev f with
  | f id caps =>
   rw [Zje hf];simp only [WDS,hf]
  | _ =>
   simp only [WDS,hf,iff_false];rintro ⟨k,fr',h',ts,he,q⟩;simp [zt,zI,Za7,hf] at he
 all_goals exact ZgN (by intro f args hh;cases hh)

theorem Zjf {N:Prog}{fr:Fr}{h:Hp}{base i:Nat}{Q:Fr→Hp→List (Nat×Tr)→Prop}{d:Option Nat}{op:Op}{j:Nat}{w:Bool}{l:List (Nat×Oper)} :
  WD N base ((i,⟨d,op,some (j,w)⟩)::l) Q fr h↔if Za7 (some (j,w)) fr=true then WDS N base i d op l Q fr h else WD N base l (fun fr' h' ts=>Q fr' h' ((i,.no)::ts)) (fr.put d .un) h:=by
 rw [← Zhp]
 cases hb:Za7 (some (j,w)) fr with
 | true =>
  have:∀ k,zI (Zaw N k) (base+i) ⟨d,op,some (j,w)⟩ fr h=zI (Zaw N k) (base+i) ⟨d,op,none⟩ fr h:=by
   intro k;have h2:Za7 none fr=true:=rfl;unfold zI;simp only [hb,h2]
  unfold WD;simp only [zt,this,if_true]
 | false =>
  have hst:∀ k,zI (Zaw N k) (base+i) ⟨d,op,some (j,w)⟩ fr h=some (.un,h,.no):=by
   intro k;unfold zI;simp [hb]
  simp only [Bool.false_eq_true,if_false];constructor
  ·rintro ⟨k,fr',h',ts,he,q⟩;simp only [zt,hst] at he;split at he
   ·rename_i hr;simp only [Option.some.injEq,Prod.mk.injEq] at he;obtain ⟨rfl,rfl,rfl⟩:=he;exact ⟨k,_,_,_,hr,q⟩
   ·cases he
  ·rintro ⟨k,fr',h',ts,he,q⟩;refine ⟨k,fr',h',_,?_,q⟩;simp only [zt,hst,he]
@[congr] theorem Zlt {N:Prog}{base:Nat}{c c':List (Nat×Oper)}{Q:Fr→Hp→List (Nat×Tr)→Prop}{fr:Fr}{h h':Hp}(hc:c=c') (hh:Ze1 h=h'):WD N base c Q fr h=WD N base c' Q fr h':=by rw [hc,← hh];rfl
@[congr] theorem Zln {N:Prog}{base j:Nat}{d:Option Nat}{o:Op}{l:List (Nat×Oper)}{Q:Fr→Hp→List (Nat×Tr)→Prop}{fr:Fr}{h h':Hp}(hh:Ze1 h=h'):WDS N base j d o l Q fr h=WDS N base j d o l Q fr h':=by rw [← hh];rfl
theorem ZhS {i j:Nat}{t:Tr}{l:List (Nat×Tr)}:Zcj ((j,t)::l) i=if i=j then t else Zcj l i:=by
 unfold Zcj;rw [List.lookup_cons];by_cases hij:i=j
 ·simp [hij]
 ·have:(i == j)=false:=by simp [hij]
  simp only [this,if_neg hij]
theorem Ziy {h:Hp}{k j:Nat}:(h.bump k).m (h.n+j)=none:=h.wf _ (by omega)

/-! Results that are one alone. -/
theorem ZgS {f:Nat}{args:List V}{h:Hp}{k k':Nat}{r r':V×Hp}(h1:Zaw N k f args h=some r) (h2:Zaw N k' f args h=some r'):r=r':=by
 have a:=Zbf N (Nat.le_max_left k k') _ _ _ _ h1;have b:=Zbf N (Nat.le_max_right k k') _ _ _ _ h2;rw [a] at b;exact Option.some.inj b

def Is (N:Prog) (f:Nat) (args:List V) (h:Hp) (v:V) (h':Hp):Prop:=∀ Q,WC N f args h Q↔Q v h'
theorem Is.of {f:Nat}{args:List V}{h:Hp}{v:V}{h':Hp}(hw:WC N f args h fun u k=>u=v∧k=h'):Is N f args h v h':=by
 intro Q;obtain ⟨k,u,k',he,rfl,rfl⟩:=hw;constructor
 ·rintro ⟨k2,u2,h2,he2,q⟩;have:=ZgS he he2;cases this;exact q
 ·exact fun q=>⟨k,_,_,he,q⟩
theorem Is.to {f:Nat}{args:List V}{h:Hp}{v:V}{h':Hp}(hi:Is N f args h v h'):WC N f args h fun u k=>u=v∧k=h':=(hi _).2 ⟨rfl,rfl⟩

theorem WC.is {f:Nat}{args:List V}{h:Hp}{Q:V→Hp→Prop}(hw:WC N f args h Q):∃ v h',Is N f args h v h'∧Q v h':=by
 obtain ⟨k,v,h',he,q⟩:=hw;exact ⟨v,h',Is.of ⟨k,v,h',he,rfl,rfl⟩,q⟩

end rules

/-! Numbers. -/
theorem Zdm {x:Int}(h1:-9223372036854775808≤x) (h2:x≤9223372036854775807):IntKind.i64.wrap x=x:=by
 simp only [IntKind.wrap,IntKind.bits,IntKind.signed];simp;omega

/-! Operations,one by one. -/
section acts
variable {rd:Nat→Option Obj}{nr:Nat}{e:Opd→V}
def opt (o:Option V):Option (V×List (Nat×Obj)):=match o with|some v=>some (v,[])|none=>none
@[simp] theorem ZlV {v:V}:opt (some v)=some (v,[]):=rfl
@[simp] theorem ZlU:opt none=none:=rfl
def ZlW (c a b:V):Option V:=match c with|.b x=>some (if x then a else b)|_=>none
@[simp] theorem Zmm {x:Bool}{a b:V}:ZlW (.b x) a b=some (if x then a else b):=rfl
def ZgV (x:V):Option V:=match x.len with|some n=>some (.n n)|none=>none
def Zj7 (sz:Nat) (x i:V):Option V:=match x with
  | .sl es r o n _ _=>if es=sz then (match idx i n with|some j=>some (.p r (o+j*sz))|none=>none) else none
  | _=>none
def ldV (rd:Nat→Option Obj) (agg:Bool) (sz:Nat) (a:V):Option V:=match a with
  | .p r o=>match rd r with
   | some (.cells _ cs)=>ZaY agg cs o sz
   | _=>none
  | _=>none
def eqV (neg:Bool) (k:Eq) (x y:V):Option V:=match eqv k x y with|some t=>some (.b (if neg then !t else t))|none=>none
def Zi1 (k:IntKind) (x:V):Option V:=match x with|.i _ n=>some (.i k (k.wrap n))|_=>none
@[simp] theorem Zj3 {k k':IntKind}{n:Int}:Zi1 k (.i k' n)=some (.i k (k.wrap n)):=rfl
def Zms (x:V) (k:Nat):Option V:=match x with|.tu vs=>vs[k]? | _=>none
@[simp] theorem Zmk {vs:List V}{k:Nat}:Zms (.tu vs) k=vs[k]?:=rfl
theorem Zjl {x:Opd}:act rd nr e (.box x)=some (.p nr 0,[(nr,.cells true (e x).cells)]):=rfl
theorem ZbT {op:BinOp}{x y:Opd}:act rd nr e (.bin op x y)=opt (bin op (e x) (e y)):=rfl
theorem Zir {op:UnOp}{x:Opd}:act rd nr e (.un op x)=opt (unary op (e x)):=rfl
theorem Zim {k:IntKind}{x:Opd}:act rd nr e (.conv k x)=opt (Zi1 k (e x)):=by
 simp only [act,Zi1,opt];cases e x<;>rfl
theorem Zf2 {neg:Bool}{k:Eq}{x y:Opd}:act rd nr e (.eq neg k x y)=opt (eqV neg k (e x) (e y)):=by
 simp only [act,eqV,opt];cases eqv k (e x) (e y)<;>rfl
theorem Zjm {sz:Nat}{x i:Opd}:act rd nr e (.ixa sz x i)=opt (Zj7 sz (e x) (e i)):=by
 simp only [act,Zj7,opt];cases e x<;>try rfl
 rename_i es r o n c ex;by_cases hes:es=sz
 ·simp only [if_pos hes];cases idx (e i) n<;>rfl
 ·simp only [if_neg hes]
theorem Zf3 {agg:Bool}{sz:Nat}{a:Opd}:act rd nr e (.ld agg sz a)=opt (ldV rd agg sz (e a)):=by
 simp only [act,ldV,opt];cases e a<;>try rfl
 rename_i r o
 cases hr:rd r with
 | none=>simp only [hr]
 | some ob =>
  cases ob with
  | cells w cs =>
   simp only [hr];cases ZaY agg cs o sz<;>rfl
  | dead=>simp only [hr]
  | mp es=>simp only [hr]
theorem Zjn {x:Opd}:act rd nr e (.len x)=opt (ZgV (e x)):=by
 simp only [act,ZgV,opt];cases (e x).len<;>rfl
end acts

theorem Zjw {x y:Int}(h1:-9223372036854775808≤x+y) (h2:x+y≤9223372036854775807):bin .add (.i .i64 x) (.i .i64 y)=some (.i .i64 (x+y)):=by
 simp [bin,ZcD,Zdm h1 h2]
theorem Zj0 {k:IntKind}{x y:Int}:bin .lss (.i k x) (.i k y)=some (.b (decide (x<y))):=by simp [bin,ZcD]
theorem Zjz {k:IntKind}{x y:Int}:bin .leq (.i k x) (.i k y)=some (.b (decide (x≤y))):=by simp [bin,ZcD]
theorem Zjy {k:IntKind}{x y:Int}:bin .gtr (.i k x) (.i k y)=some (.b (decide (y<x))):=by simp [bin,ZcD]
theorem Zjx {k:IntKind}{x y:Int}:bin .geq (.i k x) (.i k y)=some (.b (decide (y≤x))):=by simp [bin,ZcD]
theorem Zi8 {neg:Bool}{k:IntKind}{x y:Int}:eqV neg .sc (.i k x) (.i k y)=some (.b (if neg then !(x == y) else x == y)):=by simp [eqV,eqv]
theorem ZkH {neg:Bool}{x y:Bool}:eqV neg .bl (.b x) (.b y)=some (.b (if neg then !(x == y) else x == y)):=by simp [eqV,eqv]
theorem Zlj {x:Int}(h1:-9223372036854775807≤x) (h2:x≤9223372036854775808):unary .neg (.i .i64 x)=some (.i .i64 (-x)):=by
 simp only [unary];rw [Zdm (by omega) (by omega)];simp

end Mu
