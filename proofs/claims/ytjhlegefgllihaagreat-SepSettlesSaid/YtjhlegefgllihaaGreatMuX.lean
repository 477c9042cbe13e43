/- Symbolic runs: the rules that simp Zgx by. -/
import Derived.Test.YtjhlegefgllihaaGreatMuW
namespace Mu
open Go (IntKind BinOp UnOp)
variable {N:Prog}
section rules
variable {Q:Ex->Fr->Hp->Prop}{fr:Fr}{h:Hp}

def WB(v:V)(a b:Prop):Prop:=match v with|.b t=>if t=true then a else b|_=>False
@[simp] theorem ZrX{t:Bool}{a b:Prop}:WB (.b t) a b=if t=true then a else b:=rfl

@[simp] theorem ZtX{c:Opd}{a b:Code}:W N (.cond c a b) Q fr h↔WB (fr.ev c) (W N a Q fr h) (W N b Q fr h):=by
 cases hc:fr.ev c with
 |b t=>rw[Zks hc];rfl
 |_=>exact⟨λ⟨k,e,fr',h',he,q⟩=>by simp[Zai,hc]at he,λq=>q.elim⟩

def WS(N:Prog)(d:Option Nat)(op:Op)(l:List Oper)(Q:Fr->Hp->Prop)(fr:Fr)(h:Hp):Prop :=
 match op with
 |.call f args=>(match fr.ev f with|.f id caps=>WC N (fid id) (ZdD id (args.map fr.ev) caps) h λv h'=>WO N l Q (fr.put d v) h'|_=>False)
 |op=>WA (act h.m h.n fr.ev op) λv up=>WO N l Q (fr.put d v) (h.puts up)

theorem ZkZ{Q:Fr->Hp->Prop}{d:Option Nat}{op:Op}{l:List Oper}:WO N (⟨d,op,none⟩::l) Q fr h↔WS N d op l Q fr h:=by
 cases op
 case call f args=>
  cases hf:fr.ev f with
  |f id caps=>
   rw[Zi8 hf];simp only[WS,hf]
  |_=>
   simp only[WS,hf,iff_false];rintro⟨k,fr',h',he,q⟩;simp[ZaS,Zav,Zb5,hf]at he
 all_goals exact Zms (by intro f args hh;cases hh)

@[simp] theorem ZtW{Q:Fr->Hp->Prop}{d:Option Nat}{op:Op}{l:List Oper}:WO N (⟨d,op,none⟩::l) Q fr h↔WS N d op l Q fr h:=ZkZ

@[simp] theorem ZnV{Q:Fr->Hp->Prop}{d:Option Nat}{op:Op}{j:Nat}{w:Bool}{l:List Oper} :
  WO N (⟨d,op,some (j,w)⟩::l) Q fr h↔if Zb5 (some (j,w)) fr=true then WS N d op l Q fr h else WO N l Q (fr.put d .un) h:=by
 rw[<-ZkZ]
 cases hb:Zb5 (some (j,w)) fr with
 | true=>
  have:∀k,Zav (Zbl N k) h.n ⟨d,op,some (j,w)⟩ fr h=Zav (Zbl N k) h.n ⟨d,op,none⟩ fr h:=by
   intro k;have h2:Zb5 none fr=true:=rfl;unfold Zav;simp only[hb,h2]
  unfold WO;simp only[ZaS,this,if_true]
 | false=>
  have:∀k,Zav (Zbl N k) h.n ⟨d,op,some (j,w)⟩ fr h=some (.un,h,.no):=by
   intro k;unfold Zav;simp[hb]
  unfold WO;simp[ZaS,this]

@[simp] theorem ZrE{fr:Fr}:Zb5 none fr=true:=rfl
def V.is(v:V)(w:Bool):Bool:=match v with|.b x=>x==w|_=>false
@[simp] theorem V.is_b{x w:Bool}:V.is (.b x) w=(x==w):=rfl
@[simp] theorem V.is_un{w:Bool}:V.is .un w=false:=rfl
@[simp] theorem Zgp{fr:Fr}{j:Nat}{w:Bool}:Zb5 (some (j,w)) fr=V.is (fr j) w:=rfl

@[simp] theorem Fr.put_some{fr:Fr}{d:Nat}{v:V}:fr.put (some d) v=fr.set d v:=rfl
@[simp] theorem Fr.put_none{fr:Fr}{v:V}:fr.put none v=fr:=rfl
@[simp] theorem Fr.set_at{fr:Fr}{d t:Nat}{v:V}:fr.set d v t=if t=d then v else fr t:=rfl
@[simp] theorem Fr.ev_t{fr:Fr}{n:Nat}:fr.ev (.t n)=fr n:=rfl
@[simp] theorem Fr.ev_c{fr:Fr}{v:V}:fr.ev (.c v)=v:=rfl
@[simp] theorem Fr.start_at{args:List V}{t:Nat}:Fr.start args t=(args[t]?).getD .un:=rfl
@[simp] theorem Hp.puts_nil{h:Hp}:h.puts []=h:=rfl
@[simp] theorem Hp.puts_cons{h:Hp}{r:Nat}{o:Obj}{l:List (Nat×Obj)}:h.puts ((r,o)::l)=(h.put r o).puts l:=rfl
@[simp] theorem Hp.put_at{h:Hp}{r q:Nat}{o:Obj}:(h.put r o).m q=if q=r then some o else h.m q:=rfl
@[simp] theorem Hp.put_n{h:Hp}{r:Nat}{o:Obj}:(h.put r o).n=max h.n (r+1):=rfl
@[simp] theorem Hp.bump_m{h:Hp}{k:Nat}:(h.bump k).m=h.m:=rfl
@[simp] theorem Hp.bump_n{h:Hp}{k:Nat}:(h.bump k).n=h.n+k:=rfl

/-! Where simp Zgx,and where not. -/
def Zhy{α:Type}(x:α):α:=x
@[simp] theorem Zcb{α:Type}{x:α}:Zhy x=x:=id rfl
@[congr] theorem ZrW{o o':Option (V×List (Nat×Obj))}{K:V->List (Nat×Obj)->Prop}(ho:Zhy o=o'):WA o K=WA o' K:=by rw[<-ho];rfl
@[congr] theorem ZrY{v v':V}{a b:Prop}(hv:Zhy v=v'):WB v a b=WB v' a b:=by rw[<-hv];rfl
@[congr] theorem ZrZ{N:Prog}{f:Nat}{args args':List V}{h h':Hp}{Q:V->Hp->Prop}(ha:args=args')(hh:Zhy h=h'):WC N f args h Q=WC N f args' h' Q:=by rw[ha,<-hh];rfl
@[congr] theorem ZtY{N:Prog}{c c':Code}{Q:Ex->Fr->Hp->Prop}{fr:Fr}{h h':Hp}(hc:c=c')(hh:Zhy h=h'):W N c Q fr h=W N c' Q fr h':=by rw[hc,<-hh];rfl
@[congr] theorem Zsn{N:Prog}{c c':List Oper}{Q:Fr->Hp->Prop}{fr:Fr}{h h':Hp}(hc:c=c')(hh:Zhy h=h'):WO N c Q fr h=WO N c' Q fr h':=by rw[hc,<-hh];rfl
@[congr] theorem Zst{N:Prog}{d:Option Nat}{o:Op}{l:List Oper}{Q:Fr->Hp->Prop}{fr:Fr}{h h':Hp}(hh:Zhy h=h'):WS N d o l Q fr h=WS N d o l Q fr h':=by rw[<-hh];rfl

/-! Where an order is Zep. -/
def ZjU(i:Nat):List Oper->List (Nat×Oper)
 |[]=>[]
 |o::l=>(i,o)::ZjU (i+1) l
theorem Zlw:∀(ops:List Oper)(i n:Nat),ops.length=n->(List.range' i n).zip ops=ZjU i ops
 |[],i,n,h=>by subst h;rfl
 |o::l,i,n,h=>by
  subst h;simp only[List.length_cons,List.range'_succ,List.zip_cons_cons,ZjU];rw[Zlw l (i+1) _ rfl]
theorem Zi9{N:Prog}{Q:Ex->Fr->Hp->Prop}{fr:Fr}{h:Hp}{ops:List Oper}{prs:List (Nat×Nat)}:W N (.draw ops prs) Q fr h↔WD N h.n (ZjU 0 ops) (λfr' h' ts=>(∀q∈prs,(Zf2 ts q.1).apart (Zf2 ts q.2))/\Q .normal fr' h') fr (h.bump ops.length):=by
 rw[Zqa,List.range_eq_range',Zlw ops 0 _ rfl]

def WDS(N:Prog)(base j:Nat)(d:Option Nat)(op:Op)(l:List (Nat×Oper))(Q:Fr->Hp->List (Nat×Tr)->Prop)(fr:Fr)(h:Hp):Prop :=
 match op with
 |.call f args=>(match fr.ev f with|.f id caps=>WC N (fid id) (ZdD id (args.map fr.ev) caps) h λv h'=>WD N base l (λfr' h'' ts=>Q fr' h'' ((j,.call λr=>h'.m r≠h.m r)::ts)) (fr.put d v) h'|_=>False)
 |op=>WA (act h.m (base+j) fr.ev op) λv up=>WD N base l (λfr' h' ts=>Q fr' h' ((j,.op op.looks up.isEmpty (ZaZ fr.ev op) (base+j))::ts)) (fr.put d v) (h.puts up)

theorem ZkX{N:Prog}{fr:Fr}{h:Hp}{base j:Nat}{Q:Fr->Hp->List (Nat×Tr)->Prop}{d:Option Nat}{op:Op}{l:List (Nat×Oper)} :
  WD N base ((j,⟨d,op,none⟩)::l) Q fr h↔WDS N base j d op l Q fr h:=by
 cases op
 case call f args=>
  cases hf:fr.ev f with
  |f id caps=>
   rw[Zi7 hf];simp only[WDS,hf]
  |_=>
   simp only[WDS,hf,iff_false];rintro⟨k,fr',h',ts,he,q⟩;simp[zB,Zav,Zb5,hf]at he
 all_goals exact Zkp (by intro f args hh;cases hh)

theorem ZkY{N:Prog}{fr:Fr}{h:Hp}{base i:Nat}{Q:Fr->Hp->List (Nat×Tr)->Prop}{d:Option Nat}{op:Op}{j:Nat}{w:Bool}{l:List (Nat×Oper)} :
  WD N base ((i,⟨d,op,some (j,w)⟩)::l) Q fr h↔if Zb5 (some (j,w)) fr=true then WDS N base i d op l Q fr h else WD N base l (λfr' h' ts=>Q fr' h' ((i,.no)::ts)) (fr.put d .un) h:=by
 rw[<-ZkX]
 cases hb:Zb5 (some (j,w)) fr with
 | true=>
  have:∀k,Zav (Zbl N k) (base+i) ⟨d,op,some (j,w)⟩ fr h=Zav (Zbl N k) (base+i) ⟨d,op,none⟩ fr h:=by
   intro k;have h2:Zb5 none fr=true:=rfl;unfold Zav;simp only[hb,h2]
  unfold WD;simp only[zB,this,if_true]
 | false=>
  have hst:∀k,Zav (Zbl N k) (base+i) ⟨d,op,some (j,w)⟩ fr h=some (.un,h,.no):=by
   intro k;unfold Zav;simp[hb]
  simp only[Bool.false_eq_true,if_false];constructor
  .rintro⟨k,fr',h',ts,he,q⟩;simp only[zB,hst]at he;split at he
   .rename_i hr;simp only[Option.some.injEq,Prod.mk.injEq]at he;obtain⟨rfl,rfl,rfl⟩:=he;exact⟨k,_,_,_,hr,q⟩
   .cases he
  .rintro⟨k,fr',h',ts,he,q⟩;refine⟨k,fr',h',_,?_,q⟩;simp only[zB,hst,he]
@[congr] theorem Zsb{N:Prog}{base:Nat}{c c':List (Nat×Oper)}{Q:Fr->Hp->List (Nat×Tr)->Prop}{fr:Fr}{h h':Hp}(hc:c=c')(hh:Zhy h=h'):WD N base c Q fr h=WD N base c' Q fr h':=by rw[hc,<-hh];rfl
@[congr] theorem ZrR{N:Prog}{base j:Nat}{d:Option Nat}{o:Op}{l:List (Nat×Oper)}{Q:Fr->Hp->List (Nat×Tr)->Prop}{fr:Fr}{h h':Hp}(hh:Zhy h=h'):WDS N base j d o l Q fr h=WDS N base j d o l Q fr h':=by rw[<-hh];rfl
theorem Zi3{i j:Nat}{t:Tr}{l:List (Nat×Tr)}:Zf2 ((j,t)::l) i=if i=j then t else Zf2 l i:=by
 unfold Zf2;rw[List.lookup_cons];by_cases hij:i=j
 .simp[hij]
 .have:(i==j)=false:=by simp[hij]
  simp only[this,if_neg hij]
theorem ZmE{h:Hp}{k j:Nat}:(h.bump k).m (h.n+j)=none:=h.wf _ (by omega)

/-! Results that are one alone. -/
theorem Zkv{f:Nat}{args:List V}{h:Hp}{k k':Nat}{r r':V×Hp}(h1:Zbl N k f args h=some r)(h2:Zbl N k' f args h=some r'):r=r':=by
 have a:=Zcs N (Nat.le_max_left k k') _ _ _ _ h1;have b:=Zcs N (Nat.le_max_right k k') _ _ _ _ h2;rw[a]at b;exact Option.some.inj b

def Is(N:Prog)(f:Nat)(args:List V)(h:Hp)(v:V)(h':Hp):Prop:=∀Q,WC N f args h Q↔Q v h'
theorem Is.of{f:Nat}{args:List V}{h:Hp}{v:V}{h':Hp}(hw:WC N f args h λu k=>u=v/\k=h'):Is N f args h v h':=by
 intro Q;obtain⟨k,u,k',he,rfl,rfl⟩:=hw;constructor
 .rintro⟨k2,u2,h2,he2,q⟩;have:=Zkv he he2;cases this;exact q
 .exact λq=>⟨k,_,_,he,q⟩
theorem Is.to{f:Nat}{args:List V}{h:Hp}{v:V}{h':Hp}(hi:Is N f args h v h'):WC N f args h λu k=>u=v/\k=h':=(hi _).2 ⟨rfl,rfl⟩

theorem WC.is{f:Nat}{args:List V}{h:Hp}{Q:V->Hp->Prop}(hw:WC N f args h Q):∃v h',Is N f args h v h'/\Q v h':=by
 obtain⟨k,v,h',he,q⟩:=hw;exact⟨v,h',Is.of ⟨k,v,h',he,rfl,rfl⟩,q⟩

end rules

/-! Numbers. -/
theorem Zg8{x:Int}(h1:-9223372036854775808<=x)(h2:x<=9223372036854775807):IntKind.i64.wrap x=x:=by
 simp only[IntKind.wrap,IntKind.bits,IntKind.signed];simp;omega

/-! Operations,one by one. -/
section acts
variable {rd:Nat->Option Obj}{nr:Nat}{e:Opd->V}
def opt(o:Option V):Option (V×List (Nat×Obj)):=match o with|some v=>some (v,[])|none=>none
@[simp] theorem Ztp{v:V}:opt (some v)=some (v,[]):=rfl
@[simp] theorem Zto:opt none=none:=rfl
def Ztr(c a b:V):Option V:=match c with|.b x=>some (if x then a else b)|_=>none
@[simp] theorem Zuc{x:Bool}{a b:V}:Ztr (.b x) a b=some (if x then a else b):=rfl
def Zk6(x:V):Option V:=match x.len with|some n=>some (.n n)|none=>none
def Zo6(sz:Nat)(x i:V):Option V:=match x with
  |.sl es r o n _ _=>if es=sz then(match idx i n with|some j=>some (.p r (o+j*sz))|none=>none)else none
  |_=>none
def ldV(rd:Nat->Option Obj)(agg:Bool)(sz:Nat)(a:V):Option V:=match a with
  |.p r o=>match rd r with
   |some (.cells _ cs)=>ZbG agg cs o sz
   |_=>none
  |_=>none
def eqV(neg:Bool)(k:Eq)(x y:V):Option V:=match eqv k x y with|some t=>some (.b (if neg then !t else t))|none=>none
def ZmJ(k:IntKind)(x:V):Option V:=match x with|.i _ n=>some (.i k (k.wrap n))|_=>none
@[simp] theorem Zot{k k':IntKind}{n:Int}:ZmJ k (.i k' n)=some (.i k (k.wrap n)):=rfl
def Zu2(x:V)(k:Nat):Option V:=match x with|.tu vs=>vs[k]? |_=>none
@[simp] theorem Zua{vs:List V}{k:Nat}:Zu2 (.tu vs) k=vs[k]?:=rfl
theorem Zoa{x:Opd}:act rd nr e (.box x)=some (.p nr 0,[(nr,.cells true (e x).cells)]):=rfl
theorem ZcY{op:BinOp}{x y:Opd}:act rd nr e (.bin op x y)=opt (bin op (e x) (e y)):=rfl
theorem Zm8{op:UnOp}{x:Opd}:act rd nr e (.un op x)=opt (unary op (e x)):=rfl
theorem Zm3{k:IntKind}{x:Opd}:act rd nr e (.conv k x)=opt (ZmJ k (e x)):=by
 simp only[act,ZmJ,opt];cases e x<;>rfl
theorem Zdy{neg:Bool}{k:Eq}{x y:Opd}:act rd nr e (.eq neg k x y)=opt (eqV neg k (e x) (e y)):=by
 simp only[act,eqV,opt];cases eqv k (e x) (e y)<;>rfl
theorem Zob{sz:Nat}{x i:Opd}:act rd nr e (.ixa sz x i)=opt (Zo6 sz (e x) (e i)):=by
 simp only[act,Zo6,opt];cases e x<;>try rfl
 rename_i es r o n c ex;by_cases hes:es=sz
 .simp only[if_pos hes];cases idx (e i) n<;>rfl
 .simp only[if_neg hes]
theorem Zhl{agg:Bool}{sz:Nat}{a:Opd}:act rd nr e (.ld agg sz a)=opt (ldV rd agg sz (e a)):=by
 simp only[act,ldV,opt];cases e a<;>try rfl
 rename_i r o
 cases hr:rd r with
 |none=>simp only[hr]
 | some ob=>
  cases ob with
  |cells w cs=>
   simp only[hr];cases ZbG agg cs o sz<;>rfl
  |dead=>simp only[hr]
  |mp es=>simp only[hr]
theorem Zoc{x:Opd}:act rd nr e (.len x)=opt (Zk6 (e x)):=by
 simp only[act,Zk6,opt];cases(e x).len<;>rfl
end acts

theorem Zoh{x y:Int}(h1:-9223372036854775808<=x+y)(h2:x+y<=9223372036854775807):bin .add (.i .i64 x) (.i .i64 y)=some (.i .i64 (x+y)):=by
 simp[bin,ZdW,Zg8 h1 h2]
theorem Zon{x y:Int}(h1:-9223372036854775808<=x-y)(h2:x-y<=9223372036854775807):bin .sub (.i .i64 x) (.i .i64 y)=some (.i .i64 (x-y)):=by
 simp[bin,ZdW,Zg8 h1 h2]
theorem Zom{x y:Int}(h1:-9223372036854775808<=x*y)(h2:x*y<=9223372036854775807):bin .mul (.i .i64 x) (.i .i64 y)=some (.i .i64 (x*y)):=by
 simp[bin,ZdW,Zg8 h1 h2]
theorem Zol{k:IntKind}{x y:Int}:bin .lss (.i k x) (.i k y)=some (.b (decide (x<y))):=by simp[bin,ZdW]
theorem Zok{k:IntKind}{x y:Int}:bin .leq (.i k x) (.i k y)=some (.b (decide (x<=y))):=by simp[bin,ZdW]
theorem Zoj{k:IntKind}{x y:Int}:bin .gtr (.i k x) (.i k y)=some (.b (decide (y<x))):=by simp[bin,ZdW]
theorem Zoi{k:IntKind}{x y:Int}:bin .geq (.i k x) (.i k y)=some (.b (decide (y<=x))):=by simp[bin,ZdW]
theorem ZmR{neg:Bool}{k:IntKind}{x y:Int}:eqV neg .sc (.i k x) (.i k y)=some (.b (if neg then !(x==y)else x==y)):=by simp[eqV,eqv]
theorem ZmQ{neg:Bool}{x y:Bool}:eqV neg .bl (.b x) (.b y)=some (.b (if neg then !(x==y)else x==y)):=by simp[eqV,eqv]
theorem ZrD{x:Int}(h1:-9223372036854775807<=x)(h2:x<=9223372036854775808):unary .neg (.i .i64 x)=some (.i .i64 (-x)):=by
 simp only[unary];rw[Zg8 (by omega) (by omega)];simp

end Mu
