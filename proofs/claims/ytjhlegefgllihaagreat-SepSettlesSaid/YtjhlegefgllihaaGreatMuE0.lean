/- A small evaluator of the operations that the program uses, over a heap of references of its own: definitions alone. -/
import GoSem.Core.Code
import GoSem.Core.View
namespace Mu
open Go (IntKind BinOp UnOp)
open Go.IntKind (bits signed wrap)

inductive V where
 |b(x:Bool)
 |i(k:IntKind)(n:Int)
 |s(x:ByteArray)
 |p(r o:Nat)
 |pn
 |sl(es r o len cap:Nat)(ex:Bool)
 |sn
 |mp(r:Nat)
 |f(id:Nat)(caps:List V)
 |nf
 |ni
 |ag(cs:List V)
 |tu(vs:List V)
 deriving Inhabited

abbrev V.n(x:Int):V:=.i .i64 x
def V.un:V:=.tu []

inductive Obj where
 |cells(rw:Bool)(cs:List V)
 |dead
 |mp(es:List (V×V))
 deriving Inhabited

structure Hp where
 m:Nat->Option Obj
 n:Nat
 wf:∀r,n<=r->m r=none

theorem Hp.ext'{h k:Hp}(hm:h.m=k.m)(hn:h.n=k.n):h=k:=by
 cases h;cases k;simp_all

def Hp.put(h:Hp)(r:Nat)(o:Obj):Hp where
 m:=λq=>if q=r then some o else h.m q
 n:=max h.n (r+1)
 wf:=λq hq=>by
  have:q≠r:=by omega
  simp only[this,if_false];exact h.wf q (by omega)

def Hp.puts(h:Hp):List (Nat×Obj)->Hp
 |[]=>h
 |(r,o)::l=>(h.put r o).puts l

def Hp.bump(h:Hp)(k:Nat):Hp where
 m:=h.m
 n:=h.n+k
 wf:=λq hq=>h.wf q (by omega)

abbrev Fr:=Nat->V
def Fr.set(fr:Fr)(d:Nat)(v:V):Fr:=λt=>if t=d then v else fr t
def Fr.put(fr:Fr)(d:Option Nat)(v:V):Fr:=match d with|some d=>fr.set d v|none=>fr

inductive Opd where
 |t(n:Nat)
 |c(v:V)

def Fr.ev(fr:Fr):Opd->V
 |.t n=>fr n
 |.c v=>v

inductive FK where
 |i|b|s
 deriving DecidableEq
inductive Eq where
 |sc|bl|pt|sl|fn|ni
 |fl(ks:List FK)
 deriving DecidableEq

inductive Op where
 |mv(x:Opd)
 |pick(c a b:Opd)
 |alloc(zero:List V)
 |box(x:Opd)
 |build(zero:List V)(parts:List (Nat×Nat×Opd))
 |bsl(sz len:Nat)(zero:List V)(parts:List (Nat×Nat×Opd))
 |ld(agg:Bool)(sz:Nat)(a:Opd)
 |st(sz:Nat)(a x:Opd)
 |nilck(x:Opd)
 |bin(op:BinOp)(x y:Opd)
 |eq(neg:Bool)(k:Eq)(x y:Opd)
 |un(op:UnOp)(x:Opd)
 |conv(k:IntKind)(x:Opd)
 |clo(id:Nat)(caps:List Opd)
 |mks(sz bytes:Nat)(zero:List V)(l c:Opd)
 |slc(sz:Nat)(x:Opd)(lo hi mx:Option Opd)
 |slca(sz n:Nat)(x:Opd)(lo hi mx:Option Opd)
 |fa(off:Nat)(x:Opd)
 |fld(agg:Bool)(off sz:Nat)(x:Opd)
 |ixa(sz:Nat)(x i:Opd)
 |ixaa(sz n:Nat)(x i:Opd)
 |ix(agg:Bool)(sz n:Nat)(x i:Opd)
 |ixs(x i:Opd)
 |ext(x:Opd)(k:Nat)
 |len(x:Opd)
 |slen(x:Opd)
 |capn(x:Opd)
 |growz(sz bytes:Nat)(zero:List V)(x y:Opd)
 |cst(v:V)
 |app(sz bytes:Nat)(x y:Opd)
 |cpy(sz:Nat)(x y:Opd)
 |clr(zero:List V)(x:Opd)
 |mx(xs:List Opd)
 |mn(xs:List Opd)
 |mkm
 |mlk(ks:List FK)(ok:Bool)(zero:V)(m k:Opd)
 |mup(ks:List FK)(m k v:Opd)
 |mlen(x:Opd)
 |call(f:Opd)(args:List Opd)
 |bad

def V.cells:V->List V
 |.ag cs=>cs
 |v=>[v]

def V.one:V->Bool
 |.ag _=>false
 |.tu _=>false
 |_=>true

def V.int:V->Option (IntKind×Int)
 |.i k n=>some (k,n)
 |_=>none
def V.bool:V->Option Bool
 |.b x=>some x
 |_=>none
def V.len:V->Option Nat
 |.sl _ _ _ n _ _=>some n
 |.sn=>some 0
 |_=>none
def piece(cs:List V)(o n:Nat):List V:=(cs.drop o).take n
def over(cs:List V)(o:Nat)(vs:List V):List V:=cs.take o++vs++cs.drop (o+vs.length)

def fill(cs:List V):List (Nat×Nat×V)->Option (List V)
 |[]=>some cs
 |(o,sz,v)::l=>if v.cells.length=sz/\o+sz<=cs.length then fill (over cs o v.cells) l else none

def evs(e:Opd->V):List (Nat×Nat×Opd)->List (Nat×Nat×V):=List.map λ(o,sz,x)=>(o,sz,e x)

def V.same:FK->V->V->Option Bool
 |.i,.i k x,.i k' y=>if k=k' then some (x==y)else none
 |.b,.b x,.b y=>some (x==y)
 |.s,.s x,.s y=>some (x.toList==y.toList)
 |_,_,_=>none

def zZ:List FK->List V->List V->Option Bool
 |[],[],[]=>some true
 |k::ks,x::xs,y::ys=>match V.same k x y with
  |some true=>zZ ks xs ys
  |some false=>match zZ ks xs ys with|some _=>some false|none=>none
  |none=>none
 |_,_,_=>none

def eqv:Eq->V->V->Option Bool
 |.sc,.i k a,.i k' b=>if k=k' then some (a==b)else none
 |.sc,.s a,.s b=>some (a.toList==b.toList)
 |.bl,.b a,.b b=>some (a==b)
 |.pt,.pn,.pn=>some true
 |.pt,.pn,.p _ _=>some false
 |.pt,.p _ _,.pn=>some false
 |.sl,.sn,.sn=>some true
 |.sl,.sn,.sl ..=>some false
 |.sl,.sl ..,.sn=>some false
 |.fn,.nf,.nf=>some true
 |.fn,.nf,.f _ _=>some false
 |.fn,.f _ _,.nf=>some false
 |.ni,.ni,.ni=>some true
 |.fl ks,.ag xs,.ag ys=>zZ ks xs ys
 |_,_,_=>none

def ZdW(op:BinOp)(k:IntKind)(x y:Int):Option V :=
 match op with
 |.add=>some (.i k (k.wrap (x+y)))
 |.sub=>some (.i k (k.wrap (x-y)))
 |.mul=>some (.i k (k.wrap (x*y)))
 |.quo=>if y=0 then none else some (.i k (k.wrap (x.tdiv y)))
 |.rem=>if y=0 then none else some (.i k (x.tmod y))
 |.and=>some (.i k (k.wrap ((BitVec.ofInt k.bits x&&&BitVec.ofInt k.bits y).toNat:Nat)))
 |.or=>some (.i k (k.wrap ((BitVec.ofInt k.bits x ||| BitVec.ofInt k.bits y).toNat:Nat)))
 |.xor=>some (.i k (k.wrap ((BitVec.ofInt k.bits x^^^BitVec.ofInt k.bits y).toNat:Nat)))
 |.andNot=>some (.i k (k.wrap ((BitVec.ofInt k.bits x&&& ~~~ BitVec.ofInt k.bits y).toNat:Nat)))
 |.lss=>some (.b (decide (x<y)))
 |.leq=>some (.b (decide (x<=y)))
 |.gtr=>some (.b (decide (x > y)))
 |.geq=>some (.b (decide (x≥y)))
 |_=>none

def shift(op:BinOp)(k:IntKind)(x y:Int):Option V :=
 if y<0 then none else
 match op with
 |.shl=>some (.i k (k.wrap (x*2^(min y.toNat k.bits))))
 |.shr=>some (.i k (x.fdiv (2^(min y.toNat k.bits))))
 |_=>none

def bin(op:BinOp)(x y:V):Option V :=
 match x,y with
 |.i k a,.i k' b=>if op=.shl\/op=.shr then shift op k a b else if k=k' then ZdW op k a b else none
 |.s a,.s b=>if op=.add/\a.size+b.size<=1000000000000 then some (.s (a++b))else none
 |_,_=>none

def unary(op:UnOp)(x:V):Option V :=
 match op,x with
 |.neg,.i k n=>some (.i k (k.wrap (0-n)))
 |.not,.b x=>some (.b !x)
 |.xor,.i k n=>ZdW .xor k (if k.signed then -1 else k.max) n
 |_,_=>none

def idx(v:V)(n:Nat):Option Nat:=match v with|.i _ x=>if 0<=x/\x<(n:Int)then some x.toNat else none|_=>none
def ZcM(e:Opd->V)(x:Option Opd)(d n:Nat):Option Nat :=
 match x with
 |none=>some d
 |some x=>match e x with|.i _ x=>if 0<=x/\x<=(n:Int)then some x.toNat else none|_=>none

def V.ints(e:Opd->V):List Opd->Option (IntKind×List Int)
 |[]=>none
 |[x]=>match e x with|.i k n=>some (k,[n])|_=>none
 |x::l=>match e x,V.ints e l with|.i k n,some (k',ns)=>if k=k' then some (k,n::ns)else none|_,_=>none

def ZbG(agg:Bool)(cs:List V)(o sz:Nat):Option V :=
 if o+sz<=cs.length then(if agg then some (.ag (piece cs o sz))else cs[o]?)else none

def lookup(ks:List FK)(k:V):List (V×V)->Option (Option V)
 |[]=>match eqv (.fl ks) k k with|some _=>some none|none=>none
 |(q,v)::l=>match eqv (.fl ks) k q with
  |some true=>some (some v)
  |some false=>lookup ks k l
  |none=>none

def ZdL(ks:List FK)(k v:V):List (V×V)->Option (List (V×V))
 |[]=>match eqv (.fl ks) k k with|some _=>some [(k,v)]|none=>none
 |(q,u)::l=>match eqv (.fl ks) k q with
  |some true=>some ((k,v)::l)
  |some false=>match ZdL ks k v l with|some r=>some ((q,u)::r)|none=>none
  |none=>none

def act(rd:Nat->Option Obj)(nr:Nat)(e:Opd->V):Op->Option (V×List (Nat×Obj))
 |.mv x=>some (e x,[])
 |.cst v=>some (v,[])
 |.pick c a b=>match e c with|.b x=>some (if x then e a else e b,[])|_=>none
 |.alloc zero=>some (.p nr 0,[(nr,.cells true zero)])
 |.box x=>some (.p nr 0,[(nr,.cells true (e x).cells)])
 |.build zero ps=>match fill zero (evs e ps)with|some cs=>some (.ag cs,[])|none=>none
 |.bsl sz len zero ps=>match fill ((List.replicate len zero).flatten) (evs e ps)with
  |some cs=>some (.sl sz nr 0 len len true,[(nr,.cells true cs)])
  |none=>none
 | .ld agg sz a=>match e a with
  |.p r o=>match rd r with
   |some (.cells _ cs)=>match ZbG agg cs o sz with|some v=>some (v,[])|none=>none
   |_=>none
  |_=>none
 | .st sz a x=>match e a with
  |.p r o=>match rd r with
   |some (.cells true cs)=>if(e x).cells.length=sz/\o+sz<=cs.length/\(e x).cells.all V.one then some (.un,[(r,.cells true (over cs o (e x).cells))])else none
   |_=>none
  |_=>none
 |.nilck x=>match e x with
  |.p r o=>some (.p r o,[])
  |.f id caps=>some (.f id caps,[])
  |_=>none
 |.bin op x y=>match bin op (e x) (e y)with|some v=>some (v,[])|none=>none
 |.eq neg k x y=>match eqv k (e x) (e y)with|some t=>some (.b (if neg then !t else t),[])|none=>none
 |.un op x=>match unary op (e x)with|some v=>some (v,[])|none=>none
 |.conv k x=>match e x with|.i _ n=>some (.i k (k.wrap n),[])|_=>none
 |.clo id caps=>some (.f id (caps.map e),[])
 |.mks sz bytes zero l c=>match e l,e c with
  | .i _ l,.i _ c=>if 0<=l/\l<=c/\(bytes:Int)*c<=140737488355328 then
    some (.sl sz nr 0 l.toNat c.toNat true,[(nr,.cells true (List.replicate c.toNat zero).flatten)])else none
  |_,_=>none
 | .slc sz x lo hi mx=>match e x with
  | .sn=>match ZcM e mx 0 0 with
   |some m=>match ZcM e hi 0 m with
    |some h=>match ZcM e lo 0 h with|some _=>some (.sn,[])|none=>none
    |none=>none
   |none=>none
  | .sl es r o n c ex=>if es=sz then(match ZcM e mx c c with
   | some m=>match ZcM e hi n m with
    |some h=>match ZcM e lo 0 h with
     |some l=>some (.sl es r (if m=l/\(ex=true\/mx.isSome)then o else o+l*sz) (h-l) (m-l) (ex||mx.isSome),[])
     |none=>none
    |none=>none
   |none=>none)else none
  |_=>none
 | .slca sz n x lo hi mx=>match e x with
  | .p r o=>match ZcM e mx n n with
   | some m=>match ZcM e hi n m with
    | some h=>match ZcM e lo 0 h with
     |some l=>match rd r with
      |some (.cells true cs)=>if o+n*sz<=cs.length then some (.sl sz r (if m=l then o else o+l*sz) (h-l) (m-l) true,[])else none
      |_=>none
     |none=>none
    |none=>none
   |none=>none
  |_=>none
 |.fa off x=>match e x with|.p r o=>some (.p r (o+off),[])|_=>none
 |.fld agg off sz x=>match e x with|.ag cs=>(match ZbG agg cs off sz with|some v=>some (v,[])|none=>none)|_=>none
 |.ixa sz x i=>match e x with
  |.sl es r o n _ _=>if es=sz then(match idx (e i) n with|some j=>some (.p r (o+j*sz),[])|none=>none)else none
  |_=>none
 |.ixaa sz n x i=>match e x with
  |.p r o=>match idx (e i) n with|some j=>some (.p r (o+j*sz),[])|none=>none
  |_=>none
 | .ix agg sz n x i=>match e x with
  |.ag cs=>match idx (e i) n with
   |some j=>match ZbG agg cs (j*sz) sz with|some v=>some (v,[])|none=>none
   |none=>none
  |_=>none
 |.ixs x i=>match e x with
  |.s t=>match idx (e i) t.size with|some j=>some (.i .u8 ((t.data[j]?.getD 0).toNat:Nat),[])|none=>none
  |_=>none
 |.ext x k=>match e x with|.tu vs=>(match vs[k]? with|some v=>some (v,[])|none=>none)|_=>none
 |.len x=>match(e x).len with|some n=>some (.n n,[])|none=>none
 |.slen x=>match e x with|.s t=>some (.n t.size,[])|_=>none
 |.capn x=>match e x with|.sn=>some (.n 0,[])|_=>none
 |.growz sz bytes zero x y=>match e x,e y with
  |.sn,.i _ n=>if 0<n/\n.toNat*bytes<=140737488355328 then some (.sl sz nr 0 n.toNat n.toNat false,[(nr,.cells true (List.replicate n.toNat zero).flatten)])else none
  |_,_=>none
 | .app sz bytes x y=>match e x with
  | .sn=>(match e y with
   |.sn=>some (.sn,[])
   |.sl es' r' o' n' _ _=>if es'=sz then(if n'=0 then some (.sn,[])else match rd r' with
    | some (.cells _ cs')=>if o'+n'*sz<=cs'.length/\n'*bytes<=140737488355328 then
      some (.sl sz nr 0 n' n' false,[(nr,.cells true (piece cs' o' (n'*sz)))])else none
    |_=>none)else none
   |_=>none)
  | .sl es r o n c ex=>if es=sz then(match e y with
   |.sn=>some (.sl es r o n c ex,[])
   | .sl es' r' o' n' _ _=>if es'=sz then(if n'=0 then some (.sl es r o n c ex,[])else if n=0/\ex=true/\c<n' then(match rd r' with
    | some (.cells _ cs')=>if o'+n'*sz<=cs'.length/\n'*bytes<=140737488355328 then
      some (.sl sz nr 0 n' n' false,[(nr,.cells true (piece cs' o' (n'*sz)))])else none
    |_=>none)else match rd r,rd r' with
    | some (.cells w cs),some (.cells _ cs')=>
     if o+n*sz<=cs.length/\o'+n'*sz<=cs'.length/\(n+n')*bytes<=140737488355328 then
      (if ex=true/\c<n+n' then some (.sl sz nr 0 (n+n') (n+n') false,[(nr,.cells true (piece cs o (n*sz)++piece cs' o' (n'*sz)))])
      else if w=true/\(piece cs' o' (n'*sz)).all V.one=true then some (.sl sz nr 0 (n+n') (n+n') false,[(nr,.cells true (piece cs o (n*sz)++piece cs' o' (n'*sz))),(r,.dead)])
      else none)else none
    |_,_=>none)else none
   |_=>none)else none
  |_=>none
 | .cpy sz x y=>match(e x).len,(e y).len with
  | some n,some n'=>if min n' n=0 then some (.n 0,[])else match e x,e y with
   | .sl es r o _ _ _,.sl es' r' o' _ _ _=>if es=sz/\es'=sz then(match rd r,rd r' with
    | some (.cells true cs),some (.cells _ cs')=>
     if o+min n' n*sz<=cs.length/\o'+min n' n*sz<=cs'.length/\(piece cs' o' (min n' n*sz)).all V.one then
      some (.n (min n' n:Nat),[(r,.cells true (over cs o (piece cs' o' (min n' n*sz))))])else none
    |_,_=>none)else none
   |_,_=>none
  |_,_=>none
 | .clr zero x=>match e x with
  |.sn=>some (.un,[])
  |.sl es r o n _ _=>if n=0 then some (.un,[])else if es=zero.length then(match rd r with
   |some (.cells true cs)=>if o+n*es<=cs.length/\zero.all V.one then some (.un,[(r,.cells true (over cs o (List.replicate n zero).flatten))])else none
   |_=>none)else none
  |_=>none
 |.mx xs=>match V.ints e xs with|some (k,n::ns)=>some (.i k (ns.foldl (λx y=>if y > x then y else x) n),[])|_=>none
 |.mn xs=>match V.ints e xs with|some (k,n::ns)=>some (.i k (ns.foldl (λx y=>if y<x then y else x) n),[])|_=>none
 |.mkm=>some (.mp nr,[(nr,.mp [])])
 | .mlk ks ok zero m k=>match e m with
  | .mp r=>match rd r with
   |some (.mp es)=>match lookup ks (e k) es with
    |some (some v)=>some (if ok then .tu [v,.b true]else v,[])
    |some none=>some (if ok then .tu [zero,.b false]else zero,[])
    |none=>none
   |_=>none
  |_=>none
 | .mup ks m k v=>match e m with
  |.mp r=>match rd r with
   |some (.mp es)=>match ZdL ks (e k) (e v) es with|some es'=>some (.un,[(r,.mp es')])|none=>none
   |_=>none
  |_=>none
 |.mlen x=>match e x with
  |.mp r=>match rd r with|some (.mp es)=>some (.n es.length,[])|_=>none
  |_=>none
 |.call _ _=>none
 |.bad=>none

structure Oper where
 dst:Option Nat
 op:Op
 guard:Option (Nat×Bool)

inductive Ex where
 |normal
 |exit(id:Nat)
 |ret
 deriving DecidableEq

inductive Code where
 |skip
 |region(ops:List Oper)
 |draw(ops:List Oper)(prs:List (Nat×Nat))
 |seq(a b:Code)
 |cond(c:Opd)(a b:Code)
 |block(id:Nat)(a:Code)
 |loop(a:Code)
 |exit(id:Nat)
 |ret
 |bad

inductive Res where
 |t(n:Nat)
 |cell(n:Nat)(agg:Bool)(sz:Nat)

structure Func where
 ntmps:Nat
 results:List Res
 body:Code

def Za0:V->List Nat
 |.p r _=>[r]
 |.sl _ r _ _ _ _=>[r]
 |.mp r=>[r]
 |_=>[]

def ZaZ(e:Opd->V):Op->List Nat
 |.ld _ _ a=>Za0 (e a)
 |.st _ a _=>Za0 (e a)
 |.slca _ _ x _ _ _=>Za0 (e x)
 |.app _ _ x y=>Za0 (e x)++Za0 (e y)
 |.cpy _ x y=>Za0 (e x)++Za0 (e y)
 |.clr _ x=>Za0 (e x)
 |.mlk _ _ _ m _=>Za0 (e m)
 |.mup _ m _ _=>Za0 (e m)
 |.mlen x=>Za0 (e x)
 |_=>[]
def Op.looks:Op->Bool
 |.st .. |.app .. |.cpy .. |.clr .. |.mup .. |.call ..=>false
 |_=>true

inductive Tr where
 |no
 |op(looks idle:Bool)(t:List Nat)(nr:Nat)
 |call(chg:Nat->Prop)

abbrev Zbu:=Nat->List V->Hp->Option (V×Hp)

def fid(id:Nat):Nat:=if id<1000000 then id else id-1000000
def ZdD(id:Nat)(args caps:List V):List V:=if id<1000000 then args++caps else caps++args

def Zb5(g:Option (Nat×Bool))(fr:Fr):Bool :=
 match g with
 |none=>true
 |some (j,w)=>match fr j with|.b x=>x==w|_=>false

def Zav(call:Zbu)(nr:Nat)(o:Oper)(fr:Fr)(h:Hp):Option (V×Hp×Tr) :=
 if Zb5 o.guard fr=true then
  match o.op with
  | .call f args=>match fr.ev f with
   |.f id caps=>match call (fid id) (ZdD id (args.map fr.ev) caps) h with
    |some (v,h')=>some (v,h',.call λr=>h'.m r≠h.m r)
    |none=>none
   |_=>none
  |op=>match act h.m nr fr.ev op with
   |some (v,up)=>some (v,h.puts up,.op op.looks up.isEmpty (ZaZ fr.ev op) nr)
   |none=>none
 else some (.un,h,.no)

def ZaS(call:Zbu):List Oper->Fr->Hp->Option (Fr×Hp)
 |[],fr,h=>some (fr,h)
 |o::l,fr,h=>match Zav call h.n o fr h with
  |some (v,h',_)=>ZaS call l (fr.put o.dst v) h'
  |none=>none

def zB(call:Zbu)(base:Nat):List (Nat×Oper)->Fr->Hp->Option (Fr×Hp×List (Nat×Tr))
 |[],fr,h=>some (fr,h,[])
 | (j,o)::l,fr,h=>match Zav call (base+j) o fr h with
  |some (v,h',t)=>match zB call base l (fr.put o.dst v) h' with
   |some (fr'',h'',ts)=>some (fr'',h'',(j,t)::ts)
   |none=>none
  |none=>none

def Tr.apart:Tr->Tr->Prop
 |.no,_=>True
 |_,.no=>True
 |.op l z t n,.op l' z' t' n'=>(l=true/\l'=true\/∀r∈t,r∉t')/\(z=false->n∉t')/\(z'=false->n'∉t)
 |.call c,.op l _ t _=>l=true/\∀r∈t,¬c r
 |.op l z t _,.call c=>l=true/\z=true/\∀r∈t,¬c r
 |.call _,.call _=>False

def Zf2(ts:List (Nat×Tr))(j:Nat):Tr:=match ts.lookup j with|some t=>t|none=>.no

open Classical in
noncomputable def ZbC(call:Zbu)(ops:List Oper)(prs:List (Nat×Nat))(fr:Fr)(h:Hp):Option (Fr×Hp) :=
 match zB call h.n ((List.range ops.length).zip ops) fr (h.bump ops.length)with
 |some (fr',h',ts)=>if∀q∈prs,(Zf2 ts q.1).apart (Zf2 ts q.2)then some (fr',h')else none
 |none=>none

def Zer(body:Fr->Hp->Option (Ex×Fr×Hp)):Nat->Fr->Hp->Option (Ex×Fr×Hp)
 |0,_,_=>none
 |k+1,fr,h=>match body fr h with
  |some (.normal,fr',h')=>Zer body k fr' h'
  |r=>r

noncomputable def Zai(call:Zbu)(k:Nat):Code->Fr->Hp->Option (Ex×Fr×Hp)
 |.skip,fr,h=>some (.normal,fr,h)
 |.region ops,fr,h=>match ZaS call ops fr h with|some (fr',h')=>some (.normal,fr',h')|none=>none
 |.draw ops prs,fr,h=>match ZbC call ops prs fr h with|some (fr',h')=>some (.normal,fr',h')|none=>none
 |.seq a b,fr,h=>match Zai call k a fr h with
  |some (.normal,fr',h')=>Zai call k b fr' h'
  |r=>r
 |.cond c a b,fr,h=>match fr.ev c with
  |.b true=>Zai call k a fr h
  |.b false=>Zai call k b fr h
  |_=>none
 |.block id a,fr,h=>match Zai call k a fr h with
  |some (.exit id',fr',h')=>if id'=id then some (.normal,fr',h')else some (.exit id',fr',h')
  |r=>r
 |.loop a,fr,h=>Zer (Zai call k a) k fr h
 |.exit id,fr,h=>some (.exit id,fr,h)
 |.ret,fr,h=>some (.ret,fr,h)
 |.bad,_,_=>none

def ZgI(fr:Fr)(h:Hp):Res->Option V
 |.t n=>some (fr n)
 |.cell n agg sz=>match fr n with
  |.p r o=>match h.m r with|some (.cells _ cs)=>ZbG agg cs o sz|_=>none
  |_=>none
def ZbO(fr:Fr)(h:Hp):List Res->Option (List V)
 |[]=>some []
 |r::l=>match ZgI fr h r,ZbO fr h l with|some v,some vs=>some (v::vs)|_,_=>none
def Zka:List V->V
 |[v]=>v
 |vs=>.tu vs

def Fr.start(args:List V):Fr:=λt=>(args[t]?).getD .un

abbrev Prog:=Nat->Option Func
def ZnI:Func:=⟨0,[.t 0],.seq (.region [⟨some 0,.cst (.b true),none⟩]) .ret⟩

noncomputable def Zbl(P:Prog):Nat->Zbu
 |0=>λ_ _ _=>none
 | k+1=>λf args h=>match P f with
  |none=>none
  | some fn=>if fn.ntmps=0/\0<args.length then none else match Zai (Zbl P k) k fn.body (Fr.start args) h with
   |some (.normal,fr,h')|some (.ret,fr,h')=>match ZbO fr h' fn.results with
    |some vs=>some (Zka vs,h')
    |none=>none
   |_=>none

end Mu
