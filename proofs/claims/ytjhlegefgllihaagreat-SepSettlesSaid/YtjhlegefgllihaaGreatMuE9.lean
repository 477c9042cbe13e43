/- The evaluator and the model: regions, code, calls. -/
import Derived.Test.YtjhlegefgllihaaGreatMuE8
namespace Mu
open Go (IntKind BinOp UnOp Value World Addr TypeId Program Sem Result Next)
open Go.RowKit (Below)
set_option linter.unusedVariables false

/-! ### Code -/
def ZmN(d:Option Nat)(n:Nat):Bool:=match d with|some d=>decide (d<n)|none=>true
theorem ZmO{d:Option Nat}{n:Nat}(h:ZmN d n=true):∀k,d=some k->k<n:=by
 rintro k rfl;simpa[ZmN]using h
def ZgG(P:Program)(K:Fid)(ops:Array Go.Oper)(n:Nat)(o:Go.Oper):Option Oper :=
 if ZmN o.dst n=true then
  match o.guard with
  |none=>some ⟨o.dst,nOp P K o.op,none⟩
  |some (j,wt)=>match(ops[j]?).bind (·.dst)with
   |some s=>some ⟨o.dst,nOp P K o.op,some (s,wt)⟩
   |none=>none
 else none
def Zex(P:Program)(K:Fid)(ops:Array Go.Oper)(n:Nat):List Go.Oper->Option (List Oper)
 |[]=>some []
 |o::l=>match ZgG P K ops n o,Zex P K ops n l with|some x,some xs=>some (x::xs)|_,_=>none

def ZeX:List Nat->List Go.Oper->List Nat
 |acc,[]=>acc
 |acc,o::l=>ZeX (acc++[o.after.toList.foldl (λs e=>if Go.Region.binds .any e=true then(s ||| 2^e.on) ||| acc.getD e.on 0 else s) 0]) l

def Op.pure:Op->Bool
 |.mv _|.cst _|.pick .. |.build .. |.nilck _|.bin .. |.eq .. |.un .. |.conv .. |.clo .. |.slc .. |.fa .. |.fld .. |.ixa .. |.ixaa .. |.ix .. |.ixs .. |.ext .. |.len _|.slen _|.capn _|.mx _|.mn _=>true
 |_=>false

def Zd1(bs:List Nat)(n:Nat):List (Nat×Nat) :=
 (List.range n).flatMap λj=>((List.range j).filter λi=>!(bs.getD j 0).testBit i).map λi=>(i,j)

def ZgY(ops:List Go.Oper):Bool :=
 ops.zipIdx.all λ(o,j)=>o.after.toList.all λe=>!Go.Region.binds .any e||decide (e.on<j)

def Znn(bs:List Nat)(xs:List Oper):Option (List (Nat×Nat)) :=
 let fp:=Zd1 bs xs.length
 if fp.all (λq=>match xs[q.1]?,xs[q.2]? with|some x,some y=>Zgt x y|_,_=>false)=true then
  some (fp.filter λq=>match xs[q.1]?,xs[q.2]? with|some x,some y=>!x.op.pure&&!y.op.pure|_,_=>true)
 else none

def nC(P:Program)(K:Fid)(n:Nat):Go.Code->Option Code
 |.skip=>some .skip
 |.region _ ops draw=>match Zex P K ops n ops.toList with
  |some xs=>if draw then(if ZgY ops.toList=true then(Znn (ZeX [] ops.toList) xs).map (.draw xs)else none)else some (.region xs)
  |none=>none
 |.seq a b=>match nC P K n a,nC P K n b with|some a,some b=>some (.seq a b)|_,_=>none
 |.cond c a b=>match nX K c,nC P K n a,nC P K n b with|some c,some a,some b=>some (.cond c a b)|_,_,_=>none
 |.block id a=>(nC P K n a).map (.block id)
 |.loop a=>(nC P K n a).map .loop
 |.exit id=>some (.exit id)
 |.ret=>some .ret
 |_=>some .bad

def Zrb(P:Program):Go.ResultVar->Option Res
 |.tmp t=>some (.t t)
 |.cell a t=>match P.info? t,P.underlying t with|some i,some d=>some (.cell a (ZbK d) i.size)|_,_=>none
def Ziu(P:Program):List Go.ResultVar->Option (List Res)
 |[]=>some []
 |r::l=>match Zrb P r,Ziu P l with|some x,some xs=>some (x::xs)|_,_=>none

def Zls(P:Program)(K:Fid)(f:Go.Func):Option Func :=
 match f.body with
 |none=>none
 |some c=>match nC P K f.ntmps c,Ziu P f.results.toList with
  |some c,some rs=>if f.name="runtime.NumGoroutine" then none else some ⟨f.ntmps,rs,c⟩
  |_,_=>none

def Fits(P:Program)(K:Fid)(fid:Nat)(f:Go.Func)(g:Func):Prop :=
 Zls P K f=some g\/(f.body≠none/\f.name≠"runtime.NumGoroutine"/\g=ZnI/\∀w,Go.Calls P fid #[] w λe w'=>e=.returned (.bool true)/\Below w.heap.size w w')
theorem Fits.body{P:Program}{K:Fid}{fid:Nat}{fn:Go.Func}{g:Func}(h:Fits P K fid fn g):fn.body≠none/\fn.name≠"runtime.NumGoroutine":=by
 rcases h with p3|⟨h1,h2,_⟩
 .unfold Zls at p3;split at p3
  .cases p3
  .rename_i cc hcc;split at p3
   .split at p3
    .cases p3
    .rename_i hne;exact⟨by simp[hcc],hne⟩
   .cases p3
 .exact⟨h1,h2⟩

def Match(P:Program)(K:Fid)(N:Prog):Prop:=∀fid id,K fid=some id->∃f g,P.funcs[fid]?=some f/\N id=some g/\Fits P K fid f g

def Zgq(P:Program)(K:Fid)(w0:World)(call:Zbu):Prop :=
 ∀f args h v h',call f args h=some (v,h')->∀fid xs w ρ,K fid=some f->RelL K ρ args xs.toList->Inv K w0 ρ h w->
  Go.Calls P fid xs w λe w'=>∃x ρ',e=.returned x/\Rel K ρ' v x/\ρ.le ρ'/\Inv K w0 ρ' h' w'

section
variable {P:Program}{K:Fid}{w0:World}{N:Prog}

theorem ZkT{ρ:Rho}{ops:Array Go.Oper}{n:Nat}{fr:Fr}{a:Go.Act}(hf:FrRel K ρ fr a){o:Go.Oper}{x:Oper}(hx:ZgG P K ops n o=some x):Go.Region.wanted o (Go.yielded ops a.tmps)=Zb5 x.guard fr:=by
 unfold ZgG at hx;split at hx
 .split at hx
  .rename_i hg;simp only[Option.some.injEq]at hx;subst hx;simp[Go.Region.wanted,hg,Zb5]
  .rename_i j wt hg;split at hx
   .rename_i s hs;simp only[Option.some.injEq]at hx;subst hx;simp only[Go.Region.wanted,hg,Zb5,Go.yielded,hs,Option.bind_some];have hr:=hf s;rw[Array.getD_eq_getD_getElem?]at hr
    cases ht:a.tmps[s]? with
    |none=>
     rw[ht]at hr;simp only[Option.getD_none]at hr;generalize hv:fr s=u at hr;cases hr;rfl
    |some y=>
     rw[ht]at hr;simp only[Option.getD_some]at hr;generalize hv:fr s=u at hr;cases hr<;>simp
   .cases hx
 .cases hx

theorem Zq3{ops:Array Go.Oper}{n:Nat}{o:Go.Oper}{x:Oper}(hx:ZgG P K ops n o=some x):x.dst=o.dst/\x.op=nOp P K o.op/\∀d,o.dst=some d->d<n:=by
 unfold ZgG at hx;split at hx
 .rename_i hd;have hd':∀d,o.dst=some d->d<n:=ZmO hd;split at hx
  .simp only[Option.some.injEq]at hx;subst hx;exact⟨rfl,rfl,hd'⟩
  .split at hx
   .simp only[Option.some.injEq]at hx;subst hx;exact⟨rfl,rfl,hd'⟩
   .cases hx
 .cases hx

theorem ZlV{o:Go.Op}{f:Opd}{args:List Opd}(h:ZhX P K o=some (.call f args)):∃c,o=.call c:=by
 cases o
 case call c=>exact⟨c,rfl⟩
 case makeFunc fn _ _=>
  exfalso;cases fn<;>simp only[ZhX,reduceCtorEq]at h;revert h
  (repeat' split)<;>simp
 case makeMap t r=>
  exfalso;cases r<;>simp[ZhX]at h
 all_goals
  exfalso;simp only[ZhX,reduceCtorEq]at h
 all_goals
  revert h
  (repeat' split)<;>simp[Option.map_eq_some_iff]

theorem ZlA{call:Zbu}(hc:Zgq P K w0 call)(hm:Match P K N){ρ:Rho}{h h':Hp}{w:World}{fr:Fr}{a:Go.Act}{nr n:Nat}{ops:Array Go.Oper}{i:Nat}{o:Go.Oper}{x:Oper}{v:V}{t:Tr}{Q:Go.Exit->Go.Act->World->Prop}{Kn:Go.Act->World->Prop}
  (ho:ops[i]?=some o)(hx:ZgG P K ops n o=some x)(hi:Inv K w0 ρ h w)(hf:FrRel K ρ fr a)(hs:n<=a.tmps.size)(hd:a.defers=[])(hn:h.m nr=none)(he:Zav call nr x fr h=some (v,h',t))
  (hk:∀a' w' ρ',ρ.le ρ'->FrRel K ρ' (fr.put x.dst v) a'->Inv K w0 ρ' h' w'->n<=a'.tmps.size->a'.defers=[]->Kn a' w'):Go.wpOp P ops Q i Kn a w:=by
 obtain⟨d1,d2,d3⟩:=Zq3 hx;have hput:∀{ρ':Rho}{y:Value},ρ.le ρ'->Rel K ρ' v y->FrRel K ρ' (fr.put x.dst v) (a.put o.dst y):=by
  intro ρ' y hle hy;rw[d1];exact(hf.mono hle).put (λk hk=>Nat.lt_of_lt_of_le (d3 k hk) hs) hy
 have hsz:∀y:Value,n<=(a.put o.dst y).tmps.size:=by
  intro y
  cases hdst:o.dst with
  |none=>exact hs
  |some d=>simpa[Go.Act.put]using hs
 have hdf:∀y:Value,(a.put o.dst y).defers=[]:=by
  intro y
  cases hdst:o.dst with
  |none=>exact hd
  |some d=>exact hd
 simp only[Go.wpOp,ho,ZkT hf hx]
 cases t with
 |no=>
  obtain⟨hw,rfl,rfl⟩:=Zgm he;simp only[Bool.not_eq_true]at hw;rw[hw];exact hk _ _ ρ (Rho.le.refl _) (hput (Rho.le.refl _) (.tu .nil)) hi (hsz _) (hdf _)
 | op l z t m=>
  obtain⟨hw,hnc,rfl,rfl,rfl,up,hact,rfl,rfl⟩:=Ze7 he;rw[hw];simp only[if_true];refine .inl ?_;rw[d2]at hact;unfold nOp at hact
  cases hop:ZhX P K o.op with
  |none=>rw[hop]at hact;simp[act]at hact
  |some op=>
   rw[hop]at hact;simp only[Option.getD_some]at hact;obtain⟨y,w',ρ',g1,g2,g3,g4⟩:=Zqm hi hf hn hop hact;unfold Go.Oper.wp;rcases g1 with g1|⟨g1,rfl⟩
   .rw[g1];exact hk _ _ ρ' g2 (hput g2 g3) g4 (hsz _) (hdf _)
   .rw[g1];exact hk _ _ ρ' g2 (hput g2 g3) g4 (hsz _) (hdf _)
 | call chg=>
  obtain⟨_,hw,f,args,id,caps,hop,hfv,hcall⟩:=Zej he;rw[hw];simp only[if_true];refine .inl ?_;rw[d2]at hop;unfold nOp at hop
  cases hop':ZhX P K o.op with
  |none=>rw[hop']at hop;cases hop
  | some op=>
   rw[hop']at hop;simp only[Option.getD_some]at hop;subst hop
   -- it is a call of a function value
   obtain⟨c,hoo⟩:=ZlV hop';rw[hoo]at hop';simp only[ZhX,Zlr]at hop';split at hop'
   .rename_i fo hcal;split at hop'
    .rename_i f' xs' h1 h2;simp only[Option.some.injEq,Op.call.injEq]at hop';obtain⟨e1,e2⟩:=hop';rw[<-e1]at hfv;rw[<-e2]at hcall;have hr:=zX hf h1;have hrs:=Zhe hf h2;rw[hfv]at hr;generalize hev:a.eval fo=F at hr
     cases hr with
     | f hK hl hcaps=>
      rename_i fid xs;unfold Mu.fid ZdD at hcall;rw[if_pos hl,if_pos hl]at hcall;have hargs:RelL K ρ (xs'.map fr.ev++caps) ((c.args.map a.eval)++xs).toList:=by
       rw[Array.toList_append,Array.toList_map];exact hrs.append hcaps
      have hC:=hc _ _ _ _ _ hcall fid _ w ρ hK hargs hi;obtain⟨fn,g,p1,p2,p3⟩:=hm fid id hK;have hbody:=p3.body;have hexec:(Go.execOp a.eval o).run P w=.ok (.enter fid ((c.args.map a.eval)++xs)) w:=by
       simp only[Go.execOp,hoo,Go.resolve,hcal,hev,Go.Deferred.ofValue];simp[Go.invoke,Go.callFunc,p1,hbody.1,hbody.2]
      unfold Go.Oper.wp;rw[hexec,Go.Oper.upon_enter];refine hC.mono ?_;rintro e w' ⟨y,ρ',rfl,r1,r2,r3⟩;exact hk _ _ ρ' r2 (hput r2 r1) r3 (hsz _) (hdf _)
     | fb hK hl hcaps=>
      rename_i id0 fid xs;unfold Mu.fid ZdD at hcall;rw[if_neg (by omega),if_neg (by omega),Nat.add_sub_cancel]at hcall;have hargs:RelL K ρ (caps++xs'.map fr.ev) (xs++(c.args.map a.eval)).toList:=by
       rw[Array.toList_append,Array.toList_map];exact hcaps.append hrs
      have hC:=hc _ _ _ _ _ hcall fid _ w ρ hK hargs hi;obtain⟨fn,g,p1,p2,p3⟩:=hm fid id0 hK;have hbody:=p3.body;have hexec:(Go.execOp a.eval o).run P w=.ok (.enter fid (xs++(c.args.map a.eval))) w:=by
       simp only[Go.execOp,hoo,Go.resolve,hcal,hev,Go.Deferred.ofValue];simp[Go.invoke,Go.callFunc,p1,hbody.1,hbody.2]
      unfold Go.Oper.wp;rw[hexec,Go.Oper.upon_enter];refine hC.mono ?_;rintro e w' ⟨y,ρ',rfl,r1,r2,r3⟩;exact hk _ _ ρ' r2 (hput r2 r1) r3 (hsz _) (hdf _)
    .cases hop'
   .cases hop'
   .exfalso;revert hop'
    (repeat' split)<;>simp[Option.map_eq_some_iff]

structure St(K:Fid)(w0:World)(n:Nat)(ρ:Rho)(fr:Fr)(h:Hp)(a:Go.Act)(w:World):Prop where
 fr:FrRel K ρ fr a
 inv:Inv K w0 ρ h w
 size:n<=a.tmps.size
 defers:a.defers=[]

theorem Znu{call:Zbu}(hc:Zgq P K w0 call)(hm:Match P K N){n:Nat}{ops:Array Go.Oper}{Q:Go.Exit->Go.Act->World->Prop} :
  ∀(l:List Go.Oper)(xs:List Oper)(j:Nat),ops.toList.drop j=l->Zex P K ops n l=some xs->∀{ρ:Rho}{fr fr':Fr}{h h':Hp}{a:Go.Act}{w:World},St K w0 n ρ fr h a w->ZaS call xs fr h=some (fr',h')->
   (∀ρ' a' w',ρ.le ρ'->St K w0 n ρ' fr' h' a' w'->Q .normal a' w')->Go.wpOps P ops Q (List.range' j l.length) a w
 |[],xs,j,hl,hx,ρ,fr,fr',h,h',a,w,hs,he,hq=>by
  simp only[Zex,Option.some.injEq]at hx;subst hx;simp only[ZaS,Option.some.injEq,Prod.mk.injEq]at he;obtain⟨rfl,rfl⟩:=he;exact hq ρ a w (Rho.le.refl _) hs
 | o::l,xs,j,hl,hx,ρ,fr,fr',h,h',a,w,hs,he,hq=>by
  simp only[Zex]at hx;split at hx
  .rename_i x xs' h1 h2;simp only[Option.some.injEq]at hx;subst hx;simp only[ZaS]at he;split at he
   .rename_i v h1' t hst;have ho:ops[j]?=some o:=by
     rw[<-Array.getElem?_toList];have:=congrArg (·[0]?) hl;simpa using this
    rw[List.length_cons,List.range'_succ,Go.wpOps_cons];refine ZlA hc hm ho h1 hs.inv hs.fr hs.size hs.defers (h.wf _ (Nat.le_refl _)) hst ?_;intro a' w' ρ' hle hf' hi' hs' hd';refine Znu hc hm l xs' (j+1) ?_ h2 ⟨hf',hi',hs',hd'⟩ he λρ'' a'' w'' hle' hst'=>hq ρ'' a'' w'' (hle.trans hle') hst';rw[<-List.tail_drop,hl];rfl
   .cases he
  .cases hx

/-! ### A region in which an order is Zep -/
theorem Zix{rd:Nat->Option Obj}{nr:Nat}{e:Opd->V}{op:Op}{v:V}{up:List (Nat×Obj)}(hp:op.pure=true)(h:act rd nr e op=some (v,up)):up=[]/\ZaZ e op=[]/\op.looks=true:=by
 cases op<;>simp only[Op.pure,Bool.false_eq_true]at hp<;>refine⟨?_,rfl,rfl⟩<;>simp only[act]at h<;>(repeat' split at h) <;>
  (first
   |(simp only[Option.some.injEq,Prod.mk.injEq,reduceCtorEq]at h;exact h.2.symm)
   |(simp only[reduceCtorEq]at h))

theorem ZgT{call:Zbu}{nr:Nat}{o:Oper}{fr:Fr}{h h':Hp}{v:V}{t:Tr}(hp:o.op.pure=true)(hs:Zav call nr o fr h=some (v,h',t))(t':Tr)(ht':∀l z tt n,t'=.op l z tt n->z=false->True):t.apart t':=by
 cases t with
 |no=>cases t'<;>trivial
 |op l z tt n=>
  obtain⟨_,_,rfl,rfl,rfl,up,ha,_,rfl⟩:=Ze7 hs;obtain⟨rfl,h2,h3⟩:=Zix hp ha
  cases t' with
  |no=>trivial
  |op l' z' t' n'=>exact⟨.inr (by simp[h2]),by simp,by simp[h2]⟩
  |call c=>exact⟨h3,rfl,by simp[h2]⟩
 |call c=>
  obtain⟨_,_,f,args,id,caps,hop,_⟩:=Zej hs;rw[hop]at hp;cases hp
theorem Zg3{call:Zbu}{nr:Nat}{o:Oper}{fr:Fr}{h h':Hp}{v:V}{t:Tr}(hp:o.op.pure=true)(hs:Zav call nr o fr h=some (v,h',t))(t':Tr):t'.apart t:=by
 cases t with
 |no=>cases t'<;>trivial
 |op l z tt n=>
  obtain⟨_,_,rfl,rfl,rfl,up,ha,_,rfl⟩:=Ze7 hs;obtain⟨rfl,h2,h3⟩:=Zix hp ha
  cases t' with
  |no=>trivial
  |op l' z' t' n'=>exact⟨.inr (by simp[h2]),by simp[h2],by simp⟩
  |call c=>exact⟨h3,by simp[h2]⟩
 |call c=>
  obtain⟨_,_,f,args,id,caps,hop,_⟩:=Zej hs;rw[hop]at hp;cases hp

theorem ZeL{call:Zbu}{base:Nat}:∀{l:List (Nat×Oper)}{fr fr':Fr}{h h':Hp}{ts:List (Nat×Tr)},zB call base l fr h=some (fr',h',ts)->ts.map (·.1)=l.map (·.1)
 |[],fr,fr',h,h',ts,he=>by
  simp only[zB,Option.some.injEq,Prod.mk.injEq]at he;obtain⟨_,_,rfl⟩:=he;rfl
 | (j,o)::l,fr,fr',h,h',ts,he=>by
  simp only[zB]at he;split at he
  .split at he
   .rename_i hr;simp only[Option.some.injEq,Prod.mk.injEq]at he;obtain⟨_,_,rfl⟩:=he;simp[ZeL hr]
   .cases he
  .cases he

theorem move{call:Zbu}(hc:Zhh call){base:Nat}{j:Nat}{o:Oper}{l2:List (Nat×Oper)}:∀{l1:List (Nat×Oper)}{fr fr':Fr}{h h':Hp}{ts:List (Nat×Tr)},zB call base (l1++(j,o)::l2) fr h=some (fr',h',ts)->
  (∀q∈l1,Zgt q.2 o=true/\q.1≠j)->(h.m (base+j)=none/\base+j<h.n)->
  (∀t1 t ts2,ts=t1++(j,t)::ts2->t1.length=l1.length->∀q∈t1,q.2.apart t)->
  ∃t1 t ts2,ts=t1++(j,t)::ts2/\t1.length=l1.length/\zB call base ((j,o)::(l1++l2)) fr h=some (fr',h',(j,t)::(t1++ts2))
 | [],fr,fr',h,h',ts,he,_,_,_=>by
  simp only[List.nil_append]at he;simp only[zB]at he;split at he
  .rename_i v h1 t hs;split at he
   .rename_i fr2 h2 ts2 hr;simp only[Option.some.injEq,Prod.mk.injEq]at he;obtain⟨rfl,rfl,rfl⟩:=he;refine⟨[],t,ts2,rfl,rfl,?_⟩;simp only[List.nil_append,zB,hs,hr]
   .cases he
  .cases he
 | (i,p)::l1,fr,fr',h,h',ts,he,ha,hn,hap=>by
  simp only[List.cons_append,zB]at he;split at he
  .rename_i v1 h1 t1 hs1;split at he
   .rename_i fr2 h2 ts2 hr;simp only[Option.some.injEq,Prod.mk.injEq]at he;obtain⟨rfl,rfl,rfl⟩:=he;obtain⟨hpo,hij⟩:=ha (i,p) (by simp);obtain⟨r1,r2,_⟩:=Zek hc .dead hn.1 hn.2 (by show base+j≠base+i;simp only at hij;omega) hs1;obtain⟨u1,t,u2,e1,e2,e3⟩:=move hc hr (λq hq=>ha q (by simp[hq])) ⟨r1,r2⟩ (λu1 t u2 e1 e2 q hq=>hap ((i,t1)::u1) t u2 (by rw[e1];rfl) (by simp[e2]) q (by simp[hq]));subst e1
    -- the two at the head
    simp only[zB]at e3;split at e3
    .rename_i v2 h1' t2 hs2;split at e3
     .rename_i fr3 h3 ts3 hr3;simp only[Option.some.injEq,Prod.mk.injEq,List.cons.injEq]at e3;obtain⟨rfl,rfl,⟨_,rfl⟩,rfl⟩:=e3;have hap1:t1.apart t2:=hap ((i,t1)::u1) t2 u2 rfl (by simp[e2]) (i,t1) (by simp);obtain⟨hm,g1,g2⟩:=swap hc hs1 hs2 hpo (by show base+i≠base+j;simp only at hij;omega) hn.1 hn.2 hap1;obtain⟨_,_,a3⟩:=Zg9 hpo;refine⟨(i,t1)::u1,t2,u2,rfl,by simp[e2],?_⟩;simp only[List.cons_append,zB,g1,g2];rw[Zjk (fr:=fr) (a:=p.dst) (b:=o.dst) a3]at hr3;rw[hr3]
     .cases e3
    .cases e3
   .cases he
  .cases he
end
end Mu
