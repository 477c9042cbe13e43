/- The evaluator and the model: which operation of the evaluator's stands for which of the model's; each does what the model's does. -/
import Derived.Test.YtjhlegefgllihaaGreatMuE2
namespace Mu
open Go (IntKind BinOp UnOp Value World Addr TypeId Program Sem Result Next)
open Go.RowKit (Below)
set_option linter.unusedVariables false
/-- A function's number,if it is one that a function value can bear. -/
def kf(K:Fid)(f:Nat):Option Nat:=match K f with|some id=>if id<1000000 then some id else none|none=>none
theorem Zeq{K:Fid}{f id:Nat}(h:kf K f=some id):K f=some id/\id<1000000:=by
  unfold kf at h;split at h
  · rename_i u hu
    split at h
    · rename_i hl;cases h;exact⟨hu,hl⟩
    · cases h
  · cases h

/-! ### Which operation stands for which -/
def nV1(K:Fid):Value->Option V
  |.bool x=>some (.b x)
  |.int k n=>some (.i k n)
  |.string s=>some (.s s)
  |.pointer none=>some .pn
  |.slice none 0 0=>some .sn
  |.nilFunc=>some .nf
  |.nilIface=>some .ni
  |.func (.func f) first caps=>if first.toList.isEmpty&&caps.toList.isEmpty then(kf K f).map λid=>.f id []else none
  |_=>none
def nVs(K:Fid):List Value->Option (List V)
  |[]=>some []
  |x::l=>match nV1 K x,nVs K l with|some v,some vs=>some (v::vs)|_,_=>none
def nV(K:Fid):Value->Option V
  |.agg cs=>(nVs K cs.toList).map .ag
  |x=>nV1 K x

def nX(K:Fid):Go.Operand->Option Opd
  |.tmp t=>some (.t t)
  |.const v=>(nV K v).map .c
  |.func f=>(kf K f).map λid=>.c (.f id [])
  |.global _=>none
def nXs(K:Fid):List Go.Operand->Option (List Opd)
  |[]=>some []
  |x::l=>match nX K x,nXs K l with|some v,some vs=>some (v::vs)|_,_=>none
def nXo(K:Fid):Option Go.Operand->Option (Option Opd)
  |none=>some none
  |some x=>(nX K x).map some

def ZbK:Go.TypeDesc->Bool
  |.struct _|.array _ _=>true
  |_=>false

/-- The flat kinds of a type that can be compared cell by cell. -/
def Zdi (P:Program):Nat->TypeId->Option (List FK)
  |0,_=>none
  | d+1,t=>match P.underlying t with
    |some (.int _)=>some [.i]
    |some .bool=>some [.b]
    |some .string=>some [.s]
    |some (.struct fs)=>if P.stoodInHeld t then none else
        fs.toList.foldl (λacc f=>match acc,Zdi P d f.type,P.info? f.type with
          |some l,some m,some i=>if f.offset=l.length/\f.name≠"_"/\i.size=m.length then some (l++m)else none
          |_,_,_=>none) (some [])
    | some (.array len e)=>match Zdi P d e,P.info? e with
      |some m,some i=>if i.size=m.length then some (List.replicate len m).flatten else none
      |_,_=>none
    |_=>none

def isC:Go.Operand->Bool
  |.const _=>true
  |_=>false
def nEq(P:Program)(t:TypeId)(x y:Go.Operand):Option Eq :=
  match P.underlying t with
  |some (.int _)=>some .sc
  |some .string=>some .sc
  |some .bool=>some .bl
  |some (.pointer _)=>some .pt
  |some (.slice _)=>some .sl
  |some (.func ..)=>some .fn
  |some (.interface _)=>if isC x=true\/isC y=true then some .ni else none
  |some (.struct _)|some (.array ..)=>if P.eqGuardType P.depth t=false then(Zdi P 100 t).map .fl else none
  |_=>none

/-- Parts of a struct or an array:where each lies. -/
def ZeP(P:Program)(K:Fid)(t:TypeId)(ps:List (Nat×Go.Operand)):Option (List (Nat×Nat×Opd)) :=
  match P.underlying t with
  |some (.struct fs)=>ps.foldr (λp acc=>match acc,(fs[p.1]?:Option Go.Field),nX K p.2 with
      |some l,some f,some x=>(match P.info? f.type with|some i=>some ((f.offset,i.size,x)::l)|none=>none)
      |_,_,_=>none) (some [])
  | some (.array _ e)=>match P.info? e with
    |some i=>ps.foldr (λp acc=>match acc,nX K p.2 with|some l,some x=>some ((p.1*i.size,i.size,x)::l)|_,_=>none) (some [])
    |none=>none
  |_=>none
def ZeQ(P:Program)(K:Fid)(sz:Nat)(ps:List (Nat×Go.Operand)):Option (List (Nat×Nat×Opd)) :=
  ps.foldr (λp acc=>match acc,nX K p.2 with|some l,some x=>some ((p.1*sz,sz,x)::l)|_,_=>none) (some [])

def Zec(P:Program)(K:Fid)(t:TypeId):Option (List V) :=
  match P.info? t with
  |some i=>(match i.zero with|some z=>nVs K z.cells.toList|none=>none)
  |none=>none

def ZiS:Option Go.TypeDesc->Bool
  |some (.int _)=>true
  |_=>false
/-- A map's key:a struct or an array of whole numbers. -/
def ZpH(P:Program)(kt:TypeId)(n:Nat):Bool:=match P.underlying kt with
  |some (.struct fs)=>fs.toList.all λf=>decide (f.name≠"_")&&decide (f.offset<n)&&ZiS (P.underlying f.type)
  |some (.array m e)=>ZiS (P.underlying e)&&(match P.info? e with|some i=>(List.range m).all λj=>decide (j*i.size<n)|none=>false)
  |_=>false
def ZoT(P:Program)(kt:TypeId):Option (List FK):=match Zdi P 100 kt with
  |some ks=>if ks.all (λk=>decide (k=.i))=true/\ZpH P kt ks.length=true then some ks else none
  |none=>none
def ZkD(P:Program)(t:TypeId):Option V:=match P.info? t with
  |some i=>(match i.zero with|some (.bool b)=>some (.b b)|some (.int k n)=>some (.i k n)|_=>none)
  |none=>none

def Zlr(P:Program)(K:Fid)(c:Go.Call):Option Op :=
  match c.callee with
  |.value f=>match nX K f,nXs K c.args.toList with|some f,some xs=>some (.call f xs)|_,_=>none
  |.invoke ..=>none
  | .builtin b=>match b,c.args.toList,c.argTypes.toList with
    | .len,[x],[t]=>match nX K x,P.underlying t with
      |some x,some (.slice _)=>some (.len x)
      |some x,some .string=>some (.slen x)
      |some x,some (.map _ _)=>some (.mlen x)
      |some _,some (.array n _)=>some (.cst (.n n))
      |_,_=>none
    | .cap,[x],[t]=>match nX K x,P.underlying t with
      |some x,some (.slice _)=>some (.capn x)
      |_,_=>none
    | .append,[x,y],[t,t']=>match P.underlying t' with
     |some (.int .i64)=>(match nX K x,nX K y,P.underlying t with
      |some x,some y,some (.slice e)=>(match P.info? e,Zec P K e with|some i,some z=>if 0<i.size/\z.length=i.size/\0<i.bytes then some (.growz i.size i.bytes z x y)else none|_,_=>none)
      |_,_,_=>none)
     |_=>if t=t' then(match nX K x,nX K y,P.underlying t with
      |some x,some y,some (.slice e)=>(match P.info? e with|some i=>(match i.zero with|some z=>if 0<i.size/\0<i.bytes/\z.cells.size=i.size then some (.app i.size i.bytes x y)else none|none=>none)|none=>none)
      |_,_,_=>none)else none
    | .copy,[x,y],[t,_]=>match nX K x,nX K y,P.underlying t with
      |some x,some y,some (.slice e)=>(match P.info? e with|some i=>if 0<i.size then some (.cpy i.size x y)else none|none=>none)
      |_,_,_=>none
    |.max,xs,_=>(nXs K xs).map .mx
    |.min,xs,_=>(nXs K xs).map .mn
    | .clear,[x],[t]=>match nX K x,P.underlying t with
      |some x,some (.slice e)=>(match P.info? e,Zec P K e with|some i,some z=>if z.length=i.size then some (.clr z x)else none|_,_=>none)
      |_,_=>none
    |_,_,_=>none

def ZhX(P:Program)(K:Fid)(o:Go.Op):Option Op :=
  match o with
  |.move x|.assign x=>(nX K x).map .mv
  |.pick c a b=>match nX K c,nX K a,nX K b with|some c,some a,some b=>some (.pick c a b)|_,_,_=>none
  |.alloc e=>(Zec P K e).map .alloc
  |.box _ x=>(nX K x).map .box
  | .build t ps=>match Zec P K t,ZeP P K t ps.toList with
    | some z,some l=>(match P.underlying t with
      |some (.struct fs)=>if fs.toList.all (λf=>(P.info? f.type).isSome)=true then some (.build z l)else none
      |some (.array _ _)=>some (.build z l)
      |_=>none)
    |_,_=>none
  | .buildSlice t len ps=>match P.underlying t with
    | some (.slice e)=>(match P.info? e,Zec P K e with
      |some i,some z=>if len*i.size<=16777216/\0<i.size/\z.length=i.size then(ZeQ P K i.size ps.toList).map λl=>.bsl i.size len z l else none
      |_,_=>none)
    |_=>none
  |.load t x=>match P.info? t,P.underlying t,nX K x with|some i,some d,some x=>some (.ld (ZbK d) i.size x)|_,_,_=>none
  |.store t a x=>match P.info? t,nX K a,nX K x with|some i,some a,some x=>some (.st i.size a x)|_,_,_=>none
  |.nilCheck x=>(nX K x).map .nilck
  | .binOp op t x y _=>match nX K x,nX K y with
    |some x',some y'=>if op=.eql then(nEq P t x y).map λk=>.eq false k x' y' else if op=.neq then(nEq P t x y).map λk=>.eq true k x' y' else some (.bin op x' y')
    |_,_=>none
  |.unOp op _ x=>(nX K x).map (.un op)
  |.convert s d x=>match P.underlying s,P.underlying d,nX K x with|some (.int _),some (.int k),some x=>some (.conv k x)|_,_,_=>none
  |.makeFunc (.func f) first caps=>if first.toList.isEmpty then(match kf K f,nXs K caps.toList with|some id,some xs=>some (.clo id xs)|_,_=>none)else if caps.toList.isEmpty then(match kf K f,nXs K first.toList with|some id,some xs=>some (.clo (id+1000000) xs)|_,_=>none)else none
  | .makeSlice t l c=>match P.underlying t,nX K l,nX K c with
    |some (.slice e),some l,some c=>(match P.info? e,Zec P K e with|some i,some z=>if 0<i.size/\z.length=i.size/\0<i.bytes then some (.mks i.size i.bytes z l c)else none|_,_=>none)
    |_,_,_=>none
  | .slice t x lo hi mx=>match P.underlying t,nX K x,nXo K lo,nXo K hi,nXo K mx with
    |some (.slice e),some x,some lo,some hi',some mx=>(match P.info? e with|some i=>if mx.isSome&&!hi.isSome then none else some (.slc i.size x lo hi' mx)|none=>none)
    |some (.array n e),some x,some lo,some hi',some mx=>(match P.info? e with|some i=>if mx.isSome&&!hi.isSome then none else if 0<i.size then some (.slca i.size n x lo hi' mx)else none|none=>none)
    |_,_,_,_,_=>none
  | .fieldAddr t x k=>match P.underlying t,nX K x with
    | some (.struct fs),some x=>(match(fs[k]?:Option Go.Field)with
      |some f=>(match P.info? f.type with|some i=>if i.size≠0 then some (.fa f.offset x)else none|none=>none)
      |none=>none)
    |_,_=>none
  | .field t x k=>match P.underlying t,nX K x with
    | some (.struct fs),some x=>(match(fs[k]?:Option Go.Field)with
      |some f=>(match P.info? f.type,P.underlying f.type with|some i,some d=>some (.fld (ZbK d) f.offset i.size x)|_,_=>none)
      |none=>none)
    |_,_=>none
  | .indexAddr t x i=>match P.underlying t,nX K x,nX K i with
    |some (.slice e),some x,some j=>(match P.info? e with|some i=>some (.ixa i.size x j)|none=>none)
    |some (.array n e),some x,some j=>(match P.info? e with|some i=>some (.ixaa i.size n x j)|none=>none)
    |_,_,_=>none
  | .index t x i=>match P.underlying t,nX K x,nX K i with
    |some (.array n e),some x,some j=>(match P.info? e,P.underlying e with|some i,some d=>some (.ix (ZbK d) i.size n x j)|_,_=>none)
    |some .string,some x,some j=>some (.ixs x j)
    |_,_,_=>none
  |.extract x k=>(nX K x).map λx=>.ext x k
  |.makeMap _ none=>some .mkm
  | .lookup t x y c=>match P.underlying t,nX K x,nX K y with
    |some (.map kt et),some x,some y=>(match ZoT P kt,ZkD P et with|some ks,some z=>some (.mlk ks c z x y)|_,_=>none)
    |_,_,_=>none
  | .mapUpdate t x y u=>match P.underlying t,nX K x,nX K y,nX K u with
    |some (.map kt _),some x,some y,some u=>(ZoT P kt).map λks=>.mup ks x y u
    |_,_,_,_=>none
  |.call c=>Zlr P K c
  |_=>none
def nOp(P:Program)(K:Fid)(o:Go.Op):Op:=(ZhX P K o).getD .bad

/-! ### Values of the program's text -/
section
variable {K:Fid}{ρ:Rho}
theorem Zlu{x:Value}{v:V}(h:nV1 K x=some v):Rel K ρ v x:=by
  unfold nV1 at h;split at h
  all_goals (first
    |(simp only[Option.some.injEq]at h;subst h;constructor;done)
    |(simp only[reduceCtorEq]at h;done)
    |skip)
  rename_i f first caps
  split at h
  · rename_i hc
    simp only[Bool.and_eq_true,List.isEmpty_iff]at hc;obtain⟨h1,h2⟩:=hc;have e1:first=#[]:=by cases first;simpa using h1
    have e2:caps=#[]:=by cases caps;simpa using h2
    subst e1 e2
    cases hk:kf K f with
    |none=>simp[hk]at h
    | some id=>
      simp only[hk,Option.map_some,Option.some.injEq]at h;subst h;exact .f (Zeq hk).1 (Zeq hk).2 .nil
  · cases h
theorem Zjb:∀{xs:List Value}{vs:List V},nVs K xs=some vs->RelL K ρ vs xs
  |[],vs,h=>by simp only[nVs,Option.some.injEq]at h;subst h;exact .nil
  | x::l,vs,h=>by
    simp only[nVs]at h;split at h
    · rename_i v vs' h1 h2
      simp only[Option.some.injEq]at h;subst h;exact .cons (Zlu h1) (Zjb h2)
    · cases h
theorem Zrc{x:Value}{v:V}(h:nV K x=some v):Rel K ρ v x:=by
  unfold nV at h;split at h
  · rename_i cs
    cases hc:nVs K cs.toList with
    |none=>simp[hc]at h
    | some vs=>
      simp only[hc,Option.map_some,Option.some.injEq]at h;subst h;exact .ag (Zjb hc)
  · exact Zlu h
theorem zX{fr:Fr}{a:Go.Act}(hf:FrRel K ρ fr a){x:Go.Operand}{y:Opd}(h:nX K x=some y):Rel K ρ (fr.ev y) (a.eval x):=by
  cases x with
  |tmp t=>simp only[nX,Option.some.injEq]at h;subst h;exact hf t
  | const v=>
    simp only[nX]at h
    cases hc:nV K v with
    |none=>simp[hc]at h
    |some u=>simp only[hc,Option.map_some,Option.some.injEq]at h;subst h;exact Zrc hc
  | func f=>
    simp only[nX]at h
    cases hc:kf K f with
    |none=>simp[hc]at h
    |some u=>simp only[hc,Option.map_some,Option.some.injEq]at h;subst h;exact .f (Zeq hc).1 (Zeq hc).2 .nil
  |global g=>simp[nX]at h
theorem Zhe{fr:Fr}{a:Go.Act}(hf:FrRel K ρ fr a):∀{xs:List Go.Operand}{ys:List Opd},nXs K xs=some ys->RelL K ρ (ys.map fr.ev) (xs.map a.eval)
  |[],ys,h=>by simp only[nXs,Option.some.injEq]at h;subst h;exact .nil
  | x::l,ys,h=>by
    simp only[nXs]at h;split at h
    · rename_i v vs' h1 h2
      simp only[Option.some.injEq]at h;subst h;exact .cons (zX hf h1) (Zhe hf h2)
    · cases h
theorem Zd2{P:Program}{t:TypeId}{z:List V}(h:Zec P K t=some z):∃i zv,P.info? t=some i/\i.zero=some zv/\RelL K ρ z zv.cells.toList:=by
  unfold Zec at h;split at h
  · rename_i i hi
    split at h
    · rename_i zv hz
      exact⟨i,zv,hi,hz,Zjb h⟩
    · cases h
  · cases h

theorem Rel.inv_p{r o:Nat}{x:Value}(h:Rel K ρ (.p r o) x):∃L,ρ r=some L/\x=.pointer (some ⟨L.blk,L.off+o,none⟩):=by cases h with|p h=>exact⟨_,h,rfl⟩
theorem Rel.inv_i{k:IntKind}{n:Int}{x:Value}(h:Rel K ρ (.i k n) x):x=.int k n:=by cases h;rfl
theorem Rel.inv_b{t:Bool}{x:Value}(h:Rel K ρ (.b t) x):x=.bool t:=by cases h;rfl
theorem Rel.inv_s{t:ByteArray}{x:Value}(h:Rel K ρ (.s t) x):x=.string t:=by cases h;rfl
theorem Rel.inv_ag{cs:List V}{x:Value}(h:Rel K ρ (.ag cs) x):∃xs:Array Value,x=.agg xs/\RelL K ρ cs xs.toList:=by cases h with|ag h=>exact⟨_,rfl,h⟩
theorem Rel.inv_tu{cs:List V}{x:Value}(h:Rel K ρ (.tu cs) x):∃xs:Array Value,x=.tuple xs/\RelL K ρ cs xs.toList:=by cases h with|tu h=>exact⟨_,rfl,h⟩
theorem Rel.inv_sn{x:Value}(h:Rel K ρ .sn x):x=.slice none 0 0:=by cases h;rfl
end

/-! ### Operations -/
/-- What an operation of the model's comes to:a value,or nothing (its slot then holds what stands for nothing). -/
def ZrS(P:Program)(e:Go.Operand->Value)(o:Go.Oper)(w:World)(x:Value)(w':World):Prop :=
  (Go.execOp e o).run P w=.ok (.value x) w'\/((Go.execOp e o).run P w=.ok .skip w'/\x=Go.undef)

section ops
variable {P:Program}{K:Fid}{ρ:Rho}{w0 w:World}{h:Hp}{fr:Fr}{a:Go.Act}{nr:Nat}{v:V}{up:List (Nat×Obj)}

/-- The conclusion. -/
def Ok(P:Program)(K:Fid)(w0:World)(ρ:Rho)(h:Hp)(a:Go.Act)(o:Go.Oper)(w:World)(v:V)(up:List (Nat×Obj)):Prop :=
  ∃x w' ρ',ZrS P a.eval o w x w'/\ρ.le ρ'/\Rel K ρ' v x/\Inv K w0 ρ' (h.puts up) w'

theorem Ok.pure(hi:Inv K w0 ρ h w){o:Go.Oper}{x:Value}(hr:(Go.execOp a.eval o).run P w=.ok (.value x) w)(hv:Rel K ρ v x):Ok P K w0 ρ h a o w v [] :=
  ⟨x,w,ρ,.inl hr,Rho.le.refl _,hv,hi⟩

theorem ZcK{t:TypeId}{d:Go.TypeDesc}(h:P.underlying t=some d):(Go.isAgg t).run P w=.ok (ZbK d) w:=by
  simp only[Go.isAgg,Sem.run_bind,Go.run_underlying h,Result.andThen_ok];cases d<;>rfl
theorem ZaQ{t:TypeId}{i:Go.TypeInfo}(h:P.info? t=some i):(Go.sizeOf t).run P w=.ok i.size w:=by
  simp[Go.sizeOf,Go.typeInfo,h]
theorem Zn8{t:TypeId}{i:Go.TypeInfo}(h:P.info? t=some i):(Go.typeInfo t).run P w=.ok i w:=by
  simp[Go.typeInfo,h]
theorem Zef{t:TypeId}{i:Go.TypeInfo}{z:Value}(h:P.info? t=some i)(hz:i.zero=some z):(Go.zeroValue t).run P w=.ok z w:=by
  simp[Go.zeroValue,Go.typeInfo,h,hz]

/-- Cells read. -/
theorem Zi1{L:Loc}{xs:List Value}(hc:∀i x,xs[i]?=some x->w.cell? ⟨L.blk,L.off+i,none⟩=some x){o n:Nat}(hl:o+n<=xs.length) :
    (Go.loadCells ⟨L.blk,L.off+o,none⟩ n).run P w=.ok ((xs.drop o).take n).toArray w:=by
  have hlen:((xs.drop o).take n).length=n:=by simp;omega
  have:=Go.run_loadCells_list (P:=P) w ⟨L.blk,L.off+o,none⟩ ((xs.drop o).take n) λj x hx=>by
    rw[Zdf];have:=hc (o+j) x (by
      rw[List.getElem?_take]at hx;split at hx
      · rw[List.getElem?_drop]at hx;exact hx
      · cases hx)
    rw[show L.off+o+j=L.off+(o+j) by omega];exact this
  rw[hlen]at this;exact this

theorem ZhB{cs:List V}{xs:List Value}(hr:RelL K ρ cs xs){g:Bool}{o sz:Nat}(hp:ZbG g cs o sz=some v) :
    o+sz<=xs.length/\(g=true->Rel K ρ v (.agg ((xs.drop o).take sz).toArray))/\(g=false->∃x,xs[o]?=some x/\Rel K ρ v x):=by
  unfold ZbG at hp;split at hp
  · rename_i hl
    refine⟨by rw[<-hr.length];exact hl,?_,?_⟩
    · rintro rfl
      simp only[if_true,Option.some.injEq]at hp;subst hp;exact .ag (by simpa using hr.piece o sz)
    · rintro rfl
      simp only[Bool.false_eq_true,if_false]at hp;exact hr.get hp
  · cases hp

theorem ZsN(hi:Inv K w0 ρ h w)(hf:FrRel K ρ fr a){o:Go.Oper}{t:TypeId}{x:Go.Operand}{i:Go.TypeInfo}{d:Go.TypeDesc}{y:Opd}(ho:o.op=.load t x)(h1:P.info? t=some i)(h2:P.underlying t=some d)(h3:nX K x=some y)
    (ha:act h.m nr fr.ev (.ld (ZbK d) i.size y)=some (v,up)):Ok P K w0 ρ h a o w v up:=by
  simp only[act]at ha;have hx:=zX hf h3;split at ha
  · rename_i r p hp
    rw[hp]at hx;obtain⟨L,hL,he⟩:=hx.inv_p;split at ha
    · rename_i b cs hr
      split at ha
      · rename_i u hu
        simp only[Option.some.injEq,Prod.mk.injEq]at ha;obtain⟨rfl,rfl⟩:=ha;obtain⟨L',hL',xs,hrel,hc⟩:=hi.reads hr;rw[hL]at hL';cases hL';obtain⟨q1,q2,q3⟩:=ZhB hrel hu
        cases hd:ZbK d with
        | true=>
          refine Ok.pure hi (x:=.agg ((xs.drop p).take i.size).toArray) ?_ (q2 hd);simp only[Go.execOp,ho,Go.Instr.loadAt,he,Go.Instr.sureAddr,Go.loadVar];simp[ZcK h2,hd,ZaQ h1,Zi1 hc q1]
        | false=>
          obtain⟨y,hy,hry⟩:=q3 hd;refine Ok.pure hi (x:=y) ?_ hry;simp only[Go.execOp,ho,Go.Instr.loadAt,he,Go.Instr.sureAddr,Go.loadVar];simp[ZcK h2,hd,hc p y hy]
      · cases ha
    · cases ha
  · cases ha

/-- Cells written. -/
theorem ZhQ (hi:Inv K w0 ρ h w){r:Nat}{cs:List V}(hr:h.m r=some (.cells true cs)){L:Loc}(hL:ρ r=some L){vs:List V}{xs:List Value}(hrel:RelL K ρ vs xs)(h1:vs.all V.one=true){o:Nat}(hl:o+vs.length<=cs.length) :
    ∃w',(Go.storeCells ⟨L.blk,L.off+o,none⟩ xs).run P w=.ok () w'/\Inv K w0 ρ (h.put r (.cells true (over cs o vs))) w':=by
  obtain⟨L',hL',k2,c,e,k3,k4,k5,k6⟩:=hi.rw r cs hr;rw[hL]at hL';cases hL';have hlen:=hrel.length;have hst:=Go.run_storeCells_at P L.blk (L.off+o) e xs 0 c w k3 (by omega) (hrel.ones h1);refine⟨_,hst,hi.write hr ?_ hL k3 ?_ ?_⟩
  · simp only[over,List.length_append,List.length_take,List.length_drop];omega
  · simp only[List.size_toArray,List.length_append,List.length_take,List.length_drop,Array.length_toList];omega
  · have hov:=k6.over o hrel
    have hol:(over cs o vs).length=cs.length:=by simp only[over,List.length_append,List.length_take,List.length_drop];omega
    rw[hol];have hcl:c.toList.length=L.size:=by simpa using k4
    have e1:((List.take (L.off+o+0) c.toList++xs++List.drop (L.off+o+0+xs.length) c.toList).toArray.toList.drop L.off).take cs.length
       =((c.toList.drop L.off).take cs.length).take o++xs++((c.toList.drop L.off).take cs.length).drop (o+xs.length):=by
      apply List.ext_getElem?;intro j;simp only[Nat.add_zero,List.getElem?_take,List.getElem?_drop,List.getElem?_append,List.length_append,List.length_take,List.length_drop,hcl];by_cases hj:j<cs.length
      · by_cases c1:j<o
        · have d1:L.off+j<min (L.off+o) L.size+xs.length:=by omega
          have d2:L.off+j<min (L.off+o) L.size:=by omega
          have d3:L.off+j<L.off+o:=by omega
          have d4:j<min o (min cs.length (L.size-L.off))+xs.length:=by omega
          have d5:j<min o (min cs.length (L.size-L.off)):=by omega
          simp[hj,c1,d1,d2,d3,d4,d5]
        · by_cases c2:j<o+xs.length
          · have d1:L.off+j<min (L.off+o) L.size+xs.length:=by omega
            have d2:¬(L.off+j<min (L.off+o) L.size):=by omega
            have d4:j<min o (min cs.length (L.size-L.off))+xs.length:=by omega
            have d5:¬(j<min o (min cs.length (L.size-L.off))):=by omega
            have d6:L.off+j-min (L.off+o) L.size=j-min o (min cs.length (L.size-L.off)):=by omega
            simp[hj,d1,d2,d4,d5,d6]
          · have d1:¬(L.off+j<min (L.off+o) L.size+xs.length):=by omega
            have d4:¬(j<min o (min cs.length (L.size-L.off))+xs.length):=by omega
            have d7:L.off+o+xs.length+(L.off+j-(min (L.off+o) L.size+xs.length))=L.off+j:=by omega
            have d8:o+xs.length+(j-(min o (min cs.length (L.size-L.off))+xs.length))=j:=by omega
            simp[hj,d1,d4,d7,d8]
      · have d4:¬(j<min o (min cs.length (L.size-L.off))+xs.length):=by omega
        have d8:¬(o+xs.length+(j-(min o (min cs.length (L.size-L.off))+xs.length))<cs.length):=by omega
        simp[hj,d4,d8]
    rw[e1];exact hov

theorem Zt3(hi:Inv K w0 ρ h w)(hf:FrRel K ρ fr a){o:Go.Oper}{t:TypeId}{x y:Go.Operand}{i:Go.TypeInfo}{x' y':Opd}(ho:o.op=.store t x y)(h1:P.info? t=some i)(h2:nX K x=some x')(h3:nX K y=some y')
    (ha:act h.m nr fr.ev (.st i.size x' y')=some (v,up)):Ok P K w0 ρ h a o w v up:=by
  simp only[act]at ha;have hx:=zX hf h2;have hy:=zX hf h3;split at ha
  · rename_i r p hp
    rw[hp]at hx;obtain⟨L,hL,he⟩:=hx.inv_p;split at ha
    · rename_i cs hr
      split at ha
      · rename_i hc
        obtain⟨c1,c2,c3⟩:=hc;simp only[Option.some.injEq,Prod.mk.injEq]at ha;obtain⟨rfl,rfl⟩:=ha;have hlen:=hy.cells.length;obtain⟨w',hs,hi'⟩:=ZhQ (P:=P) hi hr hL hy.cells c3 (o:=p) (by omega);refine⟨Go.undef,w',ρ,.inr ⟨?_,rfl⟩,Rho.le.refl _,?_,hi'⟩
        · have:((a.eval y).cells.size≠i.size)=False:=by simp;rw[<-c1,hlen];simp
          simp only[Go.execOp,ho,Go.Instr.storeAt,he,Go.Instr.sureAddr,Go.storeVar];simp[ZaQ h1,this,hs]
        · exact .tu .nil
      · cases ha
    · cases ha
  · cases ha

theorem Zje(hi:Inv K w0 ρ h w)(hn:h.m nr=none){o:Go.Oper}{cs:List V}{c:Array Value}{e:TypeId}(hrel:RelL K ρ cs c.toList){x:Value}(hr:(Go.execOp a.eval o).run P w=.ok (.value x) (w.alloc (.cells c e)))
    (hv:Rel K (ρ.set nr ⟨w.heap.size,0,c.size⟩) v x):Ok P K w0 ρ h a o w v [(nr,.cells true cs)]:=by
  have hl:=hrel.length;refine⟨x,_,ρ.set nr ⟨w.heap.size,0,c.size⟩,.inl hr,Rho.le_set ((hi.dom nr).2 hn) _,hv,?_⟩;exact hi.alloc hn (by simp at hl;omega) (by rw[hl,List.take_length];exact hrel)

theorem Zeg{ρ:Rho}{nr:Nat}{L:Loc}:(ρ.set nr L) nr=some L:=by unfold Rho.set;rw[if_pos rfl]

theorem ZmA(hi:Inv K w0 ρ h w)(hn:h.m nr=none){o:Go.Oper}{e:TypeId}{z:List V}(ho:o.op=.alloc e)(hz:Zec P K e=some z)
    (ha:act h.m nr fr.ev (.alloc z)=some (v,up)):Ok P K w0 ρ h a o w v up:=by
  obtain⟨i,zv,h1,h2,h3⟩:=Zd2 (ρ:=ρ) hz;simp only[act,Option.some.injEq,Prod.mk.injEq]at ha;obtain⟨rfl,rfl⟩:=ha;refine Zje hi hn h3 (e:=e) (x:=.pointer (some ⟨w.heap.size,0,none⟩)) ?_ ?_
  · simp only[Go.execOp,ho,Go.Instr.alloc]
    simp[Zef h1 h2,Go.newVar,Go.newRow]
  · have:=Rel.p (K:=K) (ρ:=ρ.set nr ⟨w.heap.size,0,zv.cells.size⟩) (r:=nr) (o:=0) Zeg
    simpa using this

theorem Zqs(hi:Inv K w0 ρ h w)(hf:FrRel K ρ fr a)(hn:h.m nr=none){o:Go.Oper}{e:TypeId}{x:Go.Operand}{x':Opd}(ho:o.op=.box e x)(h1:nX K x=some x')
    (ha:act h.m nr fr.ev (.box x')=some (v,up)):Ok P K w0 ρ h a o w v up:=by
  have hx:=zX hf h1;simp only[act,Option.some.injEq,Prod.mk.injEq]at ha;obtain⟨rfl,rfl⟩:=ha;refine Zje hi hn hx.cells (e:=e) (x:=.pointer (some ⟨w.heap.size,0,none⟩)) ?_ ?_
  · simp only[Go.execOp,ho,Go.Instr.box]
    simp[Go.newVar,Go.newRow]
  · have:=Rel.p (K:=K) (ρ:=ρ.set nr ⟨w.heap.size,0,(a.eval x).cells.size⟩) (r:=nr) (o:=0) Zeg
    simpa using this

end ops
end Mu
