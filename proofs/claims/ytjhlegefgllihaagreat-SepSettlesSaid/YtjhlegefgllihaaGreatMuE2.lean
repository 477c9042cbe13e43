/- The evaluator and the model: how values, heaps and worlds hang together. -/
import Derived.Test.YtjhlegefgllihaaGreatMuE1
import Derived.Below
import Derived.Laws.Cells
import Derived.Laws.CopyRow
import Derived.Laws.CopyOwn
import Derived.Laws.AppendOwn
import Derived.Laws.Rows
import Derived.Orders
namespace Mu
open Go (IntKind BinOp UnOp Value World Addr TypeId)
open Go.RowKit (Below)
set_option linter.unusedVariables false

structure Loc where
 blk:Nat
 off:Nat
 size:Nat
abbrev Rho:=Nat->Option Loc
abbrev Fid:=Nat->Option Nat

mutual
inductive Rel(K:Fid)(ρ:Rho):V->Value->Prop
 |b (x:Bool):Rel K ρ (.b x) (.bool x)
 |i (k:IntKind) (n:Int):Rel K ρ (.i k n) (.int k n)
 |s (x:ByteArray):Rel K ρ (.s x) (.string x)
 |p {r o:Nat}{L:Loc}(h:ρ r=some L):Rel K ρ (.p r o) (.pointer (some ⟨L.blk,L.off+o,none⟩))
 |pn:Rel K ρ .pn (.pointer none)
 | sl {es r o len cap c:Nat}{ex:Bool}{L:Loc}{a:Addr}(h:ρ r=some L) (hl:len<=cap) (hc:cap<=c) (hx:ex=true->c=cap) (hs:0<es)
   (ha:c=0\/(a=⟨L.blk,L.off+o,none⟩/\L.off+o+c*es<=L.size)):Rel K ρ (.sl es r o len cap ex) (.slice (some a) len c)
 |sn:Rel K ρ .sn (.slice none 0 0)
 |mp {r:Nat}{L:Loc}(h:ρ r=some L):Rel K ρ (.mp r) (.map (some L.blk))
 |f {id fid:Nat}{caps:List V}{xs:Array Value}(h:K fid=some id) (hl:id<1000000) (hc:RelL K ρ caps xs.toList):Rel K ρ (.f id caps) (.func (.func fid) #[] xs)
 |fb {id fid:Nat}{caps:List V}{xs:Array Value}(h:K fid=some id) (hl:id<1000000) (hc:RelL K ρ caps xs.toList):Rel K ρ (.f (id+1000000) caps) (.func (.func fid) xs #[])
 |nf:Rel K ρ .nf .nilFunc
 |ni:Rel K ρ .ni .nilIface
 |ag {cs:List V}{xs:Array Value}(h:RelL K ρ cs xs.toList):Rel K ρ (.ag cs) (.agg xs)
 |tu {cs:List V}{xs:Array Value}(h:RelL K ρ cs xs.toList):Rel K ρ (.tu cs) (.tuple xs)
inductive RelL(K:Fid)(ρ:Rho):List V->List Value->Prop
 |nil:RelL K ρ [] []
 |cons {v:V}{x:Value}{vs:List V}{xs:List Value}(h:Rel K ρ v x) (t:RelL K ρ vs xs):RelL K ρ (v::vs) (x::xs)
end

def Rho.le(ρ ρ':Rho):Prop:=∀r L,ρ r=some L->ρ' r=some L
theorem Rho.le.refl(ρ:Rho):ρ.le ρ:=λ_ _ h=>h
theorem Rho.le.trans{a b c:Rho}(h:a.le b)(k:b.le c):a.le c:=λr L e=>k r L (h r L e)

mutual
theorem Rel.mono{K:Fid}{ρ ρ':Rho}(hr:ρ.le ρ'):∀{v:V}{x:Value},Rel K ρ v x->Rel K ρ' v x
 |_,_,.b x=>.b x
 |_,_,.i k n=>.i k n
 |_,_,.s x=>.s x
 |_,_,.p h=>.p (hr _ _ h)
 |_,_,.pn=>.pn
 |_,_,.sl h hl hc hx hs ha=>.sl (hr _ _ h) hl hc hx hs ha
 |_,_,.sn=>.sn
 |_,_,.mp h=>.mp (hr _ _ h)
 |_,_,.f h hl hc=>.f h hl (RelL.mono hr hc)
 |_,_,.fb h hl hc=>.fb h hl (RelL.mono hr hc)
 |_,_,.nf=>.nf
 |_,_,.ni=>.ni
 |_,_,.ag h=>.ag (RelL.mono hr h)
 |_,_,.tu h=>.tu (RelL.mono hr h)
theorem RelL.mono{K:Fid}{ρ ρ':Rho}(hr:ρ.le ρ'):∀{v:List V}{x:List Value},RelL K ρ v x->RelL K ρ' v x
 |_,_,.nil=>.nil
 |_,_,.cons h t=>.cons (h.mono hr) (RelL.mono hr t)
end

section
variable {K:Fid}{ρ:Rho}
theorem RelL.length{vs:List V}{xs:List Value}(h:RelL K ρ vs xs):vs.length=xs.length:=by
 induction vs generalizing xs with
 |nil=>cases h;rfl
 |cons v vs ih=>cases h with|cons _ t=>simp[ih t]
theorem RelL.get{vs:List V}{xs:List Value}(h:RelL K ρ vs xs){i:Nat}{v:V}(hv:vs[i]?=some v):∃x,xs[i]?=some x/\Rel K ρ v x:=by
 induction vs generalizing xs i with
 |nil=>simp at hv
 | cons u vs ih=>
  cases h with
  |cons h1 t=>
   cases i with
   |zero=>simp at hv;subst hv;exact⟨_,rfl,h1⟩
   |succ i=>simp at hv;simpa using ih t hv
theorem RelL.get_none{vs:List V}{xs:List Value}(h:RelL K ρ vs xs){i:Nat}(hv:vs[i]?=none):xs[i]?=none:=by
 have:=h.length;simp at hv⊢;omega
theorem RelL.of_get{vs:List V}{xs:List Value}(hl:vs.length=xs.length)(h:∀(i:Nat)(v:V)(x:Value),vs[i]?=some v->xs[i]?=some x->Rel K ρ v x):RelL K ρ vs xs:=by
 induction vs generalizing xs with
 |nil=>cases xs<;>simp_all;exact .nil
 |cons v vs ih=>
  cases xs with
  |nil=>simp at hl
  |cons x xs=>exact .cons (h 0 v x rfl rfl) (ih (by simpa using hl) λi v x h1 h2=>h (i+1) v x (by simpa using h1) (by simpa using h2))
theorem RelL.append{a b:List V}{x y:List Value}(h:RelL K ρ a x)(k:RelL K ρ b y):RelL K ρ (a++b) (x++y):=by
 induction a generalizing x with
 |nil=>cases h;exact k
 |cons v vs ih=>cases h with|cons h1 t=>exact .cons h1 (ih t)
theorem RelL.drop{a:List V}{x:List Value}(h:RelL K ρ a x)(n:Nat):RelL K ρ (a.drop n) (x.drop n):=by
 induction n generalizing a x with
 |zero=>exact h
 |succ n ih=>cases h with|nil=>exact .nil|cons h1 t=>exact ih t
theorem RelL.take{a:List V}{x:List Value}(h:RelL K ρ a x)(n:Nat):RelL K ρ (a.take n) (x.take n):=by
 induction n generalizing a x with
 |zero=>exact .nil
 |succ n ih=>cases h with|nil=>exact .nil|cons h1 t=>exact .cons h1 (ih t)
theorem RelL.piece{a:List V}{x:List Value}(h:RelL K ρ a x)(o n:Nat):RelL K ρ (piece a o n) ((x.drop o).take n):=(h.drop o).take n
theorem RelL.over{a:List V}{x:List Value}{b:List V}{y:List Value}(h:RelL K ρ a x)(o:Nat)(k:RelL K ρ b y):RelL K ρ (over a o b) (x.take o++y++x.drop (o+y.length)):=by
 unfold Mu.over;rw[k.length];exact((h.take o).append k).append (h.drop _)
theorem RelL.replicate{a:List V}{x:List Value}(h:RelL K ρ a x)(n:Nat):RelL K ρ (List.replicate n a).flatten (List.replicate n x).flatten:=by
 induction n with
 |zero=>exact .nil
 |succ n ih=>simp only[List.replicate_succ,List.flatten_cons];exact h.append ih
theorem Rel.cells{v:V}{x:Value}(h:Rel K ρ v x):RelL K ρ v.cells x.cells.toList:=by
 cases h with
 |ag h=>exact h
 |b x=>exact .cons (.b x) .nil
 |i k n=>exact .cons (.i k n) .nil
 |s x=>exact .cons (.s x) .nil
 |p h=>exact .cons (.p h) .nil
 |pn=>exact .cons .pn .nil
 |sl h1 h2 h3 h4 h5 h6=>exact .cons (.sl h1 h2 h3 h4 h5 h6) .nil
 |sn=>exact .cons .sn .nil
 |mp h=>exact .cons (.mp h) .nil
 |f h hl k=>exact .cons (.f h hl k) .nil
 |fb h hl k=>exact .cons (.fb h hl k) .nil
 |nf=>exact .cons .nf .nil
 |ni=>exact .cons .ni .nil
 |tu h=>exact .cons (.tu h) .nil
theorem Rel.one{v:V}{x:Value}(h:Rel K ρ v x):v.one=x.oneCell':=by cases h<;>rfl
theorem RelL.ones{vs:List V}{xs:List Value}(h:RelL K ρ vs xs)(hv:vs.all V.one=true):∀x∈xs,x.oneCell'=true:=by
 induction vs generalizing xs with
 |nil=>cases h;simp
 | cons v vs ih=>
  cases h with
  |cons h1 t=>
   simp only[List.all_cons,Bool.and_eq_true]at hv;intro x hx;rcases List.mem_cons.1 hx with rfl|hx
   .rw[<-h1.one];exact hv.1
   .exact ih t hv.2 x hx
end

structure Inv(K:Fid)(w0:World)(ρ:Rho)(h:Hp)(w:World):Prop where
 below:Below w0.heap.size w0 w
 dom:∀r,ρ r=none↔h.m r=none
 ro:∀r cs,h.m r=some (.cells false cs)->∃L,ρ r=some L/\L.blk<w0.heap.size/\∀i v,cs[i]?=some v->∃x,w.cell? ⟨L.blk,L.off+i,none⟩=some x/\Rel K ρ v x
 rw:∀r cs,h.m r=some (.cells true cs)->∃L,ρ r=some L/\w0.heap.size<=L.blk/\∃c e,w.heap[L.blk]?=some (.cells c e (0,0))/\c.size=L.size/\L.off+cs.length<=L.size/\RelL K ρ cs ((c.toList.drop L.off).take cs.length)
 mp:∀r es,h.m r=some (.mp es)->∃L,ρ r=some L/\w0.heap.size<=L.blk/\∃xs clock,w.heap[L.blk]?=some (.map xs clock)/\RelL K ρ (es.map (·.1)) (xs.toList.map (·.key))/\RelL K ρ (es.map (·.2)) (xs.toList.map (·.val))
 inj:∀r r' L L',ρ r=some L->ρ r'=some L'->(∃cs,h.m r=some (.cells true cs))\/(∃es,h.m r=some (.mp es))->(∃cs,h.m r'=some (.cells true cs))\/(∃es,h.m r'=some (.mp es))->L.blk=L'.blk->r=r'

def FrRel(K:Fid)(ρ:Rho)(fr:Fr)(a:Go.Act):Prop:=∀t,Rel K ρ (fr t) (a.tmps.getD t Go.undef)

theorem FrRel.mono{K:Fid}{ρ ρ':Rho}{fr:Fr}{a:Go.Act}(h:FrRel K ρ fr a)(hr:ρ.le ρ'):FrRel K ρ' fr a:=λt=>(h t).mono hr

theorem FrRel.put{K:Fid}{ρ:Rho}{fr:Fr}{a:Go.Act}(h:FrRel K ρ fr a){d:Option Nat}(hd:∀k,d=some k->k<a.tmps.size){v:V}{x:Value}(hv:Rel K ρ v x):FrRel K ρ (fr.put d v) (a.put d x):=by
 intro t
 cases d with
 |none=>exact h t
 |some k=>
  simp only[Fr.put,Fr.set,Go.Act.put];by_cases ht:t=k
  .subst ht;have:=hd t rfl;simp[this,Array.getD_eq_getD_getElem?];exact hv
  .rw[if_neg ht];have:=h t;simp only[Array.getD_eq_getD_getElem?]at this⊢;rw[Array.getElem?_setIfInBounds_ne (by omega)];exact this

theorem Inv.reads{K:Fid}{w0 w:World}{ρ:Rho}{h:Hp}(hi:Inv K w0 ρ h w){r:Nat}{rw:Bool}{cs:List V}(hr:h.m r=some (.cells rw cs)) :
  ∃L,ρ r=some L/\∃xs:List Value,RelL K ρ cs xs/\∀i x,xs[i]?=some x->w.cell? ⟨L.blk,L.off+i,none⟩=some x:=by
 cases rw with
 | false=>
  obtain⟨L,hL,_,hc⟩:=hi.ro r cs hr;refine⟨L,hL,(List.range cs.length).map λi=>(w.cell? ⟨L.blk,L.off+i,none⟩).getD Go.undef,?_,?_⟩
  .refine RelL.of_get (by simp) λi v x h1 h2=>?_;obtain⟨y,hy,hry⟩:=hc i v h1;have hlt:i<cs.length:=(List.getElem?_eq_some_iff.1 h1).1;simp[hlt]at h2;rw[hy]at h2;simp at h2;exact h2▸hry
  .intro i x h2;have hlt:i<cs.length:=by
    rcases Nat.lt_or_ge i cs.length with g|g
    .exact g
    .rw[List.getElem?_eq_none (by simpa using g)]at h2;cases h2
   obtain⟨y,hy,hry⟩:=hc i cs[i] (by simp[hlt]);simp[hlt,hy]at h2;rw[hy,h2]
 |true=>
  obtain⟨L,hL,_,c,e,hb,hs,hl,hrel⟩:=hi.rw r cs hr;refine⟨L,hL,_,hrel,?_⟩;intro i x hx;rw[List.getElem?_take]at hx;split at hx
  .rw[List.getElem?_drop]at hx;rw[Go.cell_of_row w L.blk _ c e (0,0) hb];simpa using hx
  .cases hx

theorem Zdf(b o j:Nat):(⟨b,o,none⟩:Addr).add j=⟨b,o+j,none⟩:=by unfold Addr.add;split<;>simp_all

theorem Inv.drew{K:Fid}{w0 w:World}{ρ:Rho}{h:Hp}(hi:Inv K w0 ρ h w):Inv K w0 ρ h w.drew :=
 ⟨hi.below.drew,hi.dom,hi.ro,hi.rw,hi.mp,hi.inj⟩

theorem ZcD{w:World}{g:Nat}{o:Go.Obj}(h:w.heap[g]?=some o):g<w.heap.size:=(Array.getElem?_eq_some_iff.1 h).1

theorem Inv.bump{K:Fid}{w0 w:World}{ρ:Rho}{h:Hp}(hi:Inv K w0 ρ h w)(k:Nat):Inv K w0 ρ (h.bump k) w :=
 ⟨hi.below,hi.dom,hi.ro,hi.rw,hi.mp,hi.inj⟩

def Rho.set(ρ:Rho)(r:Nat)(L:Loc):Rho:=λq=>if q=r then some L else ρ q
theorem Rho.le_set{ρ:Rho}{r:Nat}(h:ρ r=none)(L:Loc):ρ.le (ρ.set r L):=by
 intro q M hq;unfold Rho.set;rw[if_neg]
 .exact hq
 .intro e;rw[e,h]at hq;cases hq

theorem Inv.size{K:Fid}{w0 w:World}{ρ:Rho}{h:Hp}(hi:Inv K w0 ρ h w):w0.heap.size<=w.heap.size:=hi.below.size

theorem Inv.alloc{K:Fid}{w0 w:World}{ρ:Rho}{h:Hp}(hi:Inv K w0 ρ h w){nr:Nat}(hn:h.m nr=none){cs:List V}{c:Array Value}{e:TypeId}(hl:cs.length<=c.size)(hrel:RelL K ρ cs (c.toList.take cs.length)) :
  Inv K w0 (ρ.set nr ⟨w.heap.size,0,c.size⟩) (h.put nr (.cells true cs)) (w.alloc (.cells c e)):=by
 have hρ:ρ nr=none:=(hi.dom nr).2 hn;have hle:=Rho.le_set hρ ⟨w.heap.size,0,c.size⟩;have hne:∀r o,h.m r=some o->r≠nr:=λr o hr e=>by rw[e,hn]at hr;cases hr
 have hput:∀r,r≠nr->(h.put nr (.cells true cs)).m r=h.m r:=λr hr=>by rw[Hp.put_m,if_neg hr]
 have hset:∀r,r≠nr->(ρ.set nr ⟨w.heap.size,0,c.size⟩) r=ρ r:=λr hr=>by unfold Rho.set;rw[if_neg hr]
 have hnew:(h.put nr (.cells true cs)).m nr=some (.cells true cs):=by rw[Hp.put_m,if_pos rfl]
 have hsn:(ρ.set nr ⟨w.heap.size,0,c.size⟩) nr=some ⟨w.heap.size,0,c.size⟩:=by unfold Rho.set;rw[if_pos rfl]
 refine⟨hi.below.alloc hi.size _,λr=>?_,λr ds hr=>?_,λr ds hr=>?_,λr es hr=>?_,λr r' L L' h1 h2 h3 h4 h5=>?_⟩
 .by_cases hr:r=nr
  .subst hr;simp[hnew,hsn]
  .rw[hput r hr,hset r hr];exact hi.dom r
 .by_cases hq:r=nr
  .subst hq;rw[hnew]at hr;cases hr
  .rw[hput r hq]at hr;obtain⟨L,g1,g2,g3⟩:=hi.ro r ds hr;refine⟨L,hle _ _ g1,g2,λi v hv=>?_⟩;obtain⟨x,hx,hxr⟩:=g3 i v hv;exact⟨x,(World.cell?_alloc_lt w _ ⟨L.blk,L.off+i,none⟩ (by show L.blk<_;have:=hi.size;omega)).trans hx,hxr.mono hle⟩
 .by_cases hq:r=nr
  .subst hq;rw[hnew]at hr;simp only[Option.some.injEq,Obj.cells.injEq,true_and]at hr;subst hr;refine⟨_,hsn,hi.size,c,e,Go.heap_alloc_new w _,rfl,by simpa using hl,?_⟩;simpa using hrel.mono hle
  .rw[hput r hq]at hr;obtain⟨L,g1,g2,d,e',g3,g4,g5,g6⟩:=hi.rw r ds hr;exact⟨L,hle _ _ g1,g2,d,e',by rw[Go.heap_alloc_old w _ _ (ZcD g3)];exact g3,g4,g5,g6.mono hle⟩
 .by_cases hq:r=nr
  .subst hq;rw[hnew]at hr;cases hr
  .rw[hput r hq]at hr;obtain⟨L,g1,g2,xs,cl,g3,g4,g5⟩:=hi.mp r es hr;exact⟨L,hle _ _ g1,g2,xs,cl,by rw[Go.heap_alloc_old w _ _ (ZcD g3)];exact g3,g4.mono hle,g5.mono hle⟩
 ·-- blocks of what is live lie in the old world
  have old:∀q M,q≠nr->(ρ.set nr ⟨w.heap.size,0,c.size⟩) q=some M->((∃cs',(h.put nr (.cells true cs)).m q=some (.cells true cs'))\/∃es,(h.put nr (.cells true cs)).m q=some (.mp es))->M.blk<w.heap.size:=by
   intro q M hq h1 h2;rw[hput q hq]at h2;rw[hset q hq]at h1;rcases h2 with⟨ds,h2⟩|⟨es,h2⟩
   .obtain⟨L,g1,_,d,e',g3,_⟩:=hi.rw q ds h2;rw[h1]at g1;cases g1;exact ZcD g3
   .obtain⟨L,g1,_,d,e',g3,_⟩:=hi.mp q es h2;rw[h1]at g1;cases g1;exact ZcD g3
  by_cases hq:r=nr
  .by_cases hq':r'=nr
   .rw[hq,hq']
   .have:=old r' L' hq' h2 h4;rw[hq,hsn]at h1;cases h1;simp at h5;omega
  .by_cases hq':r'=nr
   .have:=old r L hq h1 h3;rw[hq',hsn]at h2;cases h2;simp at h5;omega
   .rw[hput r hq]at h3;rw[hput r' hq']at h4;rw[hset r hq]at h1;rw[hset r' hq']at h2;exact hi.inj r r' L L' h1 h2 h3 h4 h5

theorem Inv.write{K:Fid}{w0 w:World}{ρ:Rho}{h:Hp}(hi:Inv K w0 ρ h w){r:Nat}{cs ds:List V}(hr:h.m r=some (.cells true cs))(hl:ds.length=cs.length){L:Loc}(hL:ρ r=some L)
  {c d:Array Value}{e:TypeId}(hb:w.heap[L.blk]?=some (.cells c e (0,0)))(hd:d.size=c.size)(hrel:RelL K ρ ds ((d.toList.drop L.off).take ds.length)) :
  Inv K w0 ρ (h.put r (.cells true ds)) (w.setRow L.blk d):=by
 obtain⟨L0,k1,k2,c0,e0,k3,k4,k5,k6⟩:=hi.rw r cs hr;rw[hL]at k1;cases k1;rw[hb]at k3;simp only[Option.some.injEq,Go.Obj.cells.injEq]at k3;obtain⟨rfl,rfl,_⟩:=k3;have hput:∀q,q≠r->(h.put r (.cells true ds)).m q=h.m q:=λq hq=>by rw[Hp.put_m,if_neg hq]
 have hnew:(h.put r (.cells true ds)).m r=some (.cells true ds):=by rw[Hp.put_m,if_pos rfl]
 have act:∀q,((∃cs',(h.put r (.cells true ds)).m q=some (.cells true cs'))\/∃es,(h.put r (.cells true ds)).m q=some (.mp es))->((∃cs',h.m q=some (.cells true cs'))\/∃es,h.m q=some (.mp es)):=by
  intro q hq;by_cases e:q=r
  .subst e;exact .inl ⟨cs,hr⟩
  .rw[hput q e]at hq;exact hq
 refine⟨?_,λq=>?_,λq ds' hq=>?_,λq ds' hq=>?_,λq es hq=>?_,λq q' M M' h1 h2 h3 h4 h5=>hi.inj q q' M M' h1 h2 (act q h3) (act q' h4) h5⟩
 .exact Go.below_setRow hi.below k2 d
 .by_cases e:q=r
  .subst e;simp[hnew,hL]
  .rw[hput q e];exact hi.dom q
 .have e:q≠r:=λe=>by subst e;rw[hnew]at hq;cases hq
  rw[hput q e]at hq;obtain⟨M,g1,g2,g3⟩:=hi.ro q ds' hq;refine⟨M,g1,g2,λi v hv=>?_⟩;obtain⟨x,hx,hxr⟩:=g3 i v hv;refine⟨x,?_,hxr⟩;rw[World.cell?_of_block (w:=w) (Go.setRow_other w L.blk M.blk d (by omega))];exact hx
 .by_cases e':q=r
  .subst e';rw[hnew]at hq;simp only[Option.some.injEq,Obj.cells.injEq,true_and]at hq;subst hq;exact⟨L,hL,k2,d,e,Go.setRow_heap w L.blk c d e _ hb,by rw[hd,k4],by rw[hl];exact k5,hrel⟩
  .rw[hput q e']at hq;obtain⟨M,g1,g2,d',e'',g3,g4,g5,g6⟩:=hi.rw q ds' hq;refine⟨M,g1,g2,d',e'',?_,g4,g5,g6⟩;rw[Go.setRow_other w L.blk M.blk d λeb=>e' (hi.inj q r M L g1 hL (.inl ⟨_,hq⟩) (.inl ⟨_,hr⟩) eb)];exact g3
 .have e':q≠r:=λe=>by subst e;rw[hnew]at hq;cases hq
  rw[hput q e']at hq;obtain⟨M,g1,g2,xs,cl,g3,g4,g5⟩:=hi.mp q es hq;refine⟨M,g1,g2,xs,cl,?_,g4,g5⟩;rw[Go.setRow_other w L.blk M.blk d λeb=>e' (hi.inj q r M L g1 hL (.inr ⟨_,hq⟩) (.inl ⟨_,hr⟩) eb)];exact g3

theorem Inv.kill{K:Fid}{w0 w:World}{ρ:Rho}{h:Hp}(hi:Inv K w0 ρ h w){r:Nat}(hr:h.m r≠none):Inv K w0 ρ (h.put r .dead) w:=by
 have hput:∀q,q≠r->(h.put r .dead).m q=h.m q:=λq hq=>by rw[Hp.put_m,if_neg hq]
 have hnew:(h.put r .dead).m r=some .dead:=by rw[Hp.put_m,if_pos rfl]
 have ne:∀{q o},(h.put r .dead).m q=some o->o≠.dead->q≠r:=λhq ho e=>by subst e;rw[hnew]at hq;cases hq;exact ho rfl
 refine⟨hi.below,λq=>?_,λq ds' hq=>?_,λq ds' hq=>?_,λq es hq=>?_,λq q' M M' h1 h2 h3 h4 h5=>?_⟩
 .by_cases e:q=r
  .subst e;simp only[hnew,reduceCtorEq,iff_false];exact λe=>hr ((hi.dom q).1 e)
  .rw[hput q e];exact hi.dom q
 .rw[hput q (ne hq (by simp))]at hq;exact hi.ro q _ hq
 .rw[hput q (ne hq (by simp))]at hq;exact hi.rw q _ hq
 .rw[hput q (ne hq (by simp))]at hq;exact hi.mp q _ hq
 .have act:∀q,((∃cs',(h.put r .dead).m q=some (.cells true cs'))\/∃es,(h.put r .dead).m q=some (.mp es))->((∃cs',h.m q=some (.cells true cs'))\/∃es,h.m q=some (.mp es)):=by
   intro q hq;rcases hq with⟨cs,hq⟩|⟨es,hq⟩
   .rw[hput q (ne hq (by simp))]at hq;exact .inl ⟨_,hq⟩
   .rw[hput q (ne hq (by simp))]at hq;exact .inr ⟨_,hq⟩
  exact hi.inj q q' M M' h1 h2 (act q h3) (act q' h4) h5

end Mu
