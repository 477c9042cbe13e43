/- The evaluator and the model: an order that is Zep; code; calls. -/
import Derived.Test.YtjhlegefgllihaaGreatMuE9
namespace Mu
open Go (IntKind BinOp UnOp Value World Addr TypeId Program Sem Result Next)
open Go.RowKit (Below)
set_option linter.unusedVariables false

/-! ### What stands ahead -/
def Zd6(acc:List Nat)(o:Go.Oper):Nat :=
 o.after.toList.foldl (λs e=>if Go.Region.binds .any e=true then(s ||| 2^e.on) ||| acc.getD e.on 0 else s) 0

theorem ZgB{acc:List Nat}{b:Nat}:∀{es:List Go.Edge}{s:Nat},(es.foldl (λs e=>if Go.Region.binds .any e=true then(s ||| 2^e.on) ||| acc.getD e.on 0 else s) s).testBit b=true->
  s.testBit b=true\/∃e∈es,Go.Region.binds .any e=true/\(b=e.on\/(acc.getD e.on 0).testBit b=true)
 |[],s,h=>.inl h
 | e::es,s,h=>by
  simp only[List.foldl_cons]at h;rcases ZgB h with h|⟨e',he',h⟩
  .split at h
   .rename_i hb;simp only[Nat.testBit_or,Bool.or_eq_true,Nat.testBit_two_pow,decide_eq_true_eq]at h;rcases h with(h|h)|h
    .exact .inl h
    .exact .inr ⟨e,by simp,hb,.inl h.symm⟩
    .exact .inr ⟨e,by simp,hb,.inr h⟩
   .exact .inl h
  .exact .inr ⟨e',by simp[he'],h⟩

theorem ZgC:∀(l:List Go.Oper)(acc:List Nat),∃r,ZeX acc l=acc++r
 |[],acc=>⟨[],by simp[ZeX]⟩
 |o::l,acc=>by
  obtain⟨r,hr⟩:=ZgC l (acc++[Zd6 acc o]);exact⟨Zd6 acc o::r,by simp only[ZeX];rw[show(o.after.toList.foldl (λs e=>if Go.Region.binds .any e=true then(s ||| 2^e.on) ||| acc.getD e.on 0 else s) 0)=Zd6 acc o from rfl,hr];simp⟩

theorem Zig:∀(l:List Go.Oper)(acc:List Nat)(j b:Nat),acc.length<=j->((ZeX acc l).getD j 0).testBit b=true->
  ∃o,l[j-acc.length]?=some o/\∃e∈o.after.toList,Go.Region.binds .any e=true/\(b=e.on\/((ZeX acc l).getD e.on 0).testBit b=true)
 |[],acc,j,b,hj,h=>by
  simp only[ZeX,List.getD_eq_getElem?_getD,List.getElem?_eq_none hj,Option.getD_none,Nat.zero_testBit,Bool.false_eq_true]at h
 | o::l,acc,j,b,hj,h=>by
  have hstep:ZeX acc (o::l)=ZeX (acc++[Zd6 acc o]) l:=rfl;rw[hstep]at h⊢;by_cases hj':j=acc.length
  .subst hj';obtain⟨r,hr⟩:=ZgC l (acc++[Zd6 acc o]);have hget:(ZeX (acc++[Zd6 acc o]) l).getD acc.length 0=Zd6 acc o:=by
    rw[hr];simp[List.getD_eq_getElem?_getD]
   rw[hget]at h;refine⟨o,by simp,?_⟩;rcases ZgB h with h|⟨e,he,hb,h⟩
   .simp at h
   .refine⟨e,he,hb,?_⟩;rcases h with h|h
    .exact .inl h
    .refine .inr ?_;rw[hr];rcases Nat.lt_or_ge e.on acc.length with g|g
     .have:(acc++[Zd6 acc o]++r).getD e.on 0=acc.getD e.on 0:=by
       simp[List.getD_eq_getElem?_getD,List.getElem?_append_left g]
      rw[this];exact h
     .rw[List.getD_eq_getElem?_getD,List.getElem?_eq_none g]at h;simp at h
  .obtain⟨o',h1,h2⟩:=Zig l (acc++[Zd6 acc o]) j b (by simp;omega) h;refine⟨o',?_,h2⟩;rw[show j-acc.length=(j-(acc++[Zd6 acc o]).length)+1 by simp;omega];simpa using h1

theorem ZhV{bs:List Nat}{n i j:Nat}:(i,j)∈Zd1 bs n↔j<n/\i<j/\(bs.getD j 0).testBit i=false:=by
 simp only[Zd1,List.mem_flatMap,List.mem_range,List.mem_map,List.mem_filter,Bool.not_eq_true',Prod.mk.injEq];constructor
 .rintro⟨j',h1,i',⟨h2,h3⟩,rfl,rfl⟩;exact⟨h1,h2,h3⟩
 .rintro⟨h1,h2,h3⟩;exact⟨j,h1,i,⟨h2,h3⟩,rfl,rfl⟩

def Pcx(fp:List (Nat×Nat))(ts:List (Nat×Tr)):Prop:=∀x∈ts,∀y∈ts,x.1<y.1->(x.1,y.1)∈fp->x.2.apart y.2

theorem ZdX{call:Zbu}{base:Nat}:∀{l:List (Nat×Oper)}{fr fr':Fr}{h h':Hp}{ts:List (Nat×Tr)},zB call base l fr h=some (fr',h',ts)->
  ∀q∈ts,∃o fr1 h1 v h2,(q.1,o)∈l/\Zav call (base+q.1) o fr1 h1=some (v,h2,q.2)
 |[],fr,fr',h,h',ts,he,q,hq=>by
  simp only[zB,Option.some.injEq,Prod.mk.injEq]at he;obtain⟨_,_,rfl⟩:=he;simp at hq
 | (j,o)::l,fr,fr',h,h',ts,he,q,hq=>by
  simp only[zB]at he;split at he
  .rename_i v h1 t hs;split at he
   .rename_i fr2 h2 ts2 hr;simp only[Option.some.injEq,Prod.mk.injEq]at he;obtain⟨rfl,rfl,rfl⟩:=he;rcases List.mem_cons.1 hq with rfl|hq
    .exact⟨o,fr,h,v,h1,by simp,hs⟩
    .obtain⟨o',a,b,c,d,e,f⟩:=ZdX hr q hq;exact⟨o',a,b,c,d,by simp[e],f⟩
   .cases he
  .cases he

theorem Zew{α:Type}:∀{ts:List (Nat×α)}{q:Nat×α},(ts.map (·.1)).Nodup->q∈ts->ts.lookup q.1=some q.2
 |[],q,_,h=>by simp at h
 | (j,t)::ts,q,hn,h=>by
  simp only[List.map_cons,List.nodup_cons]at hn;rcases List.mem_cons.1 h with rfl|h
  .simp[List.lookup]
  .have:q.1≠j:=λe=>hn.1 (e▸List.mem_map.2 ⟨q,h,rfl⟩);have hb:(q.1==j)=false:=by simpa using this
   simp only[List.lookup,hb];exact Zew hn.2 h

section
variable {P:Program}{K:Fid}{w0:World}{N:Prog}

theorem ZfC{ops:Array Go.Oper}{n:Nat}:∀{l:List Go.Oper}{xs:List Oper},Zex P K ops n l=some xs->l.length=xs.length/\∀(j:Nat)(o:Go.Oper)(x:Oper),l[j]?=some o->xs[j]?=some x->ZgG P K ops n o=some x
 |[],xs,h=>by simp only[Zex,Option.some.injEq]at h;subst h;exact⟨rfl,by simp⟩
 | o::l,xs,h=>by
  simp only[Zex]at h;split at h
  .rename_i x xs' h1 h2;simp only[Option.some.injEq]at h;subst h;obtain⟨r1,r2⟩:=ZfC h2;refine⟨by simp[r1],λj o' x' ho hx=>?_⟩
   cases j with
   |zero=>simp at ho hx;subst ho hx;exact h1
   |succ j=>exact r2 j o' x' (by simpa using ho) (by simpa using hx)
  .cases h

theorem Zqo{call:Zbu}(hc:Zgq P K w0 call)(hmo:Zhh call)(hm:Match P K N){n:Nat}{ops:Array Go.Oper}{xs:List Oper}(hxs:Zex P K ops n ops.toList=some xs)(hed:ZgY ops.toList=true)
  (hfp:∀(i j:Nat)(x y:Oper),(i,j)∈Zd1 (ZeX [] ops.toList) xs.length->xs[i]?=some x->xs[j]?=some y->Zgt x y=true){base:Nat}{Q:Go.Exit->Go.Act->World->Prop} :
  ∀(k:Nat)(L:List (Nat×Oper))(listed:Array Bool),L.length=k->(∀q∈L,xs[q.1]?=some q.2)->(L.map (·.1)).Pairwise (· < ·)->listed.size=ops.size->(∀i,i<ops.size->(listed.getD i true=false↔i∈L.map (·.1)))->
   (∀i,i<ops.size->listed.getD i true=true->∀b,((ZeX [] ops.toList).getD i 0).testBit b=true->listed.getD b false=true)->
   ∀{ρ:Rho}{fr fr':Fr}{h h':Hp}{a:Go.Act}{w:World}{ts:List (Nat×Tr)},St K w0 n ρ fr h a w->zB call base L fr h=some (fr',h',ts)->Pcx (Zd1 (ZeX [] ops.toList) xs.length) ts->
   (∀q∈L,h.m (base+q.1)=none/\base+q.1<h.n)->
   (∀ρ' a' w',ρ.le ρ'->St K w0 n ρ' fr' h' a' w'->Q .normal a' w')->Go.wpAny P .any ops Q k listed a w:=by
 obtain⟨hlen,hget⟩:=ZfC hxs;have hlen':xs.length=ops.size:=by rw[<-hlen];simp
 intro k
 induction k with
 |zero=>
  intro L listed hL hLx hsort hsz hli hcl ρ fr fr' h h' a w ts hst he hpc hres hq;have:L=[]:=List.eq_nil_of_length_eq_zero hL;subst this;simp only[zB,Option.some.injEq,Prod.mk.injEq]at he;obtain⟨rfl,rfl,rfl⟩:=he;refine⟨?_,hq ρ a w (Rho.le.refl _) hst⟩;unfold Go.Region.ready;rw[List.filter_eq_nil_iff];intro i hi;have hlt:i<ops.size:=by simpa using hi
  have:=(hli i hlt);simp only[List.map_nil,List.not_mem_nil,iff_false,Bool.not_eq_false]at this;simp[this]
 | succ k ih=>
  intro L listed hL hLx hsort hsz hli hcl ρ fr fr' h h' a w ts hst he hpc hres hq;have hLlt:∀q∈L,q.1<ops.size:=λq hq'=>by
   have:=(List.getElem?_eq_some_iff.1 (hLx q hq')).1;omega
  refine⟨?_,?_⟩
  ·-- the first of them is ready
   intro hr;exfalso
   cases L with
   |nil=>simp at hL
   | cons q L'=>
    have hq1:=hLlt q (by simp);have hmem:q.1∈Go.Region.ready .any ops listed:=by
     unfold Go.Region.ready;rw[List.mem_filter];refine⟨by simpa using hq1,?_⟩;have hnl:listed.getD q.1 true=false:=(hli q.1 hq1).2 (by simp);have ho:ops[q.1]?=some ops[q.1]:=by simp[hq1]
     simp only[hnl,Bool.not_false,Bool.true_and,ho,Option.map_some,Option.getD_some];rw[Array.all_eq_true_iff_forall_mem];intro e hee
     cases hb:Go.Region.binds .any e with
     |false=>rfl
     | true=>
      have hlt:e.on<q.1:=by
       unfold ZgY at hed;rw[List.all_eq_true]at hed;have:=hed (ops[q.1],q.1) (by
        rw[List.mem_iff_getElem?];exact⟨q.1,by simp[List.getElem?_zipIdx,ho]⟩)
       rw[List.all_eq_true]at this;have:=this e (by simpa using hee);simpa[hb]using this
      have:listed.getD e.on true=true:=by
       rw[<-Bool.not_eq_false];intro hf;have:=(hli e.on (by omega)).1 hf;simp only[List.map_cons,List.mem_cons]at this;rcases this with this|this
       .omega
       .simp only[List.map_cons,List.pairwise_cons]at hsort;have:=hsort.1 _ this;omega
      have hsome:listed.getD e.on false=true:=by
       have hlt2:e.on<listed.size:=by omega
       simp only[Array.getD_eq_getD_getElem?]at this⊢;simpa[hlt2]using this
      simp[hsome]
    rw[hr]at hmem;simp at hmem
  .intro i hi;have hi':=hi;unfold Go.Region.ready at hi;rw[List.mem_filter]at hi;obtain⟨hi1,hi2⟩:=hi;have hlt:i<ops.size:=by simpa using hi1
   simp only[Bool.and_eq_true,Bool.not_eq_true']at hi2;obtain⟨hnl,hed2⟩:=hi2;have hiL:=(hli i hlt).1 hnl;obtain⟨q,hqL,hqi⟩:=List.mem_map.1 hiL;obtain⟨L1,L2,rfl⟩:=List.append_of_mem hqL;obtain⟨i',x⟩:=q;simp only at hqi;subst hqi;have ho:ops[i']?=some ops[i']:=by simp[hlt]
   have hxi:xs[i']?=some x:=hLx (i',x) (by simp);have hnx:ZgG P K ops n ops[i']=some x:=hget i' _ x (by simp[hlt]) hxi
   -- what stands ahead of it is listed
   have hbl:∀b,((ZeX [] ops.toList).getD i' 0).testBit b=true->listed.getD b false=true:=by
    intro b hb;obtain⟨o,h1,e,h2,h3,h4⟩:=Zig ops.toList [] i' b (Nat.zero_le _) hb;have hoe:o=ops[i']:=by
     simp[hlt]at h1;exact h1.symm
    subst hoe;simp only[ho,Option.map_some,Option.getD_some]at hed2;have hel:=(Array.all_eq_true_iff_forall_mem.1 hed2) e (by simpa using h2);simp only[h3,Bool.not_true,Bool.false_or]at hel;rcases h4 with rfl|h4
    .exact hel
    .have helt:e.on<ops.size:=by
      rcases Nat.lt_or_ge e.on listed.size with g|g
      .omega
      .simp only[Array.getD_eq_getD_getElem?]at hel;rw[Array.getElem?_eq_none g]at hel;simp at hel
     refine hcl e.on helt ?_ b h4;simp only[Array.getD_eq_getD_getElem?]at hel⊢;have:e.on<listed.size:=by omega
     simpa[this]using hel
   have hsort':=hsort;rw[List.map_append,List.pairwise_append]at hsort;obtain⟨so1,so2,so3⟩:=hsort;simp only[List.map_cons,List.pairwise_cons]at so2
   -- those ahead of it in the text that are still to come may follow it
   have hfree:∀q∈L1,(q.1,i')∈Zd1 (ZeX [] ops.toList) xs.length/\q.1<i':=by
    intro q hq';have hqi:q.1<i':=so3 q.1 (List.mem_map.2 ⟨q,hq',rfl⟩) i' (by simp);refine⟨ZhV.2 ⟨by omega,hqi,?_⟩,hqi⟩;rw[Bool.eq_false_iff];intro hb;have h1:=hbl _ hb;have h2:=(hli q.1 (by omega)).2 (List.mem_map.2 ⟨q,by simp[hq'],rfl⟩);simp only[Array.getD_eq_getD_getElem?]at h1 h2;have:q.1<listed.size:=by omega
    simp[this]at h1 h2;rw[h1]at h2;cases h2
   have hidx:=ZeL he;obtain⟨t1,t,ts2,e1,e2,e3⟩:=move hmo he (λq hq'=>⟨hfp q.1 i' q.2 x (hfree q hq').1 (hLx q (by simp[hq'])) hxi,by have:=(hfree q hq').2;omega⟩) (hres (i',x) (by simp))
    (λt1 t ts2 e1 e2 q hq'=>by
     have hm1:t1.map (·.1)=L1.map (·.1):=by
      rw[e1,List.map_append,List.map_append]at hidx;exact(List.append_inj hidx (by simp[e2])).1
     have:q.1∈L1.map (·.1):=by rw[<-hm1];exact List.mem_map.2 ⟨q,hq',rfl⟩
     obtain⟨q',hq'',hqe⟩:=List.mem_map.1 this;have:=hfree q' hq'';rw[hqe]at this;exact hpc q (by rw[e1];simp[hq']) (i',t) (by rw[e1];simp) this.2 this.1)
   subst e1;simp only[zB]at e3;split at e3
   .rename_i v h1 t' hs1;split at e3
    .rename_i fr2 h2 ts3 hr;simp only[Option.some.injEq,Prod.mk.injEq,List.cons.injEq,true_and]at e3;obtain⟨rfl,rfl,rfl,rfl⟩:=e3;refine ZlA hc hm ho hnx hst.inv hst.fr hst.size hst.defers (hres (i',x) (by simp)).1 hs1 ?_;intro a' w' ρ' hle hf' hi'' hs' hd';refine ih (L1++L2) (listed.setIfInBounds i' true) (by simp at hL⊢;omega) (λq hq'=>hLx q (by simp at hq'⊢;rcases hq' with h|h<;>simp[h])) ?_ (by simpa using hsz) ?_ ?_ ⟨hf',hi'',hs',hd'⟩ hr ?_ ?_ ?_
     .rw[List.map_append,List.pairwise_append];refine⟨so1,so2.2,λx hx y hy=>so3 x hx y (by simp only[List.map_cons,List.mem_cons];exact .inr hy)⟩
     .intro j hj;by_cases hji:j=i'
      .subst hji;have:j<listed.size:=by omega
       have hno:j∉(L1++L2).map (·.1):=by
        rw[List.map_append,List.mem_append];rintro(g|g)
        .have:=so3 j g j (by simp);omega
        .have:=so2.1 j g;omega
       have hv:(listed.setIfInBounds j true).getD j true=true:=by simp[Array.getD_eq_getD_getElem?,this]
       rw[hv];exact⟨(λh=>by cases h),λh=>absurd h hno⟩
      .have hj':=hli j hj;simp only[Array.getD_eq_getD_getElem?]at hj'⊢;rw[Array.getElem?_setIfInBounds_ne (λe=>hji e.symm)];rw[hj'];simp[hji]
     .intro j hj hjl b hb;by_cases hji:j=i'
      .subst hji;have:=hbl b hb;by_cases hbj:b=j
       .subst hbj;have:b<listed.size:=by omega
        simp[Array.getD_eq_getD_getElem?,this]
       .simp only[Array.getD_eq_getD_getElem?]at this⊢;rw[Array.getElem?_setIfInBounds_ne (λe=>hbj e.symm)];exact this
      .have hjl':listed.getD j true=true:=by
        simp only[Array.getD_eq_getD_getElem?]at hjl⊢;rw[Array.getElem?_setIfInBounds_ne (λe=>hji e.symm)]at hjl;exact hjl
       have:=hcl j hj hjl' b hb;by_cases hbj:b=i'
       .subst hbj;have:b<listed.size:=by omega
        simp[Array.getD_eq_getD_getElem?,this]
       .simp only[Array.getD_eq_getD_getElem?]at this⊢;rw[Array.getElem?_setIfInBounds_ne (λe=>hbj e.symm)];exact this
     .intro x hx y hy;exact hpc x (by simp at hx⊢;rcases hx with h|h<;>simp[h]) y (by simp at hy⊢;rcases hy with h|h<;>simp[h])
     .intro q hq';have hqL':q∈L1++(i',x)::L2:=by simp at hq'⊢;rcases hq' with h|h<;>simp[h]
      have hqi:q.1≠i':=by
       intro e;simp only[List.mem_append]at hq';rcases hq' with g|g
       .have:=so3 q.1 (List.mem_map.2 ⟨q,g,rfl⟩) i' (by simp);omega
       .have:=so2.1 q.1 (List.mem_map.2 ⟨q,g,rfl⟩);omega
      obtain⟨g1,g2,_⟩:=Zek hmo .dead (hres q hqL').1 (hres q hqL').2 (by omega) hs1;exact⟨g1,g2⟩
     .intro ρ'' a'' w'' hle' hst';exact hq ρ'' a'' w'' (hle.trans hle') hst'
    .cases e3
   .cases e3


theorem Zmd{call:Zbu}(hc:Zgq P K w0 call)(hmo:Zhh call)(hm:Match P K N)(hmix:P.follows .mixedOrders=true){n:Nat}{id:Nat}{ops:Array Go.Oper}{xs:List Oper}{prs:List (Nat×Nat)}(hxs:Zex P K ops n ops.toList=some xs)(hed:ZgY ops.toList=true)
  (hd:Znn (ZeX [] ops.toList) xs=some prs){Q:Go.Exit->Go.Act->World->Prop}{ρ:Rho}{fr fr':Fr}{h h':Hp}{a:Go.Act}{w:World}(hst:St K w0 n ρ fr h a w)(he:ZbC call xs prs fr h=some (fr',h'))
  (hq:∀ρ' a' w',ρ.le ρ'->St K w0 n ρ' fr' h' a' w'->Q .normal a' w'):(Go.Code.region id ops true).wp P Q a w:=by
 obtain⟨hlen,hget⟩:=ZfC hxs;have hlen':xs.length=ops.size:=by rw[<-hlen];simp
 unfold Znn at hd;simp only at hd;split at hd
 .rename_i hall;simp only[Option.some.injEq]at hd;subst hd;rw[List.all_eq_true]at hall;unfold ZbC at he;split at he
  .rename_i fr1 h1 ts hev;split at he
   .rename_i hap;simp only[Option.some.injEq,Prod.mk.injEq]at he;obtain⟨rfl,rfl⟩:=he;have hzip:∀q∈(List.range xs.length).zip xs,xs[q.1]?=some q.2:=by
     intro q hq;obtain⟨i,hi⟩:=List.mem_iff_getElem?.1 hq;obtain⟨g1,g2⟩:=List.getElem?_zip_eq_some.1 hi;rw[List.getElem?_range]at g1
     .simp only[Option.some.injEq]at g1;rw[<-g1];exact g2
     .by_cases hh:i<xs.length
      .exact hh
      .rw[List.getElem?_eq_none (by simpa using hh)]at g1;cases g1
    have hfst:((List.range xs.length).zip xs).map (·.1)=List.range xs.length:=by
     rw[List.map_fst_zip];simp
    have hidx:=ZeL hev;rw[hfst]at hidx;have hnd:(ts.map (·.1)).Nodup:=by rw[hidx];exact List.nodup_range
    refine Go.wp_region_any hmix ?_;refine Zqo hc hmo hm hxs hed ?_ ops.size ((List.range xs.length).zip xs) _ (by simp;omega) hzip ?_ (by simp) ?_ ?_ (ρ:=ρ) (fr:=fr) (h:=h.bump xs.length) (base:=h.n) ⟨hst.fr,(hst.inv.bump _).drew,hst.size,hst.defers⟩ hev ?_ ?_ hq
    .intro i j x y hij hx hy;have:=hall (i,j) hij;simpa[hx,hy]using this
    .rw[hfst];exact List.pairwise_lt_range
    .intro i hi;rw[hfst];simp[hi,hlen',Array.getD_eq_getD_getElem?]
    .intro i hi hl;simp[Array.getD_eq_getD_getElem?,hi]at hl
    ·-- what the traces owe
     intro x hx y hy hlt hfp;by_cases hin:(x.1,y.1)∈(Zd1 (ZeX [] ops.toList) xs.length).filter λq=>match xs[q.1]?,xs[q.2]? with|some x,some y=>!x.op.pure&&!y.op.pure|_,_=>true
     .have:=hap _ hin;simp only[Zf2,Zew hnd hx,Zew hnd hy]at this;exact this
     .rw[List.mem_filter]at hin;obtain⟨o1,f1,g1,v1,k1,m1,s1⟩:=ZdX hev x hx;obtain⟨o2,f2,g2,v2,k2,m2,s2⟩:=ZdX hev y hy;have e1:=hzip _ m1;have e2:=hzip _ m2;simp only at e1 e2;simp only[hfp,e1,e2,true_and,Bool.and_eq_true,Bool.not_eq_true',not_and,Bool.not_eq_false]at hin;by_cases hp:o1.op.pure=true
      .exact ZgT hp s1 _ (λ_ _ _ _ _ _=>trivial)
      .exact Zg3 (hin (by simpa using hp)) s2 _
    .intro q hq;have:q.1<xs.length:=(List.getElem?_eq_some_iff.1 (hzip q hq)).1;exact⟨h.wf _ (by omega),by simp only[Hp.bump];omega⟩
   .cases he
  .cases he
 .cases hd

/-! ### Code -/
def ZfY:Ex->Go.Exit->Prop
 |.normal,.normal=>True
 |.exit i,.exit j=>i=j
 |.ret,.ret=>True
 |_,_=>False

def Post(K:Fid)(w0:World)(n:Nat)(ρ:Rho)(e:Ex)(fr:Fr)(h:Hp)(e':Go.Exit)(a:Go.Act)(w:World):Prop:=ZfY e e'/\∃ρ',ρ.le ρ'/\St K w0 n ρ' fr h a w

theorem Post.trans{n:Nat}{ρ ρ':Rho}{e:Ex}{fr:Fr}{h:Hp}{e':Go.Exit}{a:Go.Act}{w:World}(hle:ρ.le ρ')(hp:Post K w0 n ρ' e fr h e' a w):Post K w0 n ρ e fr h e' a w :=
 ⟨hp.1,hp.2.elim λρ'' q=>⟨ρ'',hle.trans q.1,q.2⟩⟩

theorem Zdq{call:Zbu}(hc:Zgq P K w0 call)(hmo:Zhh call)(hm:Match P K N)(hmix:P.follows .mixedOrders=true)(k:Nat){n:Nat}:∀(c:Go.Code)(x:Code),nC P K n c=some x->∀{ρ:Rho}{fr fr':Fr}{h h':Hp}{a:Go.Act}{w:World}{e:Ex},
  St K w0 n ρ fr h a w->Zai call k x fr h=some (e,fr',h')->c.wp P (Post K w0 n ρ e fr' h') a w
 |.skip,x,hx,ρ,fr,fr',h,h',a,w,e,hs,he=>by
  simp only[nC,Option.some.injEq]at hx;subst hx;simp only[Zai,Option.some.injEq,Prod.mk.injEq]at he;obtain⟨rfl,rfl,rfl⟩:=he;exact Go.wp_skip ⟨trivial,ρ,Rho.le.refl _,hs⟩
 | .region id ops draw,x,hx,ρ,fr,fr',h,h',a,w,e,hs,he=>by
  simp only[nC]at hx;split at hx
  .rename_i xs hxs
   cases draw with
   |false=>
    simp only[Bool.false_eq_true,if_false,Option.some.injEq]at hx;subst hx;simp only[Zai]at he;split at he
    .rename_i fr1 h1 hev;simp only[Option.some.injEq,Prod.mk.injEq]at he;obtain⟨rfl,rfl,rfl⟩:=he;refine Go.wp_region ?_;have:=Znu hc hm (ops:=ops) (Q:=Post K w0 n ρ .normal fr1 h1) ops.toList xs 0 rfl hxs hs hev λρ' a' w' hle hst=>⟨trivial,ρ',hle,hst⟩;rw[List.range_eq_range'];simpa using this
    .cases he
   | true=>
    simp only[if_true]at hx;split at hx
    .rename_i hed;obtain⟨prs,hd,rfl⟩:=map_some hx;simp only[Zai]at he;split at he
     .rename_i fr1 h1 hev;simp only[Option.some.injEq,Prod.mk.injEq]at he;obtain⟨rfl,rfl,rfl⟩:=he;exact Zmd hc hmo hm hmix hxs hed hd hs hev λρ' a' w' hle hst=>⟨trivial,ρ',hle,hst⟩
     .cases he
    .cases hx
  .cases hx
 | .seq c d,x,hx,ρ,fr,fr',h,h',a,w,e,hs,he=>by
  simp only[nC]at hx;split at hx
  .rename_i y z hy hz;simp only[Option.some.injEq]at hx;subst hx;simp only[Zai]at he;split at he
   .rename_i fr1 h1 hev;refine Go.wp_seq (Go.wp_mono (Zdq hc hmo hm hmix k c y hy hs hev) ?_);rintro e' a' w' ⟨h1',ρ',hle,hst⟩;cases e'<;>simp only[ZfY]at h1';exact Go.wp_mono (Zdq hc hmo hm hmix k d z hz hst he) λ_ _ _ hp=>hp.trans hle
   .rename_i hne;refine Go.wp_seq (Go.wp_mono (Zdq hc hmo hm hmix k c y hy hs he) ?_);rintro e' a' w' ⟨h1',ρ',hle,hst⟩;cases e<;>cases e'<;>simp only[ZfY]at h1'
    .exact absurd he (hne _ _)
    .exact⟨h1',ρ',hle,hst⟩
    .exact⟨trivial,ρ',hle,hst⟩
  .cases hx
 | .cond q c d,x,hx,ρ,fr,fr',h,h',a,w,e,hs,he=>by
  simp only[nC]at hx;split at hx
  .rename_i q' y z hq hy hz;simp only[Option.some.injEq]at hx;subst hx;have hr:=zX hs.fr hq;simp only[Zai]at he;split at he
   .rename_i hv;rw[hv]at hr;exact Go.wp_cond_true hr.inv_b (Zdq hc hmo hm hmix k c y hy hs he)
   .rename_i hv;rw[hv]at hr;exact Go.wp_cond_false hr.inv_b (Zdq hc hmo hm hmix k d z hz hs he)
   .cases he
  .cases hx
 | .block id c,x,hx,ρ,fr,fr',h,h',a,w,e,hs,he=>by
  simp only[nC]at hx;obtain⟨y,hy,rfl⟩:=map_some hx;simp only[Zai]at he;split at he
  .rename_i id' fr1 h1 hev;refine Go.wp_block (Go.wp_mono (Zdq hc hmo hm hmix k c y hy hs hev) ?_);rintro e' a' w' ⟨h1',ρ',hle,hst⟩;cases e'<;>simp only[ZfY]at h1';subst h1';simp only[Go.Exit.inBlock];split at he
   .rename_i hid;simp only[Option.some.injEq,Prod.mk.injEq]at he;obtain⟨rfl,rfl,rfl⟩:=he;rw[if_pos hid];exact⟨trivial,ρ',hle,hst⟩
   .rename_i hid;simp only[Option.some.injEq,Prod.mk.injEq]at he;obtain⟨rfl,rfl,rfl⟩:=he;rw[if_neg hid];exact⟨rfl,ρ',hle,hst⟩
  .rename_i hne;refine Go.wp_block (Go.wp_mono (Zdq hc hmo hm hmix k c y hy hs he) ?_);rintro e' a' w' ⟨h1',ρ',hle,hst⟩;cases e<;>cases e'<;>simp only[ZfY]at h1'
   .exact⟨trivial,ρ',hle,hst⟩
   .exact absurd he (hne _ _ _)
   .exact⟨trivial,ρ',hle,hst⟩
 | .loop c,x,hx,ρ,fr,fr',h,h',a,w,e,hs,he=>by
  simp only[nC]at hx;obtain⟨y,hy,rfl⟩:=map_some hx;simp only[Zai]at he;have key:∀(m:Nat){ρ:Rho}{fr:Fr}{h:Hp}{a:Go.Act}{w:World},St K w0 n ρ fr h a w->Zer (Zai call k y) m fr h=some (e,fr',h')->Go.Code.rounds P c (Post K w0 n ρ e fr' h') m a w:=by
   intro m
   induction m with
   |zero=>intro ρ fr h a w hs he;cases he
   | succ m ih=>
    intro ρ fr h a w hs he;simp only[Zer]at he;rw[Go.rounds_succ];split at he
    .rename_i fr1 h1 hev;refine Go.wp_mono (Zdq hc hmo hm hmix k c y hy hs hev) ?_;rintro e' a' w' ⟨h1',ρ',hle,hst⟩;cases e'<;>simp only[ZfY]at h1';have:=ih hst he
     -- the rounds that are left,over the older relation
     have mono:∀(m:Nat){Q Q':Go.Exit->Go.Act->World->Prop}(hQ:∀e a w,Q e a w->Q' e a w)(a:Go.Act)(w:World),Go.Code.rounds P c Q m a w->Go.Code.rounds P c Q' m a w:=by
      intro m
      induction m with
      |zero=>intro Q Q' hQ a w hr;exact hr
      |succ m ih2=>
       intro Q Q' hQ a w hr;rw[Go.rounds_succ]at hr⊢;refine Go.wp_mono hr ?_;intro e a w hq;cases e<;>first|exact ih2 hQ _ _ hq|exact hQ _ _ _ hq
     exact mono m (λ_ _ _ hp=>Post.trans hle hp) _ _ this
    .rename_i hne;refine Go.wp_mono (Zdq hc hmo hm hmix k c y hy hs he) ?_;rintro e' a' w' ⟨h1',ρ',hle,hst⟩;cases e<;>cases e'<;>simp only[ZfY]at h1'
     .exact absurd he (hne _ _)
     .exact⟨h1',ρ',hle,hst⟩
     .exact⟨trivial,ρ',hle,hst⟩
  exact Go.wp_loop_rounds k (key k hs he)
 |.exit id,x,hx,ρ,fr,fr',h,h',a,w,e,hs,he=>by
  simp only[nC,Option.some.injEq]at hx;subst hx;simp only[Zai,Option.some.injEq,Prod.mk.injEq]at he;obtain⟨rfl,rfl,rfl⟩:=he;exact Go.wp_exit ⟨rfl,ρ,Rho.le.refl _,hs⟩
 |.ret,x,hx,ρ,fr,fr',h,h',a,w,e,hs,he=>by
  simp only[nC,Option.some.injEq]at hx;subst hx;simp only[Zai,Option.some.injEq,Prod.mk.injEq]at he;obtain⟨rfl,rfl,rfl⟩:=he;exact Go.wp_ret ⟨trivial,ρ,Rho.le.refl _,hs⟩
 |.rangeFunc _ _ _ _,x,hx,ρ,fr,fr',h,h',a,w,e,hs,he=>by simp only[nC,Option.some.injEq]at hx;subst hx;cases he
 |.scope _,x,hx,ρ,fr,fr',h,h',a,w,e,hs,he=>by simp only[nC,Option.some.injEq]at hx;subst hx;cases he
 |.label _,x,hx,ρ,fr,fr',h,h',a,w,e,hs,he=>by simp only[nC,Option.some.injEq]at hx;subst hx;cases he
 |.goto _,x,hx,ρ,fr,fr',h,h',a,w,e,hs,he=>by simp only[nC,Option.some.injEq]at hx;subst hx;cases he
 |.refuse _,x,hx,ρ,fr,fr',h,h',a,w,e,hs,he=>by simp only[nC,Option.some.injEq]at hx;subst hx;cases he

/-! ### Results and calls -/
def rv(a:Go.Act):Go.ResultVar->Sem Value
 |.tmp t=>pure (a.tmps.getD t Go.undef)
 |.cell c t=>do Go.loadVar t (<-Go.asAddr (a.tmps.getD c Go.undef))
theorem ZkN(f:Go.Func)(a:Go.Act):Go.results f a.tmps=(f.results.mapM (rv a) >>=λvs=>pure (if h:vs.size=1 then vs[0]else .tuple vs)):=by
 unfold Go.results;congr 1
theorem Zn5{n:Nat}{ρ:Rho}{fr:Fr}{h:Hp}{a:Go.Act}{w:World}(hs:St K w0 n ρ fr h a w):∀{rs:List Go.ResultVar}{xs:List Res}{vs:List V},Ziu P rs=some xs->ZbO fr h xs=some vs->
  ∃ys,(rs.mapM (rv a)).run P w=.ok ys w/\RelL K ρ vs ys
 |[],xs,vs,hx,hv=>by
  simp only[Ziu,Option.some.injEq]at hx;subst hx;simp only[ZbO,Option.some.injEq]at hv;subst hv;exact⟨[],rfl,.nil⟩
 | r::rs,xs,vs,hx,hv=>by
  simp only[Ziu]at hx;split at hx
  .rename_i y ys h1 h2;simp only[Option.some.injEq]at hx;subst hx;simp only[ZbO]at hv;split at hv
   .rename_i v vs' h3 h4;simp only[Option.some.injEq]at hv;subst hv;obtain⟨zs,hz,hrel⟩:=Zn5 hs h2 h4;have one:∃z,(rv a r).run P w=.ok z w/\Rel K ρ v z:=by
     cases r with
     |tmp t=>
      simp only[Zrb,Option.some.injEq]at h1;subst h1;simp only[ZgI,Option.some.injEq]at h3;subst h3;exact⟨_,rfl,hs.fr t⟩
     | cell c t=>
      simp only[Zrb]at h1;split at h1
      .rename_i i d hi hu;simp only[Option.some.injEq]at h1;subst h1;simp only[ZgI]at h3;split at h3
       .rename_i q p hq;split at h3
        .rename_i b cs hr;have hp:=hs.fr c;rw[hq]at hp;obtain⟨L,hL,he⟩:=hp.inv_p;obtain⟨L',hL',xs',hrel',hc⟩:=hs.inv.reads hr;rw[hL]at hL';cases hL';obtain⟨q1,q2,q3⟩:=ZhB hrel' h3
         cases hd:ZbK d with
         |true=>
          refine⟨.agg ((xs'.drop p).take i.size).toArray,?_,q2 hd⟩;simp only[rv,he,Go.asAddr,Go.loadVar];simp[ZcK hu,hd,ZaQ hi,Zi1 hc q1]
         |false=>
          obtain⟨y,hy,hry⟩:=q3 hd;refine⟨y,?_,hry⟩;simp only[rv,he,Go.asAddr,Go.loadVar];simp[ZcK hu,hd,hc p y hy]
        .cases h3
       .cases h3
      .cases h1
    obtain⟨z,hz1,hz2⟩:=one;refine⟨z::zs,?_,.cons hz2 hrel⟩;rw[List.mapM_cons];simp only[Sem.run_bind,hz1,Result.andThen_ok,hz,Sem.run_pure]
   .cases hv
  .cases hx

theorem ZhG{n:Nat}{ρ:Rho}{fr:Fr}{h:Hp}{a:Go.Act}{w:World}(hs:St K w0 n ρ fr h a w){f:Go.Func}{xs:List Res}{vs:List V}(hx:Ziu P f.results.toList=some xs)(hv:ZbO fr h xs=some vs) :
  ∃x,(Go.results f a.tmps).run P w=.ok x w/\Rel K ρ (Zka vs) x:=by
 obtain⟨ys,h1,h2⟩:=Zn5 (P:=P) hs hx hv;have hm:(f.results.mapM (rv a)).run P w=.ok ys.toArray w:=by
  rw[Array.mapM_eq_mapM_toList];simp only[Sem.run_map,h1,Result.andThen_ok]
 have hlen:=h2.length;rw[ZkN];simp only[Sem.run_bind];rw[hm];simp only[Result.andThen_ok,Sem.run_pure];refine⟨_,rfl,?_⟩
 cases vs with
 |nil=>
  cases h2;exact .tu .nil
 | cons v vs=>
  cases h2 with
  | cons r t=>
   cases vs with
   |nil=>cases t;exact r
   | cons v' vs'=>
    cases t with
    |cons r' t'=>
     rw[dif_neg (by simp)];exact .tu (.cons r (.cons r' t'))

theorem Inv.later{K:Fid}{w0 w w':World}{ρ:Rho}{h:Hp}(hi:Inv K w0 ρ h w)(hb:Below w.heap.size w w'):Inv K w0 ρ h w' where
 below:=hi.below.trans (hb.mono hi.below.size)
 dom:=hi.dom
 ro:=λr cs hm=>by
  obtain⟨L,h1,h2,h3⟩:=hi.ro r cs hm;refine⟨L,h1,h2,λi v hv=>?_⟩;obtain⟨x,h4,h5⟩:=h3 i v hv;exact⟨x,by rw[hb.cell (by have:=hi.below.size;show L.blk<_;omega)];exact h4,h5⟩
 rw:=λr cs hm=>by
  obtain⟨L,h1,h2,c,e,h3,h4⟩:=hi.rw r cs hm;exact⟨L,h1,h2,c,e,by rw[hb.block _ (Array.getElem?_eq_some_iff.1 h3).1];exact h3,h4⟩
 mp:=λr es hm=>by
  obtain⟨L,h1,h2,xs,c,h3,h4⟩:=hi.mp r es hm;exact⟨L,h1,h2,xs,c,by rw[hb.block _ (Array.getElem?_eq_some_iff.1 h3).1];exact h3,h4⟩
 inj:=hi.inj

theorem Zhp(hm:Match P K N)(hmix:P.follows .mixedOrders=true):∀k,Zgq P K w0 (Zbl N k)
 |0=>λf args h v h' he=>by cases he
 | k+1=>λf args h v h' he fid xs w ρ hK hargs hi=>by
  have ih:=Zhp hm hmix k;obtain⟨fn,g,p1,p2,p3⟩:=hm fid f hK;simp only[Zbl,p2]at he;split at he
  .cases he
  rename_i hz;rcases p3 with p3|⟨_,_,rfl,hT⟩
  rotate_left
  .have ha:args=[]:=by
    cases args with
    |nil=>rfl
    |cons a l=>exact absurd ⟨rfl,by simp⟩ hz
   subst ha;have hxs:xs=#[]:=by
    have hl:=hargs.length;rcases xs with⟨l⟩
    cases l with
    |nil=>rfl
    |cons a l=>simp at hl
   subst hxs;obtain⟨rfl,rfl⟩:v=.b true/\h'=h:=by
    have e1:Zai (Zbl N k) k ZnI.body (Fr.start []) h=some (.ret,(Fr.start []).put (some 0) (.b true),h):=rfl;rw[e1]at he;have e2:ZbO ((Fr.start []).put (some 0) (.b true)) h ZnI.results=some [.b true]:=rfl;simp only[e2,Option.some.injEq,Prod.mk.injEq]at he;exact⟨he.1.symm,he.2.symm⟩
   refine(hT w).mono λe w' hq=>?_;obtain⟨rfl,hb⟩:=hq;exact⟨_,ρ,rfl,.b _,.refl _,hi.later hb⟩
  unfold Zls at p3;split at p3
  .cases p3
  .rename_i c hbody;split at p3
   .rename_i x rs hx hrs;split at p3
    .cases p3
    .simp only[Option.some.injEq]at p3;subst p3;refine Go.calls_of_wp p1 hbody ?_
     -- the frame at the begin
     have hst:St K w0 fn.ntmps ρ (Fr.start args) h { tmps:=xs++Array.replicate (fn.ntmps-xs.size) Go.undef,defers:=[] } w:=by
      refine⟨λt=>?_,hi,by simp;omega,rfl⟩;have hl:=hargs.length;simp only[Fr.start,Array.getD_eq_getD_getElem?]
      cases ht:args[t]? with
      |some u=>
       obtain⟨y,hy,hr⟩:=hargs.get ht;have hlt:t<xs.size:=by have:=(List.getElem?_eq_some_iff.1 hy).1;simpa using this
       rw[Array.getElem?_append_left hlt,<-Array.getElem?_toList,hy];exact hr
      | none=>
       have hge:xs.size<=t:=by
        have:=hargs.get_none ht;rw[List.getElem?_eq_none_iff]at this;simpa using this
       rw[Array.getElem?_append_right hge];simp only[Option.getD_none];have:((Array.replicate (fn.ntmps-xs.size) Go.undef)[t-xs.size]?).getD Go.undef=Go.undef:=by
        rw[Array.getElem?_replicate];split<;>rfl
       rw[this];exact .tu .nil
     split at he
     .rename_i fr1 h1 hev;split at he
      .rename_i vs hvs;simp only[Option.some.injEq,Prod.mk.injEq]at he;obtain⟨rfl,rfl⟩:=he;refine Go.wp_mono (Zdq ih (ZeB N k) hm hmix k c x hx hst hev) ?_;rintro e' a' w' ⟨h1',ρ',hle,hst'⟩;cases e'<;>simp only[ZfY]at h1';obtain⟨y,hy1,hy2⟩:=ZhG (P:=P) hst' hrs hvs;exact⟨hst'.defers,y,hy1,y,ρ',rfl,hy2,hle,hst'.inv⟩
      .cases he
     .rename_i fr1 h1 hev;split at he
      .rename_i vs hvs;simp only[Option.some.injEq,Prod.mk.injEq]at he;obtain⟨rfl,rfl⟩:=he;refine Go.wp_mono (Zdq ih (ZeB N k) hm hmix k c x hx hst hev) ?_;rintro e' a' w' ⟨h1',ρ',hle,hst'⟩;cases e'<;>simp only[ZfY]at h1';obtain⟨y,hy1,hy2⟩:=ZhG (P:=P) hst' hrs hvs;exact⟨hst'.defers,y,hy1,y,ρ',rfl,hy2,hle,hst'.inv⟩
      .cases he
     .cases he
   .cases p3
end
end Mu
#print axioms Mu.Zhp
