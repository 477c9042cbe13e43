/- The evaluator and the model: maps whose keys are structs or arrays of whole numbers. -/
import Derived.Test.YtjhlegefgllihaaGreatMuE7
import Derived.MapKept
namespace Mu
open Go (IntKind BinOp UnOp Value World Addr TypeId Program Sem Result Next)
open Go.RowKit (Below)
set_option linter.unusedVariables false

section ops
variable {P:Program}{K:Fid}{ρ:Rho}{w0 w:World}{h:Hp}{fr:Fr}{a:Go.Act}{nr:Nat}{v:V}{up:List (Nat×Obj)}

theorem Zff{ks:List FK}{k q:V}{b:Bool}(h:eqv (.fl ks) k q=some b):∃cs ds,k=.ag cs/\q=.ag ds/\zZ ks cs ds=some b:=by
 cases k<;>cases q<;>simp only[eqv,reduceCtorEq]at h;exact⟨_,_,rfl,rfl,h⟩
theorem ZjP{ks:List FK}{k:V}:∀{es:List (V×V)}{r:Option V},lookup ks k es=some r->∃cs,k=.ag cs/\cs.length=ks.length
 |[],r,h=>by
  simp only[lookup]at h;split at h
  .rename_i b hb;obtain⟨cs,ds,rfl,_,h3⟩:=Zff hb;exact⟨cs,rfl,(Za8 h3).1⟩
  .cases h
 |(q,v)::l,r,h=>by
  simp only[lookup]at h;split at h
  .rename_i hb;obtain⟨cs,ds,rfl,_,h3⟩:=Zff hb;exact⟨cs,rfl,(Za8 h3).1⟩
  .rename_i hb;obtain⟨cs,ds,rfl,_,h3⟩:=Zff hb;exact⟨cs,rfl,(Za8 h3).1⟩
  .cases h
theorem Zpu{ks:List FK}{k v:V}:∀{es es':List (V×V)},ZdL ks k v es=some es'->∃cs,k=.ag cs/\cs.length=ks.length
 |[],es',h=>by
  simp only[ZdL]at h;split at h
  .rename_i b hb;obtain⟨cs,ds,rfl,_,h3⟩:=Zff hb;exact⟨cs,rfl,(Za8 h3).1⟩
  .cases h
 |(q,u)::l,es',h=>by
  simp only[ZdL]at h;split at h
  .rename_i hb;obtain⟨cs,ds,rfl,_,h3⟩:=Zff hb;exact⟨cs,rfl,(Za8 h3).1⟩
  .rename_i hb;obtain⟨cs,ds,rfl,_,h3⟩:=Zff hb;exact⟨cs,rfl,(Za8 h3).1⟩
  .cases h
structure KeyT(P:Program)(kt:TypeId)(ks:List FK):Prop where
 flat:Zdi P 100 kt=some ks
 ints:∀k∈ks,k=.i
 ty:(∃fs,P.underlying kt=some (.struct fs)/\∀f∈fs.toList,f.name≠"_"/\f.offset<ks.length/\(∃q,P.underlying f.type=some (.int q)))\/
  ∃n e i,P.underlying kt=some (.array n e)/\(∃q,P.underlying e=some (.int q))/\P.info? e=some i/\∀j,j<n->j*i.size<ks.length
theorem KeyT.agg{kt:TypeId}{ks:List FK}(h:KeyT P kt ks):∃d,P.underlying kt=some d/\ZbK d=true:=by
 rcases h.ty with⟨fs,hu,_⟩|⟨n,e,i,hu,_⟩
 .exact⟨_,hu,rfl⟩
 .exact⟨_,hu,rfl⟩
theorem Zlt{kt:TypeId}{ks:List FK}(h:ZoT P kt=some ks):KeyT P kt ks:=by
 unfold ZoT at h;split at h
 .rename_i ks' hf;split at h
  .rename_i hc;obtain⟨c1,c2⟩:=hc;simp only[Option.some.injEq]at h;subst h;have hint:∀{d:Option Go.TypeDesc},ZiS d=true->∃q,d=some (.int q):=by
    intro d hd;unfold ZiS at hd;split at hd
    .exact⟨_,rfl⟩
    .cases hd
   refine⟨hf,λk hk=>by simpa using List.all_eq_true.1 c1 k hk,?_⟩;unfold ZpH at c2;split at c2
   .rename_i fs hu;refine .inl ⟨fs,hu,λf hf'=>?_⟩;have:=List.all_eq_true.1 c2 f hf';simp only[Bool.and_eq_true,decide_eq_true_eq]at this;exact⟨this.1.1,this.1.2,hint this.2⟩
   .rename_i n e hu;simp only[Bool.and_eq_true]at c2;obtain⟨c3,c4⟩:=c2;split at c4
    .rename_i i hi;exact .inr ⟨n,e,i,hu,hint c3,hi,λj hj=>by
      have:=List.all_eq_true.1 c4 j (List.mem_range.2 hj);simpa using this⟩
    .cases c4
   .cases c2
  .cases h
 .cases h
theorem ZkE{t:TypeId}{z:V}(h:ZkD P t=some z):∃i zv,P.info? t=some i/\i.zero=some zv/\Rel K ρ z zv:=by
 unfold ZkD at h;split at h
 .rename_i i hi;split at h
  .rename_i b hz;simp only[Option.some.injEq]at h;subst h;exact⟨i,_,hi,hz,.b b⟩
  .rename_i k n hz;simp only[Option.some.injEq]at h;subst h;exact⟨i,_,hi,hz,.i k n⟩
  .cases h
 .cases h
theorem Zgj{t:TypeId}{q:IntKind}(hu:P.underlying t=some (.int q))(em:Bool)(n:Nat)(x:Value):(Go.Instr.checkKey em (n+1) t x).run P w=.ok () w:=by
 unfold Go.Instr.checkKey;simp only[Sem.run_bind,Go.run_underlying hu,Result.andThen_ok];rfl
theorem ZgJ{t:TypeId}{q:IntKind}(hu:P.underlying t=some (.int q)){xs:Array Value}{o:Nat}(h:o<xs.size):(Go.part t xs o).run P w=.ok xs[o] w:=by
 simp[Go.part,ZcK hu,ZbK,h]
theorem ZeS{kt:TypeId}{ks:List FK}(hk:KeyT P kt ks)(em:Bool)(n:Nat){xs:Array Value}(hx:xs.size=ks.length):(Go.Instr.checkKey em (n+2) kt (.agg xs)).run P w=.ok () w:=by
 rcases hk.ty with⟨fs,hu,hf⟩|⟨m,e,i,hu,⟨q,he⟩,hi,hb⟩
 .rw[Go.Instr.checkKey];simp only[Sem.run_bind,Go.run_underlying hu,Result.andThen_ok];rw[<-Array.forIn_toList];generalize fs.toList=L at hf
  induction L with
  |nil=>simp
  |cons f L ih=>
   obtain⟨h1,h2,q,h3⟩:=hf f (by simp);have p1:=ZgJ (P:=P) (w:=w) h3 (xs:=xs) (o:=f.offset) (by omega);have p2:=Zgj (w:=w) h3 em n xs[f.offset];simp only[List.forIn_cons,Sem.run_bind,h1,ne_eq,not_false_eq_true,if_true,Result.andThen_ok,p1,p2,Sem.run_pure];exact ih (λy hy=>hf y (by simp[hy]))
 .rw[Go.Instr.checkKey];simp only[Sem.run_bind,Go.run_underlying hu,Result.andThen_ok];simp only[Std.Legacy.Range.forIn_eq_forIn_range',Std.Legacy.Range.size,Nat.sub_zero,Nat.add_one_sub_one,Nat.div_one];have hb':∀j∈List.range' 0 m,j*i.size<ks.length:=λj hj=>hb j (by
   have:=List.mem_range'.1 hj;omega)
  generalize List.range' 0 m=is at hb'
  induction is with
  |nil=>simp
  |cons j is ih=>
   have h2:=hb' j (by simp);have p1:=ZgJ (P:=P) (w:=w) he (xs:=xs) (o:=j*i.size) (by omega);have p2:=Zgj (w:=w) he em n xs[j*i.size];simp only[List.forIn_cons,Sem.run_bind,ZaQ hi,Result.andThen_ok,p1,p2,Sem.run_pure];exact ih (λy hy=>hb' y (by simp[hy]))
theorem Zfu{kt:TypeId}{ks:List FK}(hk:KeyT P kt ks){k q:V}{x y:Value}{b:Bool}(hx:Rel K ρ k x)(hy:Rel K ρ q y)(he:eqv (.fl ks) k q=some b):(Go.Op.equal kt x y).run P w=.ok b w:=by
 obtain⟨cs,ds,rfl,rfl,hs⟩:=Zff he;obtain⟨xs,rfl,r1⟩:=hx.inv_ag;obtain⟨ys,rfl,r2⟩:=hy.inv_ag;obtain⟨d,hu,ha⟩:=hk.agg;exact ZiQ 100 hk.flat (by decide) r1 r2 hs ⟨_,hu,by simp[ha]⟩ ⟨_,hu,by simp[ha]⟩
theorem ZhH{kt:TypeId}{ks:List FK}(hk:KeyT P kt ks)(x:Value)(l:List Go.MapEntry):(Go.Instr.findKey kt x l).run P w=(Go.Instr.findAsking kt x l).run P w:=by
 obtain⟨d,hu,ha⟩:=hk.agg;unfold Go.Instr.findKey;simp only[Sem.run_bind,Go.run_underlying hu,Result.andThen_ok]
 cases l with
 |nil=>rfl
 | cons e l=>
  have:Go.Instr.findNow d x (e::l) 0=none:=by
   cases d<;>simp[ZbK]at ha<;>simp[Go.Instr.findNow,Go.Instr.sameNow]
  rw[this]
theorem ZiE{kt:TypeId}{ks:List FK}(hk:KeyT P kt ks){k:V}{x:Value}(hx:Rel K ρ k x):∀{es:List (V×V)}{l:List Go.MapEntry},RelL K ρ (es.map (·.1)) (l.map (·.key))->RelL K ρ (es.map (·.2)) (l.map (·.val))->∀i:Nat,
  (∀r,lookup ks k es=some r->match r with
   |none=>(Go.Instr.findAsking kt x l i).run P w=.ok none w
   |some v=>∃j y,(Go.Instr.findAsking kt x l i).run P w=.ok (some (j,y)) w/\Rel K ρ v y)/\
  ∀v es',ZdL ks k v es=some es'->
   ((Go.Instr.findAsking kt x l i).run P w=.ok none w/\es'=es++[(k,v)])\/
   ∃j y,(Go.Instr.findAsking kt x l i).run P w=.ok (some (i+j,y)) w/\j<es.length/\es'=es.set j (k,v)/\∃q,(es[j]?).map (·.1)=some q/\eqv (.fl ks) k q=some true
 | [],[],_,_,i=>by
  constructor
  .intro r hr;simp only[lookup]at hr;split at hr
   .simp only[Option.some.injEq]at hr;subst hr;simp[Go.Instr.findAsking]
   .cases hr
  .intro v es' hu;simp only[ZdL]at hu;split at hu
   .simp only[Option.some.injEq]at hu;subst hu;exact .inl ⟨by simp[Go.Instr.findAsking],rfl⟩
   .cases hu
 | (q,u)::es,e::l,h1,h2,i=>by
  cases h1 with
  | cons a1 t1=>
   cases h2 with
   | cons a2 t2=>
    obtain⟨ih1,ih2⟩:=ZiE hk hx t1 t2 (i+1);constructor
    .intro r hr;simp only[lookup]at hr;split at hr
     .rename_i hb;simp only[Option.some.injEq]at hr;subst hr;have:=Zfu (w:=w) hk hx a1 hb;exact⟨i,e.val,by simp[Go.Instr.findAsking,this],a2⟩
     .rename_i hb;have:=Zfu (w:=w) hk hx a1 hb;have q:=ih1 r hr
      cases r with
      |none=>simp only at q⊢;simp[Go.Instr.findAsking,this,q]
      |some v=>
       obtain⟨j,y,q1,q2⟩:=q;exact⟨j,y,by simp[Go.Instr.findAsking,this,q1],q2⟩
     .cases hr
    .intro v es' hu;simp only[ZdL]at hu;split at hu
     .rename_i hb;simp only[Option.some.injEq]at hu;subst hu;have:=Zfu (w:=w) hk hx a1 hb;exact .inr ⟨0,e.val,by simp[Go.Instr.findAsking,this],by simp,rfl,q,rfl,hb⟩
     .rename_i hb;have:=Zfu (w:=w) hk hx a1 hb;split at hu
      .rename_i r hr;simp only[Option.some.injEq]at hu;subst hu;rcases ih2 v r hr with⟨p1,p2⟩|⟨j,y,p1,p2,p3,q',p4,p5⟩
       .exact .inl ⟨by simp[Go.Instr.findAsking,this,p1],by rw[p2];rfl⟩
       .refine .inr ⟨j+1,y,?_,by simp;omega,by rw[p3];rfl,q',by simpa using p4,p5⟩;simp only[Go.Instr.findAsking,Sem.run_bind,this,Result.andThen_ok,Bool.false_eq_true,if_false,p1];rw[show i+1+j=i+(j+1) by omega]
      .cases hu
     .cases hu
 |(_,_)::_,[],h1,_,_=>by cases h1
 |[],_::_,h1,_,_=>by cases h1
theorem Zki:∀{ks:List FK}{cs ds:List V}{xs ys:List Value},(∀k∈ks,k=.i)->zZ ks cs ds=some true->RelL K ρ cs xs->RelL K ρ ds ys->xs=ys/\∀x∈xs,∃k n,x=.int k n
 |[],[],[],xs,ys,_,_,h1,h2=>by cases h1;cases h2;exact⟨rfl,by simp⟩
 |[],[],_::_,_,_,_,h,_,_=>by simp[zZ]at h
 |[],_::_,_,_,_,_,h,_,_=>by simp[zZ]at h
 |_::_,[],_,_,_,_,h,_,_=>by simp[zZ]at h
 |_::_,_::_,[],_,_,_,h,_,_=>by simp[zZ]at h
 | k::ks,c::cs,d::ds,xs,ys,hk,h,h1,h2=>by
  have hki:=hk k (by simp);subst hki
  cases h1 with
  | cons a1 t1=>
   cases h2 with
   | cons a2 t2=>
    simp only[zZ]at h;split at h
    .rename_i hs;obtain⟨e1,e2⟩:=Zki (λk hk'=>hk k (by simp[hk'])) h t1 t2;cases c<;>cases d<;>simp only[V.same,reduceCtorEq]at hs;split at hs
     .rename_i hkk;subst hkk;simp only[Option.some.injEq,beq_iff_eq]at hs;subst hs;rw[a1.inv_i,a2.inv_i,e1];refine⟨rfl,λx hx=>?_⟩;rcases List.mem_cons.1 hx with rfl|hx
      .exact⟨_,_,rfl⟩
      .exact e2 x (e1▸hx)
     .cases hs
    .split at h<;>simp at h
    .cases h
theorem Zia{n:Nat}{xs:Array Value}(h:∀x∈xs.toList,∃k m,x=.int k m):Go.Instr.sameBits (n+1) (.agg xs) (.agg xs)=true:=by
 simp only[Go.Instr.sameBits,beq_self_eq_true,Bool.true_and,List.all_eq_true];generalize xs.toList=l at h
 induction l with
 |nil=>simp
 |cons x l ih=>
  rintro⟨p,q⟩ hm;simp only[List.zip_cons_cons,List.mem_cons]at hm;rcases hm with e|hm
  .cases e;obtain⟨k,m,rfl⟩:=h x (by simp);simp[Go.Instr.sameBits]
  .exact ih (λy hy=>h y (by simp[hy])) (p,q) hm
theorem RelL.set':∀{vs:List V}{xs:List Value}(j:Nat){v:V}{x:Value},RelL K ρ vs xs->Rel K ρ v x->RelL K ρ (vs.set j v) (xs.set j x)
 |_,_,0,_,_,.nil,_=>.nil
 |_,_,_+1,_,_,.nil,_=>.nil
 |_,_,0,_,_,.cons a t,h=>.cons h t
 |_,_,j+1,_,_,.cons a t,h=>.cons a (RelL.set' j t h)
theorem RelL.snoc':∀{vs:List V}{xs:List Value}{v:V}{x:Value},RelL K ρ vs xs->Rel K ρ v x->RelL K ρ (vs++[v]) (xs++[x])
 |_,_,_,_,.nil,h=>.cons h .nil
 |_,_,_,_,.cons a t,h=>.cons a (t.snoc' h)
theorem Inv.allocMap(hi:Inv K w0 ρ h w)(hn:h.m nr=none) :
  Inv K w0 (ρ.set nr ⟨w.heap.size,0,0⟩) (h.put nr (.mp [])) (w.alloc (.map #[] 0)):=by
 have hρ:ρ nr=none:=(hi.dom nr).2 hn;have hle:=Rho.le_set hρ ⟨w.heap.size,0,0⟩;have hput:∀r,r≠nr->(h.put nr (.mp [])).m r=h.m r:=λr hr=>by rw[Hp.put_m,if_neg hr]
 have hset:∀r,r≠nr->(ρ.set nr ⟨w.heap.size,0,0⟩) r=ρ r:=λr hr=>by unfold Rho.set;rw[if_neg hr]
 have hnew:(h.put nr (.mp [])).m nr=some (.mp []):=by rw[Hp.put_m,if_pos rfl]
 have hsn:(ρ.set nr ⟨w.heap.size,0,0⟩) nr=some ⟨w.heap.size,0,0⟩:=by unfold Rho.set;rw[if_pos rfl]
 refine⟨hi.below.alloc hi.size _,λr=>?_,λr ds hr=>?_,λr ds hr=>?_,λr es hr=>?_,λr r' L L' h1 h2 h3 h4 h5=>?_⟩
 .by_cases hr:r=nr
  .subst hr;simp[hnew,hsn]
  .rw[hput r hr,hset r hr];exact hi.dom r
 .by_cases hq:r=nr
  .subst hq;rw[hnew]at hr;cases hr
  .rw[hput r hq]at hr;obtain⟨L,g1,g2,g3⟩:=hi.ro r ds hr;refine⟨L,hle _ _ g1,g2,λi v hv=>?_⟩;obtain⟨x,hx,hxr⟩:=g3 i v hv;exact⟨x,(World.cell?_alloc_lt w _ ⟨L.blk,L.off+i,none⟩ (by show L.blk<_;have:=hi.size;omega)).trans hx,hxr.mono hle⟩
 .by_cases hq:r=nr
  .subst hq;rw[hnew]at hr;cases hr
  .rw[hput r hq]at hr;obtain⟨L,g1,g2,d,e',g3,g4,g5,g6⟩:=hi.rw r ds hr;exact⟨L,hle _ _ g1,g2,d,e',by rw[Go.heap_alloc_old w _ _ (ZcD g3)];exact g3,g4,g5,g6.mono hle⟩
 .by_cases hq:r=nr
  .subst hq;rw[hnew]at hr;simp only[Option.some.injEq,Obj.mp.injEq]at hr;subst hr;exact⟨_,hsn,hi.size,#[],0,Go.heap_alloc_new w _,.nil,.nil⟩
  .rw[hput r hq]at hr;obtain⟨L,g1,g2,xs,cl,g3,g4,g5⟩:=hi.mp r es hr;exact⟨L,hle _ _ g1,g2,xs,cl,by rw[Go.heap_alloc_old w _ _ (ZcD g3)];exact g3,g4.mono hle,g5.mono hle⟩
 .have old:∀q M,q≠nr->(ρ.set nr ⟨w.heap.size,0,0⟩) q=some M->((∃cs',(h.put nr (.mp [])).m q=some (.cells true cs'))\/∃es,(h.put nr (.mp [])).m q=some (.mp es))->M.blk<w.heap.size:=by
   intro q M hq h1 h2;rw[hput q hq]at h2;rw[hset q hq]at h1;rcases h2 with⟨ds,h2⟩|⟨es,h2⟩
   .obtain⟨L,g1,_,d,e',g3,_⟩:=hi.rw q ds h2;rw[h1]at g1;cases g1;exact ZcD g3
   .obtain⟨L,g1,_,d,e',g3,_⟩:=hi.mp q es h2;rw[h1]at g1;cases g1;exact ZcD g3
  by_cases hq:r=nr
  .by_cases hq':r'=nr
   .rw[hq,hq']
   .have:=old r' L' hq' h2 h4;rw[hq,hsn]at h1;cases h1;simp at h5;omega
  .by_cases hq':r'=nr
   .have:=old r L hq h1 h3;rw[hq',hsn]at h2;cases h2;simp at h5;omega
   .rw[hput r hq]at h3;rw[hput r' hq']at h4;rw[hset r hq]at h1;rw[hset r' hq']at h2;exact hi.inj r r' L L' h1 h2 h3 h4 h5
theorem Inv.writeMap(hi:Inv K w0 ρ h w){r:Nat}{es es':List (V×V)}(hr:h.m r=some (.mp es)){L:Loc}(hL:ρ r=some L){xs xs':Array Go.MapEntry}{cl cl':Nat}(hb:w.heap[L.blk]?=some (.map xs cl))
  (h1:RelL K ρ (es'.map (·.1)) (xs'.toList.map (·.key)))(h2:RelL K ρ (es'.map (·.2)) (xs'.toList.map (·.val))) :
  Inv K w0 ρ (h.put r (.mp es')) { w with heap:=w.heap.setIfInBounds L.blk (.map xs' cl') }:=by
 obtain⟨L0,k1,k2,_⟩:=hi.mp r es hr;rw[hL]at k1;cases k1;obtain⟨n1,n2⟩:=Go.MapKept.heap_set (o':=.map xs' cl') hb;have hput:∀q,q≠r->(h.put r (.mp es')).m q=h.m q:=λq hq=>by rw[Hp.put_m,if_neg hq]
 have hnew:(h.put r (.mp es')).m r=some (.mp es'):=by rw[Hp.put_m,if_pos rfl]
 have act:∀q,((∃cs',(h.put r (.mp es')).m q=some (.cells true cs'))\/∃es,(h.put r (.mp es')).m q=some (.mp es))->((∃cs',h.m q=some (.cells true cs'))\/∃es,h.m q=some (.mp es)):=by
  intro q hq;by_cases e:q=r
  .subst e;exact .inr ⟨es,hr⟩
  .rw[hput q e]at hq;exact hq
 refine⟨?_,λq=>?_,λq ds' hq=>?_,λq ds' hq=>?_,λq es hq=>?_,λq q' M M' h1 h2 h3 h4 h5=>hi.inj q q' M M' h1 h2 (act q h3) (act q' h4) h5⟩
 .exact hi.below.trans ⟨rfl,rfl,rfl,by simp,λk hk=>n2 k (by omega)⟩
 .by_cases e:q=r
  .subst e;simp[hnew,hL]
  .rw[hput q e];exact hi.dom q
 .have e:q≠r:=λe=>by subst e;rw[hnew]at hq;cases hq
  rw[hput q e]at hq;obtain⟨M,g1,g2,g3⟩:=hi.ro q ds' hq;refine⟨M,g1,g2,λi v hv=>?_⟩;obtain⟨x,hx,hxr⟩:=g3 i v hv;refine⟨x,?_,hxr⟩;rw[World.cell?_of_block (w:=w) (n2 M.blk (by omega))];exact hx
 .have e':q≠r:=λe=>by subst e;rw[hnew]at hq;cases hq
  rw[hput q e']at hq;obtain⟨M,g1,g2,d',e'',g3,g4,g5,g6⟩:=hi.rw q ds' hq;refine⟨M,g1,g2,d',e'',?_,g4,g5,g6⟩;rw[n2 M.blk λeb=>e' (hi.inj q r M L g1 hL (.inl ⟨_,hq⟩) (.inr ⟨_,hr⟩) eb)];exact g3
 .by_cases e':q=r
  .subst e';rw[hnew]at hq;simp only[Option.some.injEq,Obj.mp.injEq]at hq;subst hq;exact⟨L,hL,k2,xs',cl',n1,h1,h2⟩
  .rw[hput q e']at hq;obtain⟨M,g1,g2,ys,cl,g3,g4,g5⟩:=hi.mp q es hq;refine⟨M,g1,g2,ys,cl,?_,g4,g5⟩;rw[n2 M.blk λeb=>e' (hi.inj q r M L g1 hL (.inr ⟨_,hq⟩) (.inr ⟨_,hr⟩) eb)];exact g3
theorem Rel.inv_mp{r:Nat}{x:Value}(h:Rel K ρ (.mp r) x):∃L,ρ r=some L/\x=.map (some L.blk):=by cases h with|mp h=>exact⟨_,h,rfl⟩
theorem ZqX(hi:Inv K w0 ρ h w)(hn:h.m nr=none){o:Go.Oper}{t:TypeId}(ho:o.op=.makeMap t none)
  (ha:act h.m nr fr.ev .mkm=some (v,up)):Ok P K w0 ρ h a o w v up:=by
 simp only[act,Option.some.injEq,Prod.mk.injEq]at ha;obtain⟨rfl,rfl⟩:=ha;have hρ:ρ nr=none:=(hi.dom nr).2 hn;refine⟨.map (some w.heap.size),w.alloc (.map #[] 0),ρ.set nr ⟨w.heap.size,0,0⟩,.inl ?_,Rho.le_set hρ _,?_,hi.allocMap hn⟩
 .simp only[Go.execOp,ho];rfl
 .exact .mp (L:=⟨w.heap.size,0,0⟩) Zeg
theorem ZqZ(hi:Inv K w0 ρ h w)(hf:FrRel K ρ fr a){o:Go.Oper}{t kt et:TypeId}{x y:Go.Operand}{x' y':Opd}{c:Bool}{ks:List FK}{i:Go.TypeInfo}{z:Value}{zv:V}(ho:o.op=.lookup t x y c)(hu:P.underlying t=some (.map kt et))(hk:KeyT P kt ks)(h1:nX K x=some x')(h2:nX K y=some y')
  (hi':P.info? et=some i)(hz:i.zero=some z)(hzv:Rel K ρ zv z)
  (ha:act h.m nr fr.ev (.mlk ks c zv x' y')=some (v,up)):Ok P K w0 ρ h a o w v up:=by
 simp only[act]at ha;have hx:=zX hf h1;have hy:=zX hf h2;split at ha
 .rename_i r hr;rw[hr]at hx;obtain⟨L,hL,he⟩:=hx.inv_mp;split at ha
  .rename_i es hes;obtain⟨L',hL',_,xs,cl,hb,r1,r2⟩:=hi.mp r es hes;rw[hL]at hL';cases hL';have hget:=Go.MapKept.run_getObj_map (P:=P) hb;split at ha
   .rename_i u hlk;simp only[Option.some.injEq,Prod.mk.injEq]at ha;obtain⟨rfl,rfl⟩:=ha;obtain⟨cs,hcs,hlen⟩:=ZjP hlk;rw[hcs]at hy;obtain⟨ys,hys,hrel⟩:=hy.inv_ag;have hck:=ZeS (w:=w) hk xs.isEmpty 9998 (xs:=ys) (by rw[<-hlen,hrel.length];simp);have hfind:=ZhH (w:=w) hk (a.eval y) xs.toList;obtain⟨j,val,q1,q2⟩:=(ZiE (w:=w) hk (zX hf h2) r1 r2 0).1 _ hlk;refine Ok.pure hi (x:=if c=true then .tuple #[val,.bool true]else val) ?_ ?_
    .simp only[Go.execOp,ho,Go.Instr.lookup,he,Sem.run_bind,Go.run_underlying hu,Result.andThen_ok,hget,Sem.run_pure,hys];rw[hys]at hfind q1;simp only[hck,hfind,q1,Result.andThen_ok];cases c<;>rfl
    .cases c with
     |true=>exact .tu (.cons q2 (.cons (.b true) .nil))
     |false=>exact q2
   .rename_i hlk;simp only[Option.some.injEq,Prod.mk.injEq]at ha;obtain⟨rfl,rfl⟩:=ha;obtain⟨cs,hcs,hlen⟩:=ZjP hlk;rw[hcs]at hy;obtain⟨ys,hys,hrel⟩:=hy.inv_ag;have hck:=ZeS (w:=w) hk xs.isEmpty 9998 (xs:=ys) (by rw[<-hlen,hrel.length];simp);have hfind:=ZhH (w:=w) hk (a.eval y) xs.toList;have q1:=(ZiE (w:=w) hk (zX hf h2) r1 r2 0).1 _ hlk;simp only at q1;refine Ok.pure hi (x:=if c=true then .tuple #[z,.bool false]else z) ?_ ?_
    .simp only[Go.execOp,ho,Go.Instr.lookup,he,Sem.run_bind,Go.run_underlying hu,Result.andThen_ok,hget,Sem.run_pure,hys];rw[hys]at hfind q1;simp only[hck,hfind,q1,Result.andThen_ok,Sem.run_bind,Zef hi' hz,Sem.run_pure]
    .cases c with
     |true=>exact .tu (.cons hzv (.cons (.b false) .nil))
     |false=>exact hzv
   .cases ha
  .cases ha
 .cases ha
theorem Zra(hi:Inv K w0 ρ h w)(hf:FrRel K ρ fr a){o:Go.Oper}{t kt et:TypeId}{x y u:Go.Operand}{x' y' u':Opd}{ks:List FK}(ho:o.op=.mapUpdate t x y u)(hu:P.underlying t=some (.map kt et))(hk:KeyT P kt ks)(h1:nX K x=some x')(h2:nX K y=some y')(h3:nX K u=some u')
  (ha:act h.m nr fr.ev (.mup ks x' y' u')=some (v,up)):Ok P K w0 ρ h a o w v up:=by
 simp only[act]at ha;have hx:=zX hf h1;have hy:=zX hf h2;have hv:=zX hf h3;split at ha
 .rename_i r hr;rw[hr]at hx;obtain⟨L,hL,he⟩:=hx.inv_mp;split at ha
  .rename_i es hes;obtain⟨L',hL',_,xs,cl,hb,r1,r2⟩:=hi.mp r es hes;rw[hL]at hL';cases hL';have hget:=Go.MapKept.run_getObj_map (P:=P) hb;split at ha
   .rename_i es' hup;simp only[Option.some.injEq,Prod.mk.injEq]at ha;obtain⟨rfl,rfl⟩:=ha;obtain⟨cs,hcs,hlen⟩:=Zpu hup;rw[hcs]at hy;obtain⟨ys,hys,hrel⟩:=hy.inv_ag;have hck:=ZeS (w:=w) hk false 9998 (xs:=ys) (by rw[<-hlen,hrel.length];simp);have hfind:=ZhH (w:=w) hk (a.eval y) xs.toList;rw[hys]at hfind;rcases(ZiE (w:=w) hk (zX hf h2) r1 r2 0).2 _ _ hup with⟨q1,rfl⟩|⟨j,val,q1,q2,rfl,q,q3,q4⟩
    .refine⟨Go.undef,_,ρ,.inr ⟨?_,rfl⟩,Rho.le.refl _,.tu .nil,hi.writeMap (cl':=cl+1) (xs':=xs.push { key:=a.eval y,val:=a.eval u,born:=cl }) hes hL hb ?_ ?_⟩
     .rw[hys]at q1;simp only[Go.execOp,ho,Go.Instr.mapUpdate,he,Sem.run_bind,Go.run_underlying hu,Result.andThen_ok,hget,hys,hck,hfind,q1,Go.MapKept.run_setObj_map _ hb,Sem.run_pure]
     .simp only[List.map_append,List.map_cons,List.map_nil,Array.toList_push];exact r1.snoc' (zX hf h2)
     .simp only[List.map_append,List.map_cons,List.map_nil,Array.toList_push];exact r2.snoc' hv
    .have hjl:j<xs.size:=by
      have:=r1.length;simp at this;omega
     have hold:Rel K ρ q xs[j].key:=by
      have:=r1;obtain⟨y0,hy0,hr0⟩:=this.get (i:=j) (v:=q) (by simpa[List.getElem?_map]using q3);simp[hjl]at hy0;rw[hy0];exact hr0
     have hkeep:(Go.Instr.keyThatStays xs[j].key (a.eval y)).run P w=.ok (a.eval y) w:=by
      obtain⟨cs1,ds1,e1,e2,hs⟩:=Zff q4;rw[e2]at hold;obtain⟨zs,hzs,hrz⟩:=hold.inv_ag;rw[hcs]at e1;cases e1;obtain⟨g1,g2⟩:=Zki hk.ints hs hrel hrz;have:zs=ys:=Array.ext' g1.symm;subst this;rw[hzs,hys];unfold Go.Instr.keyThatStays;rw[Zia (n:=9999) g2];rfl
     refine⟨Go.undef,_,ρ,.inr ⟨?_,rfl⟩,Rho.le.refl _,.tu .nil,hi.writeMap (cl':=cl) (xs':=xs.modify j λe=>{ e with key:=a.eval y,val:=a.eval u }) hes hL hb ?_ ?_⟩
     .rw[hys]at q1 hkeep;have hgk:((xs[j]?).map (·.key)).getD (.agg ys)=xs[j].key:=by simp[hjl]
      simp only[Go.execOp,ho,Go.Instr.mapUpdate,he,Sem.run_bind,Go.run_underlying hu,Result.andThen_ok,hget,hys,hck,hfind,q1,Nat.zero_add,hgk,hkeep,Go.MapKept.run_setObj_map _ hb,Sem.run_pure]
     .have e1:(xs.modify j λe=>{ e with key:=a.eval y,val:=a.eval u }).toList.map (·.key)=(xs.toList.map (·.key)).set j (a.eval y):=by
       apply List.ext_getElem?;intro m;simp only[List.getElem?_map,Array.getElem?_toList,Array.getElem?_modify,List.getElem?_set,List.length_map,Array.length_toList];by_cases c:j=m
       .subst c;simp[hjl]
       .simp[c]
      rw[e1,List.map_set];exact r1.set' j (zX hf h2)
     .have e1:(xs.modify j λe=>{ e with key:=a.eval y,val:=a.eval u }).toList.map (·.val)=(xs.toList.map (·.val)).set j (a.eval u):=by
       apply List.ext_getElem?;intro m;simp only[List.getElem?_map,Array.getElem?_toList,Array.getElem?_modify,List.getElem?_set,List.length_map,Array.length_toList];by_cases c:j=m
       .subst c;simp[hjl]
       .simp[c]
      rw[e1,List.map_set];exact r2.set' j hv
   .cases ha
  .cases ha
 .cases ha
theorem ZoP(hi:Inv K w0 ρ h w)(hf:FrRel K ρ fr a){o:Go.Oper}{c:Go.Call}{t kt et:TypeId}{x:Go.Operand}{x':Opd}(ho:o.op=.call c)(hb:c.callee=.builtin .len)(hargs:c.args=#[x])(hts:c.argTypes=#[t])(hu:P.underlying t=some (.map kt et))(h1:nX K x=some x')
  (ha:act h.m nr fr.ev (.mlen x')=some (v,up)):Ok P K w0 ρ h a o w v up:=by
 simp only[act]at ha;have hx:=zX hf h1;split at ha
 .rename_i r hr;rw[hr]at hx;obtain⟨L,hL,he⟩:=hx.inv_mp;split at ha
  .rename_i es hes;simp only[Option.some.injEq,Prod.mk.injEq]at ha;obtain⟨rfl,rfl⟩:=ha;obtain⟨L',hL',_,xs,cl,hbk,r1,r2⟩:=hi.mp r es hes;rw[hL]at hL';cases hL';have hl:=r1.length;simp only[List.length_map,Array.length_toList]at hl;refine Ok.pure hi (x:=Go.goInt xs.size) (Zbk ho hb rfl ?_) (by rw[hl];exact .i _ _);simp only[hargs,hts,Go.Builtin.len_];simp[Go.run_underlying hu,he,Go.MapKept.run_getObj_map hbk]
  .cases ha
 .cases ha
end ops
end Mu
