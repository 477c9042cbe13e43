/- The evaluator and the model: the built-in functions. -/
import Derived.Test.YtjhlegefgllihaaGreatMuE6
import Derived.Lib.AppendZeros
namespace Mu
open Go (IntKind BinOp UnOp Value World Addr TypeId Program Sem Result Next)
open Go.RowKit (Below)
set_option linter.unusedVariables false

theorem Inv.adopt{K:Fid}{w0 w:World}{ρ:Rho}{h:Hp}(hi:Inv K w0 ρ h w){r nr:Nat}{cs ds:List V}(hr:h.m r=some (.cells true cs))(hn:h.m nr=none){L:Loc}(hL:ρ r=some L)
  {c d:Array Value}{e:TypeId}(hb:w.heap[L.blk]?=some (.cells c e (0,0)))(hd:d.size=c.size){o:Nat}(hlen:L.off+o+ds.length<=L.size)(hrel:RelL K ρ ds ((d.toList.drop (L.off+o)).take ds.length)) :
  Inv K w0 (ρ.set nr ⟨L.blk,L.off+o,L.size⟩) ((h.put nr (.cells true ds)).put r .dead) (w.setRow L.blk d):=by
 obtain⟨L0,k1,k2,c0,e0,k3,k4,k5,k6⟩:=hi.rw r cs hr;rw[hL]at k1;cases k1;rw[hb]at k3;simp only[Option.some.injEq,Go.Obj.cells.injEq]at k3;obtain⟨rfl,rfl,_⟩:=k3;have hne:nr≠r:=λe=>by rw[e,hr]at hn;cases hn
 have hρ:ρ nr=none:=(hi.dom nr).2 hn;have hle:=Rho.le_set hρ ⟨L.blk,L.off+o,L.size⟩;have m1:∀q,q≠nr->q≠r->((h.put nr (.cells true ds)).put r .dead).m q=h.m q:=λq h1 h2=>by rw[Hp.put_m,if_neg h2,Hp.put_m,if_neg h1]
 have m2:((h.put nr (.cells true ds)).put r .dead).m nr=some (.cells true ds):=by rw[Hp.put_m,if_neg hne,Hp.put_m,if_pos rfl]
 have m3:((h.put nr (.cells true ds)).put r .dead).m r=some .dead:=by rw[Hp.put_m,if_pos rfl]
 have s1:∀q,q≠nr->(ρ.set nr ⟨L.blk,L.off+o,L.size⟩) q=ρ q:=λq hq=>by unfold Rho.set;rw[if_neg hq]
 have s2:(ρ.set nr ⟨L.blk,L.off+o,L.size⟩) nr=some ⟨L.blk,L.off+o,L.size⟩:=by unfold Rho.set;rw[if_pos rfl]
 -- who is alive,but for the new one,was,and lies elsewhere
 have old:∀q M,q≠nr->ρ q=some M->((∃cs',((h.put nr (.cells true ds)).put r .dead).m q=some (.cells true cs'))\/∃es,((h.put nr (.cells true ds)).put r .dead).m q=some (.mp es))->
   M.blk≠L.blk/\q≠r/\((∃cs',h.m q=some (.cells true cs'))\/∃es,h.m q=some (.mp es)):=by
  intro q M hq hM ha;have hqr:q≠r:=λe=>by
   subst e;rcases ha with⟨_,ha⟩|⟨_,ha⟩<;>(rw[m3]at ha;cases ha)
  rw[m1 q hq hqr]at ha;exact⟨λeb=>hqr (hi.inj q r M L hM hL ha (.inl ⟨_,hr⟩) eb),hqr,ha⟩
 refine⟨Go.below_setRow hi.below k2 d,λq=>?_,λq ds' hq=>?_,λq ds' hq=>?_,λq es hq=>?_,λq q' M M' h1 h2 h3 h4 h5=>?_⟩
 .by_cases e:q=nr
  .subst e;simp[m2,s2]
  .rw[s1 q e];by_cases e':q=r
   .subst e';simp[m3,hL]
   .rw[m1 q e e'];exact hi.dom q
 .have e1:q≠nr:=λe=>by subst e;rw[m2]at hq;cases hq
  have e2:q≠r:=λe=>by subst e;rw[m3]at hq;cases hq
  rw[m1 q e1 e2]at hq;obtain⟨M,g1,g2,g3⟩:=hi.ro q ds' hq;refine⟨M,hle _ _ g1,g2,λi v hv=>?_⟩;obtain⟨x,hx,hxr⟩:=g3 i v hv;exact⟨x,by rw[World.cell?_of_block (w:=w) (Go.setRow_other w L.blk M.blk d (by omega))];exact hx,hxr.mono hle⟩
 .by_cases e1:q=nr
  .subst e1;rw[m2]at hq;simp only[Option.some.injEq,Obj.cells.injEq,true_and]at hq;subst hq;exact⟨_,s2,k2,d,e,Go.setRow_heap w L.blk c d e _ hb,by rw[hd,k4],hlen,hrel.mono hle⟩
  .have e2:q≠r:=λe=>by subst e;rw[m3]at hq;cases hq
   have hact:=hq;rw[m1 q e1 e2]at hq;obtain⟨M,g1,g2,d',e',g3,g4,g5,g6⟩:=hi.rw q ds' hq;obtain⟨o1,_,_⟩:=old q M e1 g1 (.inl ⟨_,hact⟩);exact⟨M,hle _ _ g1,g2,d',e',by rw[Go.setRow_other w L.blk M.blk d o1];exact g3,g4,g5,g6.mono hle⟩
 .have e1:q≠nr:=λe=>by subst e;rw[m2]at hq;cases hq
  have e2:q≠r:=λe=>by subst e;rw[m3]at hq;cases hq
  have hact:=hq;rw[m1 q e1 e2]at hq;obtain⟨M,g1,g2,xs,cl,g3,g4,g5⟩:=hi.mp q es hq;obtain⟨o1,_,_⟩:=old q M e1 g1 (.inr ⟨_,hact⟩);exact⟨M,hle _ _ g1,g2,xs,cl,by rw[Go.setRow_other w L.blk M.blk d o1];exact g3,g4.mono hle,g5.mono hle⟩
 .by_cases e1:q=nr
  .by_cases e2:q'=nr
   .rw[e1,e2]
   .rw[s1 q' e2]at h2;rw[e1,s2]at h1;cases h1;exact absurd h5.symm (old q' M' e2 h2 h4).1
  .rw[s1 q e1]at h1;by_cases e2:q'=nr
   .rw[e2,s2]at h2;cases h2;exact absurd h5 (old q M e1 h1 h3).1
   .rw[s1 q' e2]at h2;exact hi.inj q q' M M' h1 h2 (old q M e1 h1 h3).2.2 (old q' M' e2 h2 h4).2.2 h5

section ops
variable {P:Program}{K:Fid}{ρ:Rho}{w0 w:World}{h:Hp}{fr:Fr}{a:Go.Act}{nr:Nat}{v:V}{up:List (Nat×Obj)}

theorem ZiO{o:Go.Oper}{c:Go.Call}{b:Go.Builtin}(ho:o.op=.call c)(hb:c.callee=.builtin b) :
  Go.execOp a.eval o=Go.builtin b c.argTypes o.type (c.args.map fun|.const _=>true|_=>false) (c.args.map a.eval):=by
 simp only[Go.execOp,ho,Go.resolve,hb];rfl

theorem Zbk{o:Go.Oper}{c:Go.Call}{b:Go.Builtin}(ho:o.op=.call c)(hb:c.callee=.builtin b){s:Sem Value}
  (hs:Go.builtin b c.argTypes o.type (c.args.map fun|.const _=>true|_=>false) (c.args.map a.eval)=do pure (.value (<-s))){x:Value}{w':World}(hr:s.run P w=.ok x w'):(Go.execOp a.eval o).run P w=.ok (.value x) w':=by
 rw[ZiO ho hb,hs];simp[hr]

theorem ZqH(hi:Inv K w0 ρ h w)(hf:FrRel K ρ fr a){o:Go.Oper}{c:Go.Call}{t e:TypeId}{x:Go.Operand}{x':Opd}(ho:o.op=.call c)(hb:c.callee=.builtin .len)(hargs:c.args=#[x])(hts:c.argTypes=#[t])(hu:P.underlying t=some (.slice e))(h1:nX K x=some x')
  (ha:act h.m nr fr.ev (.len x')=some (v,up)):Ok P K w0 ρ h a o w v up:=by
 have hx:=zX hf h1;simp only[act]at ha;split at ha
 .rename_i n hn;simp only[Option.some.injEq,Prod.mk.injEq]at ha;obtain⟨rfl,rfl⟩:=ha;have hl:∃A C,a.eval x=.slice A n C:=by
   generalize fr.ev x'=p at hx hn;cases p<;>simp only[V.len,Option.some.injEq,reduceCtorEq]at hn
   .subst hn;generalize a.eval x=q at hx;cases hx;exact⟨_,_,rfl⟩
   .subst hn;exact⟨_,_,hx.inv_sn⟩
  obtain⟨A,C,hA⟩:=hl;refine Ok.pure hi (x:=Go.goInt n) (Zbk ho hb rfl ?_) (.i _ _);simp only[hargs,hts,Go.Builtin.len_];simp[Go.run_underlying hu,hA]
 .cases ha

theorem Zqw(hi:Inv K w0 ρ h w)(hf:FrRel K ρ fr a){o:Go.Oper}{c:Go.Call}{t e:TypeId}{x:Go.Operand}{x':Opd}(ho:o.op=.call c)(hb:c.callee=.builtin .cap)(hargs:c.args=#[x])(hts:c.argTypes=#[t])(hu:P.underlying t=some (.slice e))(h1:nX K x=some x')
  (ha:act h.m nr fr.ev (.capn x')=some (v,up)):Ok P K w0 ρ h a o w v up:=by
 have hx:=zX hf h1;simp only[act]at ha;split at ha
 .rename_i hs;simp only[Option.some.injEq,Prod.mk.injEq]at ha;obtain⟨rfl,rfl⟩:=ha;rw[hs]at hx;refine Ok.pure hi (x:=Go.goInt 0) (Zbk ho hb rfl ?_) (.i _ _);simp only[hargs,hts,Go.Builtin.cap_];simp[Go.run_underlying hu,hx.inv_sn]
 .cases ha

theorem Zpp(hi:Inv K w0 ρ h w)(hf:FrRel K ρ fr a){o:Go.Oper}{c:Go.Call}{t:TypeId}{x:Go.Operand}{x':Opd}(ho:o.op=.call c)(hb:c.callee=.builtin .len)(hargs:c.args=#[x])(hts:c.argTypes=#[t])(hu:P.underlying t=some .string)(h1:nX K x=some x')
  (ha:act h.m nr fr.ev (.slen x')=some (v,up)):Ok P K w0 ρ h a o w v up:=by
 have hx:=zX hf h1;simp only[act]at ha;split at ha
 .rename_i s hs;simp only[Option.some.injEq,Prod.mk.injEq]at ha;obtain⟨rfl,rfl⟩:=ha;rw[hs]at hx;refine Ok.pure hi (x:=Go.goInt s.size) (Zbk ho hb rfl ?_) (.i _ _);simp only[hargs,hts,Go.Builtin.len_];simp[Go.run_underlying hu,hx.inv_s]
 .cases ha

theorem Zoe(hi:Inv K w0 ρ h w)(hf:FrRel K ρ fr a){o:Go.Oper}{c:Go.Call}{t e:TypeId}{n:Nat}{x:Go.Operand}(ho:o.op=.call c)(hb:c.callee=.builtin .len)(hargs:c.args=#[x])(hts:c.argTypes=#[t])(hu:P.underlying t=some (.array n e))
  (ha:act h.m nr fr.ev (.cst (.n n))=some (v,up)):Ok P K w0 ρ h a o w v up:=by
 simp only[act,Option.some.injEq,Prod.mk.injEq]at ha;obtain⟨rfl,rfl⟩:=ha;refine Ok.pure hi (x:=Go.goInt n) (Zbk ho hb rfl ?_) (.i _ _);simp only[hargs,hts,Go.Builtin.len_];simp[Go.run_underlying hu]

theorem Zh0(hf:FrRel K ρ fr a):∀{xs:List Go.Operand}{ys:List Opd}{k:IntKind}{ns:List Int},nXs K xs=some ys->V.ints fr.ev ys=some (k,ns)->xs.map a.eval=ns.map (Value.int k)/\ns≠[]
 |[],ys,k,ns,h1,h2=>by simp only[nXs,Option.some.injEq]at h1;subst h1;simp[V.ints]at h2
 | x::xs,ys,k,ns,h1,h2=>by
  simp only[nXs]at h1;split at h1
  .rename_i y ys' e1 e2;simp only[Option.some.injEq]at h1;subst h1;have hx:=zX hf e1
   cases ys' with
   | nil=>
    have hnil:xs=[]:=by
     cases xs with
     |nil=>rfl
     |cons z zs=>simp only[nXs]at e2;split at e2<;>simp at e2
    subst hnil;simp only[V.ints]at h2;split at h2
    .rename_i k' n hk;simp only[Option.some.injEq,Prod.mk.injEq]at h2;obtain⟨rfl,rfl⟩:=h2;rw[hk]at hx;simp[hx.inv_i]
    .cases h2
   | cons y' ys''=>
    simp only[V.ints]at h2;split at h2
    .rename_i k1 n k2 ns' hk1 hk2;split at h2
     .rename_i hkk;subst hkk;simp only[Option.some.injEq,Prod.mk.injEq]at h2;obtain⟨rfl,rfl⟩:=h2;rw[hk1]at hx;obtain⟨r1,r2⟩:=Zh0 hf e2 hk2;simp[hx.inv_i,r1]
     .cases h2
    .cases h2
  .cases h1

theorem Zl4(k:IntKind):∀(ns:List Int)(n:Int),((ns.map (Value.int k)).foldlM Go.Builtin.max2 (.int k n)).run P w=.ok (.int k (ns.foldl (λx y=>if y > x then y else x) n)) w
 |[],n=>rfl
 |m::ns,n=>by
  simp only[List.map_cons,List.foldlM_cons,Sem.run_bind,Go.Builtin.max2,Sem.run_pure,Result.andThen_ok,List.foldl_cons];exact Zl4 k ns _
theorem Zl5(k:IntKind):∀(ns:List Int)(n:Int),((ns.map (Value.int k)).foldlM Go.Builtin.min2 (.int k n)).run P w=.ok (.int k (ns.foldl (λx y=>if y<x then y else x) n)) w
 |[],n=>rfl
 |m::ns,n=>by
  simp only[List.map_cons,List.foldlM_cons,Sem.run_bind,Go.Builtin.min2,Sem.run_pure,Result.andThen_ok,List.foldl_cons];exact Zl5 k ns _

theorem Ztg(hi:Inv K w0 ρ h w)(hf:FrRel K ρ fr a){o:Go.Oper}{c:Go.Call}{xs:List Opd}(ho:o.op=.call c)(hb:c.callee=.builtin .max)(h1:nXs K c.args.toList=some xs)
  (ha:act h.m nr fr.ev (.mx xs)=some (v,up)):Ok P K w0 ρ h a o w v up:=by
 simp only[act]at ha;split at ha
 .rename_i k n ns hk;simp only[Option.some.injEq,Prod.mk.injEq]at ha;obtain⟨rfl,rfl⟩:=ha;obtain⟨r1,_⟩:=Zh0 hf h1 hk;refine Ok.pure hi (x:=.int k (ns.foldl (λx y=>if y > x then y else x) n)) (Zbk ho hb rfl ?_) (.i _ _);simp only[Go.Builtin.max_,Array.toList_map,r1,List.map_cons];exact Zl4 k ns n
 .cases ha
theorem Ztf(hi:Inv K w0 ρ h w)(hf:FrRel K ρ fr a){o:Go.Oper}{c:Go.Call}{xs:List Opd}(ho:o.op=.call c)(hb:c.callee=.builtin .min)(h1:nXs K c.args.toList=some xs)
  (ha:act h.m nr fr.ev (.mn xs)=some (v,up)):Ok P K w0 ρ h a o w v up:=by
 simp only[act]at ha;split at ha
 .rename_i k n ns hk;simp only[Option.some.injEq,Prod.mk.injEq]at ha;obtain⟨rfl,rfl⟩:=ha;obtain⟨r1,_⟩:=Zh0 hf h1 hk;refine Ok.pure hi (x:=.int k (ns.foldl (λx y=>if y<x then y else x) n)) (Zbk ho hb rfl ?_) (.i _ _);simp only[Go.Builtin.min_,Array.toList_map,r1,List.map_cons];exact Zl5 k ns n
 .cases ha

theorem Zfm(hi:Inv K w0 ρ h w){es r o n c:Nat}{ex b:Bool}{cs:List V}{X:Value}(hx:Rel K ρ (.sl es r o n c ex) X)(hr:h.m r=some (.cells b cs)){m:Nat}(hm:m<=n)(hl:o+m*es<=cs.length) :
  ∃A C L xs,X=.slice (some A) n C/\ρ r=some L/\n<=c/\c<=C/\(ex=true->C=c)/\0<es/\(C=0\/(A=⟨L.blk,L.off+o,none⟩/\L.off+o+C*es<=L.size))/\RelL K ρ (piece cs o (m*es)) xs/\xs.length=m*es/\∀j x,xs[j]?=some x->w.cell? (A.add j)=some x:=by
 obtain⟨L,hL,ys,hrel,hc⟩:=hi.reads hr
 cases hx with
 | sl hL' hln hcc hxx hs hA=>
  rename_i C L' A;rw[hL]at hL';cases hL';have hlen:=hrel.length;refine⟨A,C,L,(ys.drop o).take (m*es),rfl,hL,hln,hcc,hxx,hs,hA,hrel.piece o _,by simp;omega,λj x hj=>?_⟩;rcases hA with hA|⟨hA,_⟩
  .have:m=0:=by omega
   subst this;simp at hj
  .rw[hA,Zdf];rw[List.getElem?_take]at hj;split at hj
   .rw[List.getElem?_drop]at hj;rw[Nat.add_assoc];exact hc _ _ hj
   .cases hj

theorem ZlP{w:World}{Zgg old:Nat}{e:TypeId}:Zgg<=Go.grownCap w Zgg old e:=Go.grownCap_ge w Zgg old e

theorem ZfR(hi:Inv K w0 ρ h w)(hn:h.m nr=none){o:Go.Oper}{e:TypeId}{i:Go.TypeInfo}{z:Value}(hz:z.cells.size=i.size)(hs:0<i.size){N:Nat}{ds:List V}{ys:List Value}(hrel:RelL K ρ ds ys)(hlen:ys.length=N*i.size){old:Nat}
  (hr:(Go.execOp a.eval o).run P w=.ok (.value (.slice (some ⟨w.heap.size,0,none⟩) N (Go.grownCap w N old e))) (w.drew.alloc (.cells (ys.toArray++Go.Builtin.zeroCells z.cells (Go.grownCap w N old e-N)) e))) :
  Ok P K w0 ρ h a o w (.sl i.size nr 0 N N false) [(nr,.cells true ds)]:=by
 have hge:=ZlP (w:=w) (Zgg:=N) (old:=old) (e:=e);have hzc:(Go.Builtin.zeroCells z.cells (Go.grownCap w N old e-N)).size=(Go.grownCap w N old e-N)*i.size:=by rw[Go.size_zeroCells,hz]
 have hl:=hrel.length;have hsz:(ys.toArray++Go.Builtin.zeroCells z.cells (Go.grownCap w N old e-N)).size=Go.grownCap w N old e*i.size:=by
  rw[Array.size_append,hzc,List.size_toArray,hlen,<-Nat.add_mul];congr 1;omega
 refine⟨_,_,ρ.set nr ⟨w.heap.size,0,(ys.toArray++Go.Builtin.zeroCells z.cells (Go.grownCap w N old e-N)).size⟩,.inl hr,Rho.le_set ((hi.dom nr).2 hn) _,?_,?_⟩
 .exact .sl Zeg (Nat.le_refl _) hge (by simp) hs (.inr ⟨by simp,by rw[hsz];simp⟩)
 .refine hi.drew.alloc hn ?_ ?_
  .rw[hsz,hl,hlen];exact Nat.mul_le_mul_right _ hge
  .rw[hl];simpa using hrel

theorem ZmX(hi:Inv K w0 ρ h w)(hf:FrRel K ρ fr a)(hn:h.m nr=none){o:Go.Oper}{c:Go.Call}{t t' e:TypeId}{x y:Go.Operand}{x' y':Opd}{i:Go.TypeInfo}{z:List V}(ho:o.op=.call c)(hb:c.callee=.builtin .append)(hargs:c.args=#[x,y])(hts:c.argTypes=#[t,t'])
  (hu:P.underlying t=some (.slice e))(hu':P.underlying t'=some (.int .i64))(hie:P.info? e=some i)(hz1:Zec P K e=some z)(hs:0<i.size)(hzl:z.length=i.size)(hby:0<i.bytes)(h1:nX K x=some x')(h2:nX K y=some y')
  (ha:act h.m nr fr.ev (.growz i.size i.bytes z x' y')=some (v,up)):Ok P K w0 ρ h a o w v up:=by
 obtain⟨i',zv,g1,g2,g3⟩:=Zd2 (ρ:=ρ) hz1;rw[hie]at g1;cases g1;have rx:=zX hf h1;have ry:=zX hf h2;have hzs:zv.cells.size=i.size:=by have:=g3.length;simp at this;omega
 simp only[act]at ha;split at ha
 .rename_i k n hx hy;rw[hx]at rx;rw[hy]at ry;split at ha
  .rename_i hq;obtain⟨q1,q2⟩:=hq;simp only[Option.some.injEq,Prod.mk.injEq]at ha;obtain⟨rfl,rfl⟩:=ha;obtain⟨N,rfl⟩:=Int.eq_ofNat_of_zero_le (Int.le_of_lt q1);simp only[Int.toNat_natCast]at*;have hb2:N<=140737488355328:=Nat.le_trans (Nat.le_mul_of_pos_right _ hby) q2;have hm:=Go.Lib.run_append_nil_zeros (P:=P) w t t' o.type e i zv k .i64 hu hu' hie g2 N (by omega) hs (by omega) (by omega);have hrun:(Go.execOp a.eval o).run P w=.ok (.value (.slice (some ⟨w.heap.size,0,none⟩) N (Go.grownCap w N 0 e))) (w.drew.alloc (.cells (Go.Builtin.zeroCells zv.cells N++Go.Builtin.zeroCells zv.cells (Go.grownCap w N 0 e-N)) e)):=by
    refine Zbk ho hb rfl ?_;simp only[hargs,hts];have:(#[x,y].map a.eval)=#[.slice none 0 0,.int k N]:=by simp[rx.inv_sn,ry.inv_i]
    rw[this];exact hm
   obtain⟨N,rfl⟩:∃m,N=m+1:=⟨N-1,by omega⟩;have hzc:(Go.Builtin.zeroCells zv.cells (N+1)).toList=(List.replicate (N+1) zv.cells.toList).flatten:=Zfy _ (by omega) _;refine ZfR hi hn hzs hs (N:=N+1) (ys:=(List.replicate (N+1) zv.cells.toList).flatten) (g3.replicate (N+1)) (by simp[hzs]) (old:=0) (e:=e) ?_;rw[hrun,<-hzc,Array.toArray_toList]
  .cases ha
 .cases ha

theorem Zqp (hi:Inv K w0 ρ h w)(hf:FrRel K ρ fr a)(hn:h.m nr=none){o:Go.Oper}{c:Go.Call}{t e:TypeId}{x y:Go.Operand}{x' y':Opd}{i:Go.TypeInfo}{z:Value}(ho:o.op=.call c)(hb:c.callee=.builtin .append)(hargs:c.args=#[x,y])(hts:c.argTypes=#[t,t])
  (hu:P.underlying t=some (.slice e))(hie:P.info? e=some i)(hs:0<i.size)(hby:0<i.bytes)(hz:i.zero=some z)(hzs:z.cells.size=i.size)(h1:nX K x=some x')(h2:nX K y=some y')
  (ha:act h.m nr fr.ev (.app i.size i.bytes x' y')=some (v,up)):Ok P K w0 ρ h a o w v up:=by
 have hx:=zX hf h1;have hy:=zX hf h2;generalize hX:a.eval x=X at hx;generalize hY:a.eval y=Y at hy;have ofRun:∀{q:Value}{w':World},(Go.Builtin.append_ #[t,t] o.type #[X,Y]).run P w=.ok q w'->(Go.execOp a.eval o).run P w=.ok (.value q) w':=by
  intro q w' hr;refine Zbk ho hb rfl ?_;simp only[hargs,hts];have:(#[x,y].map a.eval)=#[X,Y]:=by simp[hX,hY]
  rw[this];exact hr
 -- nothing more:what was there
 have nothing:∀{A:Option Addr}{n C:Nat},X=.slice A n C->n<=C->(∃B m,Y=.slice B 0 m)->(Go.Builtin.append_ #[t,t] o.type #[X,Y]).run P w=.ok X w:=by
  rintro A n C rfl hC ⟨B,m,rfl⟩;have hfc:(Go.Builtin.firstCells i.size 0 (.slice B 0 m)).run P w=.ok #[] w:=by
   cases B<;>simp[Go.Builtin.firstCells,Go.loadCells,Go.loadCellsFrom]
  cases A<;>simp[Go.Builtin.append_,Go.run_underlying hu,ZaQ hie,Go.Builtin.lenOf,hC,hfc,Go.storeCells]
 simp only[act]at ha;split at ha
 .rename_i hp;rw[hp]at hx;have hXn:=hx.inv_sn;subst hXn;split at ha
  .rename_i hq;rw[hq]at hy;simp only[Option.some.injEq,Prod.mk.injEq]at ha;obtain⟨rfl,rfl⟩:=ha;have hYn:=hy.inv_sn;exact Ok.pure hi (ofRun (nothing rfl (Nat.le_refl _) ⟨_,_,hYn⟩)) .sn
  .rename_i es' r' o' n' c' ex' hq;rw[hq]at hy;split at ha
   .rename_i hes;subst hes;split at ha
    .rename_i hn0;subst hn0;simp only[Option.some.injEq,Prod.mk.injEq]at ha;obtain⟨rfl,rfl⟩:=ha;cases hy;exact Ok.pure hi (ofRun (nothing rfl (Nat.le_refl _) ⟨_,_,rfl⟩)) .sn
    .rename_i hn0;split at ha
     .rename_i b' cs' hr';split at ha
      .rename_i hcc;obtain⟨c1,c2⟩:=hcc;simp only[Option.some.injEq,Prod.mk.injEq]at ha;obtain⟨rfl,rfl⟩:=ha;obtain⟨A,C,L,ys,rfl,hL,g1,g2,g3,g4,g5,g6,g7,g8⟩:=Zfm hi hy hr' (Nat.le_refl _) c1;have hb2:n'<=140737488355328:=Nat.le_trans (Nat.le_mul_of_pos_right _ hby) c2;have hrun:=Go.run_append_nil (P:=P) w t o.type e i z hu hie hz A n' C ys g7 g8 (by omega) (by omega) (by omega);refine ZfR hi hn hzs hs g6 g7 (old:=0) (ofRun hrun)
      .cases ha
     .cases ha
   .cases ha
  .cases ha
 .rename_i es r q n c0 ex hp;rw[hp]at hx;split at ha
  .rename_i hes;subst hes;split at ha
   .rename_i hq;rw[hq]at hy;have hYn:=hy.inv_sn;simp only[Option.some.injEq,Prod.mk.injEq]at ha;obtain⟨rfl,rfl⟩:=ha;have hx':=hx
    cases hx with
    |sl hL hln hcc hxx hs' hA=>exact Ok.pure hi (ofRun (nothing rfl (by omega) ⟨_,_,hYn⟩)) hx'
   .rename_i es' r' o' n' c' ex' hq;rw[hq]at hy;split at ha
    .rename_i hes;subst hes;split at ha
     .rename_i hn0;subst hn0;simp only[Option.some.injEq,Prod.mk.injEq]at ha;obtain⟨rfl,rfl⟩:=ha;have hx':=hx
      cases hx with
      |sl hL hln hcc hxx hs' hA=>
       cases hy;exact Ok.pure hi (ofRun (nothing rfl (by omega) ⟨_,_,rfl⟩)) hx'
     .rename_i hn0;split at ha
      .rename_i hg;obtain⟨rfl,hg2,hg3⟩:=hg;split at ha
       .rename_i b' cs' hr';split at ha
        .rename_i hcc;obtain⟨c2,c3⟩:=hcc;simp only[Option.some.injEq,Prod.mk.injEq]at ha;obtain⟨rfl,rfl⟩:=ha;obtain⟨A',C',L',ys,rfl,hL',k1,k2,k3,k4,k5,k6,k7,k8⟩:=Zfm hi hy hr' (Nat.le_refl _) c2;have hb2:n'<=140737488355328:=Nat.le_trans (Nat.le_mul_of_pos_right _ hby) c3
         cases hx with
         |@sl _ _ _ _ _ C _ _ A hL hln hcc hxx hs' hA=>
          have hC:=hxx hg2;have hlt:C<0+n':=by omega
          have hrun:=Go.run_append_grow (P:=P) w t o.type e i z hu hie hz A 0 C [] (by simp) (λj x hj=>by simp at hj) A' n' C' ys k7 k8 hlt (by omega) (Go.growslice_fits hlt (by rw[Nat.zero_add];exact c3));have:=ofRun hrun;simp only[Nat.zero_add,Array.empty_append]at this;exact ZfR hi hn hzs hs k6 k7 this
        .cases ha
       .cases ha
      rename_i hg;split at ha
      .rename_i b cs b' cs' hr hr';split at ha
       .rename_i hcc;obtain⟨c1,c2,c3⟩:=hcc;obtain⟨A,C,L,xs,rfl,hL,g1,g2,g3,g4,g5,g6,g7,g8⟩:=Zfm hi hx hr (Nat.le_refl _) c1;obtain⟨A',C',L',ys,rfl,hL',k1,k2,k3,k4,k5,k6,k7,k8⟩:=Zfm hi hy hr' (Nat.le_refl _) c2;have hb2:n+n'<=140737488355328:=Nat.le_trans (Nat.le_mul_of_pos_right _ hby) c3
        -- where it grows
        have grows:C<n+n'->(Go.execOp a.eval o).run P w=.ok (.value (.slice (some ⟨w.heap.size,0,none⟩) (n+n') (Go.grownCap w (n+n') C e))) (w.drew.alloc (.cells ((xs++ys).toArray++Go.Builtin.zeroCells z.cells (Go.grownCap w (n+n') C e-(n+n'))) e)):=by
         intro hlt;have hrun:=Go.run_append_grow (P:=P) w t o.type e i z hu hie hz A n C xs g7 g8 A' n' C' ys k7 k8 hlt (by omega) (Go.growslice_fits hlt c3);have:=ofRun hrun;simpa using this
        have hlen2:(xs++ys).length=(n+n')*i.size:=by rw[List.length_append,g7,k7,Nat.add_mul]
        split at ha
        .rename_i hg;simp only[Option.some.injEq,Prod.mk.injEq]at ha;obtain⟨rfl,rfl⟩:=ha;have:=g3 hg.1;exact ZfR hi hn hzs hs (g6.append k6) hlen2 (grows (by omega))
        .split at ha
         .rename_i hb1;obtain⟨hb1,hones⟩:=hb1;subst hb1;simp only[Option.some.injEq,Prod.mk.injEq]at ha;obtain⟨rfl,rfl⟩:=ha;by_cases hlt:C<n+n'
          .obtain⟨X,W',ρ',q1,q2,q3,q4⟩:=ZfR hi hn hzs hs (g6.append k6) hlen2 (grows hlt);refine⟨X,W',ρ',q1,q2,q3,?_⟩;simp only[Hp.puts]at q4⊢;refine q4.kill ?_;have:r≠nr:=λe=>by rw[e,hn]at hr;cases hr
           rw[Hp.put_m,if_neg this,hr];simp
          ·-- it has room
           rcases g5 with g5|⟨g5,g5'⟩
           .omega
           subst g5;obtain⟨L0,q1,q2,cc,ee,q3,q4,q5,q6⟩:=hi.rw r cs hr;rw[hL]at q1;cases q1;have hroom:(n+n')*i.size<=C*i.size:=Nat.mul_le_mul_right _ (by omega);rw[Nat.add_mul]at hroom;have hf2:=Go.run_firstCells_some (P:=P) w i.size n' A' n' C' ys k7 k8;have h1s:∀u∈ys,u.oneCell'=true:=k6.ones hones;have hst:=Go.run_storeCells_at P L.blk (L.off+q+n*i.size) ee ys 0 cc w q3 (by omega) h1s;have hrun:(Go.Builtin.append_ #[t,t] o.type #[.slice (some ⟨L.blk,L.off+q,none⟩) n C,.slice (some A') n' C']).run P w=
             .ok (.slice (some ⟨L.blk,L.off+q,none⟩) (n+n') C) (w.setRow L.blk (cc.toList.take (L.off+q+n*i.size+0)++ys++cc.toList.drop (L.off+q+n*i.size+0+ys.length)).toArray):=by
            have hC2:n+n'<=C:=by omega
            simp[Go.Builtin.append_,Go.run_underlying hu,ZaQ hie,Go.Builtin.lenOf,hC2,hf2,Zdf,hst]
           refine⟨_,_,ρ.set nr ⟨L.blk,L.off+q,L.size⟩,.inl (ofRun hrun),Rho.le_set ((hi.dom nr).2 hn) _,?_,?_⟩
           .exact .sl Zeg (Nat.le_refl _) (by omega) (by simp) hs (.inr ⟨by simp,by simpa using g5'⟩)
           .simp only[Hp.puts];have hdl:(piece cs q (n*i.size)++piece cs' o' (n'*i.size)).length=(n+n')*i.size:=by
             rw[List.length_append,g6.length,k6.length,g7,k7,Nat.add_mul]
            refine hi.adopt hr hn hL q3 ?_ (by rw[hdl,Nat.add_mul];omega) ?_
            .simp only[List.size_toArray,List.length_append,List.length_take,List.length_drop,Array.length_toList];omega
            .rw[hdl];have hccl:cc.toList.length=L.size:=by simpa using q4
             -- the old ones lie there
             have hold:(cc.toList.drop (L.off+q)).take (n*i.size)=((cc.toList.drop L.off).take cs.length |>.drop q).take (n*i.size):=by
              rw[List.drop_take,List.take_take,List.drop_drop];congr 1;omega
             have hrel0:RelL K ρ (piece cs q (n*i.size)) ((cc.toList.drop (L.off+q)).take (n*i.size)):=by
              rw[hold];exact q6.piece q _
             have htk:((cc.toList.take (L.off+q+n*i.size+0)++ys++cc.toList.drop (L.off+q+n*i.size+0+ys.length)).toArray.toList.drop (L.off+q)).take ((n+n')*i.size)=(cc.toList.drop (L.off+q)).take (n*i.size)++ys:=by
              simp only[Nat.add_zero];rw[List.toList_toArray,List.append_assoc,List.drop_append_of_le_length (by simp;omega),List.drop_take,show L.off+q+n*i.size-(L.off+q)=n*i.size by omega,<-List.append_assoc];rw[List.take_append_of_le_length (by simp;rw[k7,Nat.add_mul];omega)];rw[List.take_of_length_le (by simp;rw[k7,Nat.add_mul];omega)]
             rw[htk];exact hrel0.append k6
         .cases ha
       .cases ha
      .cases ha
    .cases ha
   .cases ha
  .cases ha
 .cases ha

theorem Zq0(hi:Inv K w0 ρ h w)(hf:FrRel K ρ fr a){o:Go.Oper}{c:Go.Call}{t t' e:TypeId}{x y:Go.Operand}{x' y':Opd}{i:Go.TypeInfo}(ho:o.op=.call c)(hb:c.callee=.builtin .copy)(hargs:c.args=#[x,y])(hts:c.argTypes=#[t,t'])
  (hu:P.underlying t=some (.slice e))(hie:P.info? e=some i)(hs:0<i.size)(h1:nX K x=some x')(h2:nX K y=some y')
  (ha:act h.m nr fr.ev (.cpy i.size x' y')=some (v,up)):Ok P K w0 ρ h a o w v up:=by
 have hx:=zX hf h1;have hy:=zX hf h2;generalize hX:a.eval x=X at hx;generalize hY:a.eval y=Y at hy;have ofRun:∀{q:Value}{w':World},(Go.Builtin.copy_ #[t,t'] o.type #[X,Y]).run P w=.ok q w'->(Go.execOp a.eval o).run P w=.ok (.value q) w':=by
  intro q w' hr;refine Zbk ho hb rfl ?_;simp only[hargs,hts];have:(#[x,y].map a.eval)=#[X,Y]:=by simp[hX,hY]
  rw[this];exact hr
 have lens:∀{p:V}{Q:Value}{n:Nat},Rel K ρ p Q->p.len=some n->∃A C,Q=.slice A n C:=by
  intro p Q n hr hl;cases p<;>simp only[V.len,Option.some.injEq,reduceCtorEq]at hl
  .subst hl;cases hr;exact⟨_,_,rfl⟩
  .subst hl;exact⟨_,_,hr.inv_sn⟩
 simp only[act]at ha;split at ha
 .rename_i n n' hn hn';obtain⟨A,C,hXs⟩:=lens hx hn;obtain⟨A',C',hYs⟩:=lens hy hn';split at ha
  .rename_i h0;simp only[Option.some.injEq,Prod.mk.injEq]at ha;obtain⟨rfl,rfl⟩:=ha;refine Ok.pure hi (x:=Go.goInt 0) (ofRun ?_) (.i _ _);subst hXs hYs;have hm:Nat.min n' n=0:=h0;have hfc:(Go.Builtin.firstCells i.size 0 (.slice A' n' C')).run P w=.ok #[] w:=by
    cases A'<;>simp[Go.Builtin.firstCells,Go.loadCells,Go.loadCellsFrom]
   cases A<;>simp[Go.Builtin.copy_,Go.run_underlying hu,ZaQ hie,Go.Builtin.lenOf,hm,hfc,Go.storeCells]
  .rename_i h0;split at ha
   .rename_i es r q m c0 ex es' r' q' m' c0' ex' hp hq;split at ha
    .rename_i hes;obtain⟨e1,e2⟩:=hes;subst e1 e2;split at ha
     .rename_i cs b' cs' hr hr';split at ha
      .rename_i hcc;obtain⟨c1,c2,c3⟩:=hcc;simp only[Option.some.injEq,Prod.mk.injEq]at ha;obtain⟨rfl,rfl⟩:=ha;rw[hp]at hx hn;rw[hq]at hy hn';simp only[V.len,Option.some.injEq]at hn hn';subst hn hn';obtain⟨A2,C2,L2,ys,hY2,hL2,k1,k2,k3,k4,k5,k6,k7,k8⟩:=Zfm hi hy hr' (Nat.min_le_left m' m) c2;subst hY2
       cases hx with
       |sl hL hln hcc' hxx hs' hA=>
        rename_i C3 L A3;rcases hA with hA|⟨hA,hA2⟩
        .omega
        subst hA;have hlen:(piece cs' q' (min m' m*i.size)).length=min m' m*i.size:=by rw[k6.length,k7]
        obtain⟨w',hst,hi'⟩:=ZhQ (P:=P) hi hr hL k6 c3 (o:=q) (by omega);refine⟨Go.goInt (min m' m:Nat),w',ρ,.inl (ofRun ?_),Rho.le.refl _,.i _ _,hi'⟩;have hf2:=Go.run_firstCells_some (P:=P) w i.size (min m' m) A2 m' C2 ys k7 k8;have hm:Nat.min m' m=min m' m:=rfl;simp[Go.Builtin.copy_,Go.run_underlying hu,ZaQ hie,Go.Builtin.lenOf,hm,hf2,hst]
      .cases ha
     .cases ha
    .cases ha
   .cases ha
 .cases ha

theorem Zqy(hi:Inv K w0 ρ h w)(hf:FrRel K ρ fr a){o:Go.Oper}{c:Go.Call}{t e:TypeId}{x:Go.Operand}{x':Opd}{i:Go.TypeInfo}{z:List V}(ho:o.op=.call c)(hb:c.callee=.builtin .clear)(hargs:c.args=#[x])(hts:c.argTypes=#[t])
  (hu:P.underlying t=some (.slice e))(hie:P.info? e=some i)(hz:Zec P K e=some z)(hzl:z.length=i.size)(h1:nX K x=some x')
  (ha:act h.m nr fr.ev (.clr z x')=some (v,up)):Ok P K w0 ρ h a o w v up:=by
 obtain⟨i',zv,g1,g2,g3⟩:=Zd2 (ρ:=ρ) hz;rw[hie]at g1;cases g1;have hzs:zv.cells.size=i.size:=by have:=g3.length;simp at this;omega
 have hx:=zX hf h1;generalize hX:a.eval x=X at hx;have ofRun:∀{q:Value}{w':World},(Go.Builtin.clear_ #[t] o.type #[X]).run P w=.ok q w'->(Go.execOp a.eval o).run P w=.ok (.value q) w':=by
  intro q w' hr;refine Zbk ho hb rfl ?_;simp only[hargs,hts];have:(#[x].map a.eval)=#[X]:=by simp[hX]
  rw[this];exact hr
 simp only[act]at ha;split at ha
 .rename_i hp;rw[hp]at hx;simp only[Option.some.injEq,Prod.mk.injEq]at ha;obtain⟨rfl,rfl⟩:=ha;refine Ok.pure hi (x:=.tuple #[]) (ofRun ?_) (.tu .nil);rw[hx.inv_sn];simp[Go.Builtin.clear_,Go.run_underlying hu]
 .rename_i es r q n c0 ex hp;rw[hp]at hx;split at ha
  .rename_i hn0;subst hn0;simp only[Option.some.injEq,Prod.mk.injEq]at ha;obtain⟨rfl,rfl⟩:=ha;cases hx;refine Ok.pure hi (x:=.tuple #[]) (ofRun ?_) (.tu .nil);simp[Go.Builtin.clear_,Go.run_underlying hu]
  .rename_i hn0;split at ha
   .rename_i hes;split at ha
    .rename_i cs hr;split at ha
     .rename_i hcc;obtain⟨c1,c2⟩:=hcc;simp only[Option.some.injEq,Prod.mk.injEq]at ha;obtain⟨rfl,rfl⟩:=ha
      cases hx with
      | sl hL hln hcc' hxx hs' hA=>
       rename_i C3 L A3;rcases hA with hA|⟨hA,hA2⟩
       .omega
       subst hA;have hrel:=g3.replicate n;have hones:((List.replicate n z).flatten).all V.one=true:=by
        rw[List.all_eq_true]at c2⊢;intro u hu';obtain⟨l,hl,hul⟩:=List.mem_flatten.1 hu';rw[(List.mem_replicate.1 hl).2]at hul;exact c2 u hul
       have hlen:((List.replicate n z).flatten).length=n*es:=by simp[hes]
       obtain⟨w',hst,hi'⟩:=ZhQ (P:=P) hi hr hL hrel hones (o:=q) (by omega);refine⟨.tuple #[],w',ρ,.inl (ofRun ?_),Rho.le.refl _,.tu .nil,hi'⟩;obtain⟨n,rfl⟩:∃m,n=m+1:=⟨n-1,by omega⟩;have hzc:(Go.Builtin.zeroCells zv.cells (n+1)).toList=(List.replicate (n+1) zv.cells.toList).flatten:=Zfy _ (by omega) _;simp only[Go.Builtin.clear_,List.getElem?_toArray,List.getElem?_cons_zero,Sem.run_bind,Go.run_underlying hu,Result.andThen_ok,Zef hie g2,hzc,hst,Sem.run_pure]
     .cases ha
    .cases ha
   .cases ha
 .cases ha
end ops
end Mu
