/- The evaluator: which operations may go in either order, and that a heap with an object more makes no difference. -/
import Derived.Test.YtjhlegefgllihaaGreatMuE0
namespace Mu
open Go (IntKind BinOp UnOp)

def ZgS:Op->List Opd
 |.mv x|.box x|.ld _ _ x|.nilck x|.un _ x|.conv _ x|.fa _ x|.fld _ _ _ x|.ext x _|.len x|.slen x|.capn x|.clr _ x|.mlen x=>[x]
 |.alloc _|.cst _|.mkm|.bad=>[]
 |.pick c a b=>[c,a,b]
 |.build _ ps|.bsl _ _ _ ps=>ps.map (·.2.2)
 |.st _ a x|.bin _ a x|.eq _ _ a x|.mks _ _ _ a x|.growz _ _ _ a x|.ixa _ a x|.ixaa _ _ a x|.ix _ _ _ a x|.ixs a x|.app _ _ a x|.cpy _ a x|.mlk _ _ _ a x=>[a,x]
 |.clo _ xs|.mx xs|.mn xs=>xs
 |.slc _ x lo hi mx|.slca _ _ x lo hi mx=>x::(lo.toList++hi.toList++mx.toList)
 |.mup _ m k v=>[m,k,v]
 |.call f args=>f::args

theorem Zdg{e e':Opd->V}{x:Option Opd}{d n:Nat}(h:∀y∈x.toList,e y=e' y):ZcM e x d n=ZcM e' x d n:=by
 cases x with
 |none=>rfl
 |some x=>simp only[ZcM,h x (by simp)]

theorem Zii{e e':Opd->V}{ps:List (Nat×Nat×Opd)}(h:∀x∈ps.map (·.2.2),e x=e' x):evs e ps=evs e' ps:=by
 unfold evs;refine List.map_congr_left λp hp=>?_;obtain⟨o,sz,x⟩:=p;simp only[h x (List.mem_map.2 ⟨_,hp,rfl⟩)]

theorem Zhz{e e':Opd->V}{xs:List Opd}(h:∀x∈xs,e x=e' x):V.ints e xs=V.ints e' xs:=by
 induction xs with
 |nil=>rfl
 |cons x l ih=>
  cases l with
  |nil=>simp only[V.ints,h x (by simp)]
  |cons y l=>simp only[V.ints,h x (by simp),ih λz hz=>h z (by simp only[List.mem_cons]at hz⊢;exact .inr hz)]

theorem Zqj{rd:Nat->Option Obj}{nr:Nat}{e e':Opd->V}(op:Op)(h:∀x∈ZgS op,e x=e' x):act rd nr e op=act rd nr e' op:=by
 cases op with
 |build z ps=>simp only[act,Zii h]
 |bsl sz n z ps=>simp only[act,Zii h]
 |clo id xs=>simp only[act];rw[List.map_congr_left (show∀x∈xs,e x=e' x from h)]
 |mx xs=>simp only[act,Zhz (show∀x∈xs,e x=e' x from h)]
 |mn xs=>simp only[act,Zhz (show∀x∈xs,e x=e' x from h)]
 | slc sz x lo hi mx=>
  simp only[ZgS,List.mem_cons,List.mem_append]at h;simp only[act,h x (.inl rfl)];simp only[Zdg (e:=e) (e':=e') (x:=lo) λy hy=>h y (by simp_all),Zdg (e:=e) (e':=e') (x:=hi) λy hy=>h y (by simp_all),
   Zdg (e:=e) (e':=e') (x:=mx) λy hy=>h y (by simp_all)]
 | slca sz n x lo hi mx=>
  simp only[ZgS,List.mem_cons,List.mem_append]at h;simp only[act,h x (.inl rfl)];simp only[Zdg (e:=e) (e':=e') (x:=lo) λy hy=>h y (by simp_all),Zdg (e:=e) (e':=e') (x:=hi) λy hy=>h y (by simp_all),
   Zdg (e:=e) (e':=e') (x:=mx) λy hy=>h y (by simp_all)]
 |pick c a b=>
  simp only[ZgS]at h;simp only[act,h c (by simp),h a (by simp),h b (by simp)]
 |mup ks m k v=>
  simp only[ZgS]at h;simp only[act,h m (by simp),h k (by simp),h v (by simp)]
 |_=>
  simp only[ZgS,List.mem_cons,List.not_mem_nil,or_false,forall_eq,forall_eq_or_imp]at h;simp only[act]
  try simp only[h]

theorem ZnJ{e e':Opd->V}(op:Op)(h:∀x∈ZgS op,e x=e' x):ZaZ e op=ZaZ e' op:=by
 cases op with
 |slca sz n x lo hi mx=>simp only[ZaZ,h x (by simp[ZgS])]
 |_=>
  first
  |rfl
  |(simp only[ZgS,List.mem_cons,List.not_mem_nil,or_false,forall_eq,forall_eq_or_imp]at h;simp only[ZaZ,h])

theorem Zhm{rd rd':Nat->Option Obj}{nr:Nat}{e:Opd->V}(op:Op)(h:∀r∈ZaZ e op,rd r=rd' r):act rd nr e op=act rd' nr e op:=by
 cases op with
 |ld agg sz a=>
  simp only[act,ZaZ]at*;cases ha:e a<;>simp only[ha,Za0,List.mem_cons,List.not_mem_nil,or_false,forall_eq]at h⊢;rw[h]
 |st sz a x=>
  simp only[act,ZaZ]at*;cases ha:e a<;>simp only[ha,Za0,List.mem_cons,List.not_mem_nil,or_false,forall_eq]at h⊢;rw[h]
 |slca sz n x lo hi mx=>
  simp only[act,ZaZ]at*;cases ha:e x<;>simp only[ha,Za0,List.mem_cons,List.not_mem_nil,or_false,forall_eq]at h⊢;rw[h]
 |app sz b x y=>
  simp only[act,ZaZ,List.mem_append]at*;cases ha:e x<;>simp only[]<;>cases hb:e y<;>simp only[ha,hb,Za0,List.mem_cons,List.not_mem_nil,or_false,false_or,forall_eq,forall_eq_or_imp]at h⊢
  .obtain⟨h1,h2⟩:=h;rw[h1,h2]
  .rw[h]
 |cpy sz x y=>
  simp only[act,ZaZ,List.mem_append]at*;cases ha:e x<;>cases hb:e y<;>simp only[ha,hb,Za0,List.mem_cons,List.not_mem_nil,or_false,false_or,forall_eq,forall_eq_or_imp]at h⊢;obtain⟨h1,h2⟩:=h;rw[h1,h2]
 |clr z x=>
  simp only[act,ZaZ]at*;cases ha:e x<;>simp only[ha,Za0,List.mem_cons,List.not_mem_nil,or_false,forall_eq]at h⊢;rw[h]
 |mlk ks ok z m k=>
  simp only[act,ZaZ]at*;cases ha:e m<;>simp only[ha,Za0,List.mem_cons,List.not_mem_nil,or_false,forall_eq]at h⊢;rw[h]
 |mup ks m k v=>
  simp only[act,ZaZ]at*;cases ha:e m<;>simp only[ha,Za0,List.mem_cons,List.not_mem_nil,or_false,forall_eq]at h⊢;rw[h]
 |mlen x=>
  simp only[act,ZaZ]at*;cases ha:e x<;>simp only[ha,Za0,List.mem_cons,List.not_mem_nil,or_false,forall_eq]at h⊢;rw[h]
 |_=>rfl

theorem Zhk{rd:Nat->Option Obj}{nr:Nat}{e:Opd->V}{op:Op}{v:V}{up:List (Nat×Obj)}(h:act rd nr e op=some (v,up)) :
  ∀q∈up,q.1=nr\/(op.looks=false/\q.1∈ZaZ e op/\rd q.1≠none):=by
 cases op<;>simp only[act]at h<;>(repeat' split at h) <;>
  (first
   |(simp only[Option.some.injEq,Prod.mk.injEq,reduceCtorEq]at h;obtain⟨_,rfl⟩:=h;simp_all[ZaZ,Op.looks,Za0])
   |(simp only[reduceCtorEq]at h))

theorem Hp.put_m(h:Hp)(r:Nat)(o:Obj)(q:Nat):(h.put r o).m q=if q=r then some o else h.m q:=rfl
theorem Hp.puts_m{h:Hp}{up:List (Nat×Obj)}{q:Nat}(hq:∀x∈up,x.1≠q):(h.puts up).m q=h.m q:=by
 induction up generalizing h with
 |nil=>rfl
 |cons x l ih=>
  obtain⟨r,o⟩:=x;rw[Hp.puts,ih λy hy=>hq y (by simp[hy]),Hp.put_m,if_neg λe=>hq _ (List.mem_cons_self ..) e.symm]
theorem Hp.put_comm(h:Hp){r r':Nat}(o o':Obj)(hn:r≠r'):(h.put r o).put r' o'=(h.put r' o').put r o:=by
 refine Hp.ext' (funext λq=>?_) ?_
 .simp only[Hp.put_m];by_cases h1:q=r<;>by_cases h2:q=r'<;>simp[h1,h2]
  .exact absurd (h1.symm.trans h2) hn
  .intro e;exact absurd e hn
  .intro e;exact absurd e.symm hn
 .simp only[Hp.put];omega
theorem Hp.put_puts(h:Hp){r:Nat}(o:Obj)(up:List (Nat×Obj))(hn:∀x∈up,x.1≠r):(h.put r o).puts up=(h.puts up).put r o:=by
 induction up generalizing h with
 |nil=>rfl
 |cons x l ih=>
  obtain⟨q,o'⟩:=x;rw[Hp.puts,Hp.put_comm h o o' (λe=>hn _ (List.mem_cons_self ..) e.symm),ih _ λy hy=>hn y (by simp[hy])];rfl
theorem Hp.puts_comm(h:Hp)(up up':List (Nat×Obj))(hn:∀x∈up,∀y∈up',x.1≠y.1):(h.puts up).puts up'=(h.puts up').puts up:=by
 induction up generalizing h with
 |nil=>rfl
 |cons x l ih=>
  obtain⟨q,o'⟩:=x;rw[Hp.puts,ih _ λa ha=>hn a (by simp[ha]),Hp.put_puts _ _ _ λy hy e=>hn _ (List.mem_cons_self ..) _ hy e.symm];rfl
theorem Hp.puts_n(h:Hp)(up:List (Nat×Obj)):h.n<=(h.puts up).n:=by
 induction up generalizing h with
 |nil=>exact Nat.le_refl _
 |cons x l ih=>obtain⟨q,o'⟩:=x;exact Nat.le_trans (by simp only[Hp.put];omega) (ih _)
def Zhh(call:Zbu):Prop:=∀f args h v h' n o,h.m n=none->n<h.n->call f args h=some (v,h')->h'.m n=none/\n<h'.n/\call f args (h.put n o)=some (v,h'.put n o)

theorem Zm6{rd:Nat->Option Obj}{nr n:Nat}{e:Opd->V}{op:Op}{v:V}{up:List (Nat×Obj)}{o:Obj}(hn:rd n=none)
  (h:act rd nr e op=some (v,up)):act (λq=>if q=n then some o else rd q) nr e op=some (v,up):=by
 by_cases ht:n∈ZaZ e op
 ·-- an operation that has come through has not leaned on what isn't there
  cases op with
  |ld agg sz a=>
   simp only[act]at h⊢;split at h
   .rename_i r o' ha;simp only[ZaZ,ha,Za0,List.mem_singleton]at ht;subst ht;simp[hn]at h
   .cases h
  |st sz a x=>
   simp only[act]at h⊢;split at h
   .rename_i r o' ha;simp only[ZaZ,ha,Za0,List.mem_singleton]at ht;subst ht;simp[hn]at h
   .cases h
  | slca sz n' x lo hi mx=>
   simp only[act]at h⊢;split at h
   .rename_i r o' ha;simp only[ZaZ,ha,Za0,List.mem_singleton]at ht;subst ht
    repeat' split at h
    all_goals first|(cases h;done)|simp_all
   .cases h
  | app sz b x y=>
   simp only[act]at h⊢;split at h
   .split at h
    .exact h
    .rename_i es' r' o' n' c' ex' hy;split at h
     .rename_i hes;split at h
      .rename_i h0;simp[h0,hes];simpa using h
      .rename_i h0;split at h
       .rename_i w cs' hr;have:r'≠n:=λe=>by subst e;rw[hn]at hr;cases hr
        simp only[this,if_false,hr,hes,if_true,h0];exact h
       .cases h
     .cases h
    .cases h
   .rename_i es r o' n0 c ex hx;split at h
    .rename_i hes0;split at h
     .subst hes0;simpa using h
     .rename_i es' r' o'' n' c' ex' hy;split at h
      .rename_i hes;split at h
       .rename_i h0;subst hes0;simp only[h0,hes,if_true];simpa using h
       .rename_i h0;split at h
        .rename_i hg;split at h
         .rename_i w' cs' hr';have h1:r'≠n:=λe=>by subst e;rw[hn]at hr';cases hr'
          simp only[h1,if_false,hr',hes,hes0,if_true,h0];rw[if_pos hg];exact h
         .cases h
        rename_i hg;split at h
        .rename_i w cs w' cs' hr hr';have h1:r'≠n:=λe=>by subst e;rw[hn]at hr';cases hr'
         have h2:r≠n:=λe=>by subst e;rw[hn]at hr;cases hr
         simp only[h1,h2,if_false,hr,hr',hes,hes0,if_true,h0];rw[if_neg hg];exact h
        .cases h
      .cases h
     .cases h
    .cases h
   .cases h
  | cpy sz x y=>
   simp only[act]at h⊢;split at h
   .split at h
    .rename_i h0;simp only[h0,if_true];exact h
    .rename_i h0;split at h
     .rename_i es r o' n0 c ex es' r' o'' n' c' ex' hx hy;split at h
      .rename_i hes;split at h
       .rename_i cs w' cs' hr hr';have h1:r'≠n:=λe=>by subst e;rw[hn]at hr';cases hr'
        have h2:r≠n:=λe=>by subst e;rw[hn]at hr;cases hr
        simp only[h1,h2,if_false,hr,hr',if_pos hes,h0];exact h
       .cases h
      .cases h
     .cases h
   .cases h
  | clr z x=>
   simp only[act]at h⊢;split at h
   .exact h
   .rename_i es r o' n0 c ex hx;split at h
    .rename_i h0;simp only[h0,if_true];exact h
    .rename_i h0;split at h
     .rename_i hes;split at h
      .rename_i cs hr;have h2:r≠n:=λe=>by subst e;rw[hn]at hr;cases hr
       simp only[h2,if_false,hr,if_pos hes,h0];exact h
      .cases h
     .cases h
   .cases h
  |mlk ks ok z m k=>
   simp only[act]at h⊢;split at h
   .rename_i r ha;simp only[ZaZ,ha,Za0,List.mem_singleton]at ht;subst ht;simp[hn]at h
   .cases h
  |mup ks m k v=>
   simp only[act]at h⊢;split at h
   .rename_i r ha;simp only[ZaZ,ha,Za0,List.mem_singleton]at ht;subst ht;simp[hn]at h
   .cases h
  |mlen x=>
   simp only[act]at h⊢;split at h
   .rename_i r ha;simp only[ZaZ,ha,Za0,List.mem_singleton]at ht;subst ht;simp[hn]at h
   .cases h
  |_=>simp[ZaZ]at ht
 .rw[<-h];refine(Zhm op λr hr=>?_).symm;have:r≠n:=λe=>ht (e▸hr);simp[this]

theorem Zo9{h:Hp}{nr n:Nat}{e:Opd->V}{op:Op}{v:V}{up:List (Nat×Obj)}(hn:h.m n=none)(hnr:n≠nr)(ha:act h.m nr e op=some (v,up)):∀x∈up,x.1≠n:=by
 intro x hx e;rcases Zhk ha x hx with h1|⟨_,_,h1⟩
 .exact hnr (e.symm.trans h1)
 .rw[e]at h1;exact h1 hn

theorem Zek{call:Zbu}(hc:Zhh call){nr n:Nat}{o:Oper}{fr:Fr}{h h':Hp}{v:V}{t:Tr}(ob:Obj)(hn:h.m n=none)(hlt:n<h.n)(hnr:n≠nr)
  (hs:Zav call nr o fr h=some (v,h',t)):h'.m n=none/\n<h'.n/\Zav call nr o fr (h.put n ob)=some (v,h'.put n ob,t):=by
 unfold Zav at hs⊢;split at hs
 .rename_i hg;rw[if_pos hg];split at hs
  .rename_i f args hop;split at hs
   .rename_i id caps hf;split at hs
    .rename_i v h1 hcall;obtain⟨h2,h3,h4⟩:=hc _ _ _ _ _ _ ob hn hlt hcall;simp only[Option.some.injEq,Prod.mk.injEq]at hs;obtain⟨rfl,rfl,rfl⟩:=hs;refine⟨h2,h3,?_⟩;simp only[h4];simp only[Option.some.injEq,Prod.mk.injEq,true_and,Tr.call.injEq];funext r;simp only[Hp.put_m];by_cases hr:r=n
     .subst hr;simp[hn,h2]
     .simp[hr]
    .cases hs
   .cases hs
  .rename_i hop;split at hs
   .rename_i v up ha;simp only[Option.some.injEq,Prod.mk.injEq]at hs;obtain⟨rfl,rfl,rfl⟩:=hs;have hk:=Zo9 hn hnr ha;refine⟨by rw[Hp.puts_m hk];exact hn,Nat.lt_of_lt_of_le hlt (Hp.puts_n _ _),?_⟩;have ha':=Zm6 (o:=ob) hn ha;have hm:(h.put n ob).m=λq=>if q=n then some ob else h.m q:=funext λq=>Hp.put_m ..;rw[hm,ha'];simp only[Hp.put_puts _ _ _ hk]
   .cases hs
 .rename_i hg;rw[if_neg hg];simp only[Option.some.injEq,Prod.mk.injEq]at hs;obtain⟨rfl,rfl,rfl⟩:=hs;exact⟨hn,hlt,rfl⟩

theorem put_n{h:Hp}{n:Nat}(ob:Obj)(hlt:n<h.n):(h.put n ob).n=h.n:=by simp only[Hp.put];omega

theorem ZfX{call:Zbu}(hc:Zhh call){n:Nat}(ob:Obj):∀{ops:List Oper}{fr fr':Fr}{h h':Hp},h.m n=none->n<h.n->
  ZaS call ops fr h=some (fr',h')->h'.m n=none/\n<h'.n/\ZaS call ops fr (h.put n ob)=some (fr',h'.put n ob)
 |[],fr,fr',h,h',hn,hlt,he=>by
  simp only[ZaS,Option.some.injEq,Prod.mk.injEq]at he;obtain⟨rfl,rfl⟩:=he;exact⟨hn,hlt,rfl⟩
 |o::l,fr,fr',h,h',hn,hlt,he=>by
  simp only[ZaS]at he⊢;split at he
  .rename_i v h1 t hs;obtain⟨h2,h3,h4⟩:=Zek hc ob hn hlt (by omega) hs;rw[put_n ob hlt,h4];exact ZfX hc ob h2 h3 he
  .cases he

theorem Zf6{call:Zbu}(hc:Zhh call){n base:Nat}(hb:n<base)(ob:Obj):∀{ops:List (Nat×Oper)}{fr fr':Fr}{h h':Hp}{ts:List (Nat×Tr)},h.m n=none->n<h.n->
  zB call base ops fr h=some (fr',h',ts)->h'.m n=none/\n<h'.n/\zB call base ops fr (h.put n ob)=some (fr',h'.put n ob,ts)
 |[],fr,fr',h,h',ts,hn,hlt,he=>by
  simp only[zB,Option.some.injEq,Prod.mk.injEq]at he;obtain⟨rfl,rfl,rfl⟩:=he;exact⟨hn,hlt,rfl⟩
 | (j,o)::l,fr,fr',h,h',ts,hn,hlt,he=>by
  simp only[zB]at he⊢;split at he
  .rename_i v h1 t hs;split at he
   .rename_i fr2 h2 ts2 hr;simp only[Option.some.injEq,Prod.mk.injEq]at he;obtain⟨rfl,rfl,rfl⟩:=he;obtain⟨g2,g3,g4⟩:=Zek hc ob hn hlt (by omega) hs;obtain⟨k2,k3,k4⟩:=Zf6 hc hb ob g2 g3 hr;simp only[g4,k4];exact⟨k2,k3,trivial⟩
   .cases he
  .cases he

theorem ZmF{h:Hp}{n k:Nat}(ob:Obj)(hlt:n<h.n):(h.put n ob).bump k=(h.bump k).put n ob :=
 Hp.ext' rfl (by simp only[Hp.put,Hp.bump];omega)

theorem ZgR{call:Zbu}(hc:Zhh call){n:Nat}(ob:Obj){ops:List Oper}{prs:List (Nat×Nat)}{fr fr':Fr}{h h':Hp}(hn:h.m n=none)(hlt:n<h.n)
  (he:ZbC call ops prs fr h=some (fr',h')):h'.m n=none/\n<h'.n/\ZbC call ops prs fr (h.put n ob)=some (fr',h'.put n ob):=by
 unfold ZbC at he⊢;split at he
 .rename_i fr1 h1 ts hd;split at he
  .rename_i hp;simp only[Option.some.injEq,Prod.mk.injEq]at he;obtain⟨rfl,rfl⟩:=he;obtain⟨k2,k3,k4⟩:=Zf6 hc hlt ob (h:=h.bump ops.length) hn (by simp only[Hp.bump];omega) hd;rw[put_n ob hlt,ZmF ob hlt,k4];exact⟨k2,k3,if_pos hp⟩
  .cases he
 .cases he

theorem ZkM{n:Nat}(ob:Obj){fr:Fr}{h:Hp}(hn:h.m n=none){r:Res}{v:V}(hr:ZgI fr h r=some v):ZgI fr (h.put n ob) r=some v:=by
 cases r with
 |t k=>exact hr
 | cell k agg sz=>
  simp only[ZgI]at hr⊢;split at hr
  .rename_i q o hq;have:q≠n:=λe=>by subst e;simp[hn]at hr
   rw[Hp.put_m,if_neg this];exact hr
  .cases hr
theorem Zfk{n:Nat}(ob:Obj){fr:Fr}{h:Hp}(hn:h.m n=none):∀{rs:List Res}{vs:List V},ZbO fr h rs=some vs->ZbO fr (h.put n ob) rs=some vs
 |[],vs,hr=>hr
 |r::l,vs,hr=>by
  simp only[ZbO]at hr⊢;split at hr
  .rename_i v vs' h1 h2;rw[ZkM ob hn h1,Zfk ob hn h2];exact hr
  .cases hr

def Zml(F:Fr->Hp->Option (Ex×Fr×Hp)):Prop:=∀fr h e fr' h' n o,h.m n=none->n<h.n->F fr h=some (e,fr',h')->h'.m n=none/\n<h'.n/\F fr (h.put n o)=some (e,fr',h'.put n o)

theorem Zh3{F:Fr->Hp->Option (Ex×Fr×Hp)}(hF:Zml F):∀k,Zml (Zer F k)
 |0=>λfr h e fr' h' n o hn hlt he=>by cases he
 | k+1=>λfr h e fr' h' n o hn hlt he=>by
  simp only[Zer]at he⊢;split at he
  .rename_i fr1 h1 hb;obtain⟨g2,g3,g4⟩:=hF _ _ _ _ _ _ o hn hlt hb;rw[g4];exact Zh3 hF k _ _ _ _ _ _ _ g2 g3 he
  .rename_i hb;obtain⟨g2,g3,g4⟩:=hF _ _ _ _ _ _ o hn hlt he;rw[g4];refine⟨g2,g3,?_⟩;split
   .rename_i heq;simp only[Option.some.injEq,Prod.mk.injEq]at heq;obtain⟨rfl,rfl,rfl⟩:=heq;exact absurd he (hb _ _)
   .rfl

theorem Zco{call:Zbu}(hc:Zhh call)(k:Nat):∀c,Zml (Zai call k c)
 |.skip=>λfr h e fr' h' n o hn hlt he=>by
  simp only[Zai,Option.some.injEq,Prod.mk.injEq]at he⊢;obtain⟨rfl,rfl,rfl⟩:=he;exact⟨hn,hlt,rfl,rfl,rfl⟩
 |.region ops=>λfr h e fr' h' n o hn hlt he=>by
  simp only[Zai]at he⊢;split at he
  .rename_i fr1 h1 hb;obtain⟨g2,g3,g4⟩:=ZfX hc o hn hlt hb;simp only[Option.some.injEq,Prod.mk.injEq]at he;obtain⟨rfl,rfl,rfl⟩:=he;rw[g4];exact⟨g2,g3,rfl⟩
  .cases he
 |.draw ops prs=>λfr h e fr' h' n o hn hlt he=>by
  simp only[Zai]at he⊢;split at he
  .rename_i fr1 h1 hb;obtain⟨g2,g3,g4⟩:=ZgR hc o hn hlt hb;simp only[Option.some.injEq,Prod.mk.injEq]at he;obtain⟨rfl,rfl,rfl⟩:=he;rw[g4];exact⟨g2,g3,rfl⟩
  .cases he
 | .seq a b=>λfr h e fr' h' n o hn hlt he=>by
  simp only[Zai]at he⊢;split at he
  .rename_i fr1 h1 hb;obtain⟨g2,g3,g4⟩:=Zco hc k a _ _ _ _ _ _ o hn hlt hb;rw[g4];exact Zco hc k b _ _ _ _ _ _ _ g2 g3 he
  .rename_i hb;obtain⟨g2,g3,g4⟩:=Zco hc k a _ _ _ _ _ _ o hn hlt he;rw[g4];refine⟨g2,g3,?_⟩;split
   .rename_i heq;simp only[Option.some.injEq,Prod.mk.injEq]at heq;obtain⟨rfl,rfl,rfl⟩:=heq;exact absurd he (hb _ _)
   .rfl
 |.cond c a b=>λfr h e fr' h' n o hn hlt he=>by
  simp only[Zai]at he⊢;split at he
  .exact Zco hc k a _ _ _ _ _ _ o hn hlt he
  .exact Zco hc k b _ _ _ _ _ _ o hn hlt he
  .cases he
 | .block id a=>λfr h e fr' h' n o hn hlt he=>by
  simp only[Zai]at he⊢;split at he
  .rename_i id' fr1 h1 hb;obtain⟨g2,g3,g4⟩:=Zco hc k a _ _ _ _ _ _ o hn hlt hb;rw[g4];simp only;split at he
   .rename_i hid;simp only[Option.some.injEq,Prod.mk.injEq]at he;obtain⟨rfl,rfl,rfl⟩:=he;rw[if_pos hid];exact⟨g2,g3,rfl⟩
   .rename_i hid;simp only[Option.some.injEq,Prod.mk.injEq]at he;obtain⟨rfl,rfl,rfl⟩:=he;rw[if_neg hid];exact⟨g2,g3,rfl⟩
  .rename_i hb;obtain⟨g2,g3,g4⟩:=Zco hc k a _ _ _ _ _ _ o hn hlt he;rw[g4];refine⟨g2,g3,?_⟩;split
   .rename_i heq;simp only[Option.some.injEq,Prod.mk.injEq]at heq;obtain⟨rfl,rfl,rfl⟩:=heq;exact absurd he (hb _ _ _)
   .rfl
 |.loop a=>λfr h e fr' h' n o hn hlt he=>Zh3 (Zco hc k a) k _ _ _ _ _ _ _ hn hlt he
 |.exit id=>λfr h e fr' h' n o hn hlt he=>by
  simp only[Zai,Option.some.injEq,Prod.mk.injEq]at he⊢;obtain⟨rfl,rfl,rfl⟩:=he;exact⟨hn,hlt,rfl,rfl,rfl⟩
 |.ret=>λfr h e fr' h' n o hn hlt he=>by
  simp only[Zai,Option.some.injEq,Prod.mk.injEq]at he⊢;obtain⟨rfl,rfl,rfl⟩:=he;exact⟨hn,hlt,rfl,rfl,rfl⟩
 |.bad=>λfr h e fr' h' n o hn hlt he=>by cases he

theorem ZeB(P:Prog):∀k,Zhh (Zbl P k)
 |0=>λf args h v h' n o hn hlt he=>by cases he
 | k+1=>λf args h v h' n o hn hlt he=>by
  simp only[Zbl]at he⊢;split at he
  .cases he
  .rename_i fn hf;split at he
   .cases he
   rename_i hz;rw[if_neg hz];split at he
   .rename_i fr1 h1 hb;obtain⟨g2,g3,g4⟩:=Zco (ZeB P k) k _ _ _ _ _ _ _ o hn hlt hb;split at he
    .rename_i vs hr;simp only[Option.some.injEq,Prod.mk.injEq]at he;obtain⟨rfl,rfl⟩:=he;simp only[g4,Zfk o g2 hr];exact⟨g2,g3,trivial⟩
    .cases he
   .rename_i fr1 h1 hb;obtain⟨g2,g3,g4⟩:=Zco (ZeB P k) k _ _ _ _ _ _ _ o hn hlt hb;split at he
    .rename_i vs hr;simp only[Option.some.injEq,Prod.mk.injEq]at he;obtain⟨rfl,rfl⟩:=he;simp only[g4,Zfk o g2 hr];exact⟨g2,g3,trivial⟩
    .cases he
   .cases he

/-! ### Which Zgx first -/
def ZgK(o:Oper):List Nat:=(ZgS o.op).filterMap (fun|.t n=>some n|.c _=>none)++(match o.guard with|some (j,_)=>[j]|none=>[])

def Zgt(a b:Oper):Bool :=
 (match a.dst with|some d=>!(ZgK b).contains d&&b.dst !=some d|none=>true)&&
 (match b.dst with|some d=>!(ZgK a).contains d|none=>true)

theorem Zkk{call:Zbu}{nr:Nat}{o:Oper}{fr fr':Fr}{h:Hp}(hs:∀t∈ZgK o,fr t=fr' t):Zav call nr o fr h=Zav call nr o fr' h:=by
 have hw:Zb5 o.guard fr=Zb5 o.guard fr':=by
  cases hg:o.guard with
  |none=>rfl
  |some g=>
   obtain⟨j,w⟩:=g;simp only[Zb5];rw[hs j (by simp[ZgK,hg])]
 have he:∀x∈ZgS o.op,fr.ev x=fr'.ev x:=by
  intro x hx
  cases x with
  |t n=>exact hs n (List.mem_append_left _ (List.mem_filterMap.2 ⟨_,hx,rfl⟩))
  |c v=>rfl
 unfold Zav;rw[hw];split
 .cases hop:o.op with
  |call f args=>
   rw[hop]at he;simp only[he f (by simp[ZgS]),List.map_congr_left λx hx=>he x (show x∈f::args from List.mem_cons_of_mem _ hx)]
  |_=>rw[hop]at he;simp only[Zqj _ he,ZnJ _ he]
 .rfl

theorem Ziy{o:Oper}{fr:Fr}{d:Option Nat}{v:V}(hd:∀k,d=some k->k∉ZgK o):∀t∈ZgK o,(fr.put d v) t=fr t:=by
 intro t ht
 cases d with
 |none=>rfl
 |some k=>
  simp only[Fr.put,Fr.set];rw[if_neg];intro e;exact hd k rfl (e▸ht)

theorem Zjk{fr:Fr}{a b:Option Nat}{x y:V}(hd:∀k,a=some k->b≠some k):(fr.put a x).put b y=(fr.put b y).put a x:=by
 cases a with
 |none=>rfl
 | some k=>
  cases b with
  |none=>rfl
  |some j=>
   funext t;have:j≠k:=λe=>hd k rfl (by rw[e]);simp only[Fr.put,Fr.set];by_cases h1:t=k<;>by_cases h2:t=j<;>simp[h1,h2]
   .exact absurd (h2.symm.trans h1) this
   .intro e;exact absurd e.symm this
   .intro e;exact absurd e this

theorem Zg9{a b:Oper}(h:Zgt a b=true):(∀k,a.dst=some k->k∉ZgK b)/\(∀k,b.dst=some k->k∉ZgK a)/\(∀k,a.dst=some k->b.dst≠some k):=by
 unfold Zgt at h;simp only[Bool.and_eq_true]at h;obtain⟨h1,h2⟩:=h;refine⟨λk hk=>?_,λk hk=>?_,λk hk=>?_⟩
 .rw[hk]at h1;simp at h1;exact h1.1
 .rw[hk]at h2;simpa using h2
 .rw[hk]at h1;simp at h1;exact h1.2

theorem Zm5{rd:Nat->Option Obj}{nr:Nat}{e:Opd->V}{op:Op}{v:V}{up:List (Nat×Obj)}(h:act rd nr e op=some (v,up))(hl:op.looks=true):up=[]\/∃o,up=[(nr,o)]:=by
 cases op<;>simp only[Op.looks,Bool.false_eq_true]at hl<;>simp only[act]at h<;>(repeat' split at h) <;>
  (first
   |(simp only[Option.some.injEq,Prod.mk.injEq,reduceCtorEq]at h;obtain⟨_,rfl⟩:=h;first|exact .inl rfl|exact .inr ⟨_,rfl⟩)
   |(simp only[reduceCtorEq]at h))

theorem Ze7{call:Zbu}{nr:Nat}{o:Oper}{fr:Fr}{h h':Hp}{v:V}{l z:Bool}{t:List Nat}{n:Nat}(hs:Zav call nr o fr h=some (v,h',.op l z t n)) :
  Zb5 o.guard fr=true/\(∀f args,o.op≠.call f args)/\n=nr/\l=o.op.looks/\t=ZaZ fr.ev o.op/\∃up,act h.m nr fr.ev o.op=some (v,up)/\h'=h.puts up/\z=up.isEmpty:=by
 unfold Zav at hs;split at hs
 .rename_i hw;split at hs
  .split at hs
   .split at hs<;>simp at hs
   .cases hs
  .rename_i hop;split at hs
   .rename_i v' up ha;simp only[Option.some.injEq,Prod.mk.injEq,Tr.op.injEq]at hs;obtain⟨rfl,rfl,rfl,rfl,rfl,rfl⟩:=hs;exact⟨hw,λf args=>hop f args,rfl,rfl,rfl,up,ha,rfl,rfl⟩
   .cases hs
 .simp at hs

theorem ZdH{call:Zbu}{nr:Nat}{o:Oper}{fr:Fr}{h:Hp}{v:V}{up:List (Nat×Obj)}(hw:Zb5 o.guard fr=true)(hop:∀f args,o.op≠.call f args)(ha:act h.m nr fr.ev o.op=some (v,up)) :
  Zav call nr o fr h=some (v,h.puts up,.op o.op.looks up.isEmpty (ZaZ fr.ev o.op) nr):=by
 unfold Zav;rw[if_pos hw];split
 .exact absurd ‹_› (hop _ _)
 .rw[ha]

theorem Zej{call:Zbu}{nr:Nat}{o:Oper}{fr:Fr}{h h':Hp}{v:V}{c:Nat->Prop}(hs:Zav call nr o fr h=some (v,h',.call c)) :
  (c=λr=>h'.m r≠h.m r)/\Zb5 o.guard fr=true/\∃f args id caps,o.op=.call f args/\fr.ev f=.f id caps/\call (fid id) (ZdD id (args.map fr.ev) caps) h=some (v,h'):=by
 unfold Zav at hs;split at hs
 .rename_i hw;split at hs
  .rename_i f args hop;split at hs
   .rename_i id caps hf;split at hs
    .rename_i v' h1 hc;simp only[Option.some.injEq,Prod.mk.injEq,Tr.call.injEq]at hs;obtain⟨rfl,rfl,rfl⟩:=hs;exact⟨rfl,hw,f,args,id,caps,hop,hf,hc⟩
    .cases hs
   .cases hs
  .split at hs<;>simp at hs
 .simp at hs

theorem Zib{call:Zbu}{nr:Nat}{o:Oper}{fr:Fr}{h h':Hp}{v:V}{f:Opd}{args:List Opd}{id:Nat}{caps:List V}(hw:Zb5 o.guard fr=true)(hop:o.op=.call f args)(hf:fr.ev f=.f id caps)
  (hc:call (fid id) (ZdD id (args.map fr.ev) caps) h=some (v,h')):Zav call nr o fr h=some (v,h',.call λr=>h'.m r≠h.m r):=by
 unfold Zav;rw[if_pos hw,hop];simp only[hf,hc]

theorem Zgm{call:Zbu}{nr:Nat}{o:Oper}{fr:Fr}{h h':Hp}{v:V}(hs:Zav call nr o fr h=some (v,h',.no)):Zb5 o.guard fr≠true/\v=.un/\h'=h:=by
 unfold Zav at hs;split at hs
 .split at hs
  .split at hs
   .split at hs<;>simp at hs
   .cases hs
  .split at hs<;>simp at hs
 .rename_i hw;simp only[Option.some.injEq,Prod.mk.injEq]at hs;exact⟨hw,hs.1.symm,hs.2.1.symm⟩

theorem Zfn{call:Zbu}{nr:Nat}{o:Oper}{fr:Fr}{h:Hp}(hw:Zb5 o.guard fr≠true):Zav call nr o fr h=some (.un,h,.no):=by
 unfold Zav;rw[if_neg hw]

theorem swap{call:Zbu}(hc:Zhh call){n1 n2:Nat}{o1 o2:Oper}{fr:Fr}{h h1 h2:Hp}{v1 v2:V}{t1 t2:Tr}
  (e1:Zav call n1 o1 fr h=some (v1,h1,t1))(e2:Zav call n2 o2 (fr.put o1.dst v1) h1=some (v2,h2,t2))(ha:Zgt o1 o2=true)(hne:n1≠n2)
  (hn2:h.m n2=none)(hl2:n2<h.n)(hap:t1.apart t2) :
  ∃h1',Zav call n2 o2 fr h=some (v2,h1',t2)/\Zav call n1 o1 (fr.put o2.dst v2) h1'=some (v1,h2,t1):=by
 obtain⟨a1,a2,a3⟩:=Zg9 ha;rw[Zkk (Ziy a1)]at e2;have key:∃h1',Zav call n2 o2 fr h=some (v2,h1',t2)/\Zav call n1 o1 fr h1'=some (v1,h2,t1):=by
  cases t1 with
  |no=>
   obtain⟨hw,rfl,rfl⟩:=Zgm e1;exact⟨h2,e2,Zfn hw⟩
  | op l z t n=>
   obtain⟨w1,p1,rfl,rfl,rfl,up1,ac1,rfl,rfl⟩:=Ze7 e1;have k1:=Zhk ac1
   cases t2 with
   |no=>
    obtain⟨hw,rfl,rfl⟩:=Zgm e2;exact⟨h,Zfn hw,e1⟩
   | call c=>
    obtain⟨rfl,w2,f,args,id,caps,hop,hf,hcall⟩:=Zej e2;obtain⟨hl,hz,ht⟩:=hap;obtain rfl:up1=[]:=by cases up1<;>simp_all
    simp only[Hp.puts]at*;refine⟨h2,Zib w2 hop hf hcall,?_⟩;have:act h2.m n fr.ev o1.op=some (v1,[]):=by
     rw[<-ac1];exact Zhm _ λr hr=>Classical.not_not.1 (ht r hr)
    exact ZdH w1 p1 this
   | op l' z' t' n'=>
    obtain⟨w2,p2,rfl,rfl,rfl,up2,ac2,rfl,rfl⟩:=Ze7 e2;obtain⟨hd,hx,hy⟩:=hap
    -- what each turns the other doesn't look at
    have q1:∀x∈up1,x.1∉ZaZ fr.ev o2.op:=by
     intro x hx1 hx2;rcases k1 x hx1 with g|⟨g1,g2,_⟩
     .exact hx (by cases up1<;>simp_all) (g▸hx2)
     .rcases hd with⟨d,_⟩|d
      .rw[g1]at d;cases d
      .exact d _ g2 hx2
    have ac2':act h.m n' fr.ev o2.op=some (v2,up2):=by
     rw[<-ac2];refine Zhm _ λr hr=>(Hp.puts_m λx hx1 e=>q1 x hx1 (e▸hr)).symm
    have k2:=Zhk ac2';have q2:∀x∈up2,x.1∉ZaZ fr.ev o1.op:=by
     intro x hx1 hx2;rcases k2 x hx1 with g|⟨g1,g2,_⟩
     .exact hy (by cases up2<;>simp_all) (g▸hx2)
     .rcases hd with⟨_,d⟩|d
      .rw[g1]at d;cases d
      .exact d _ hx2 g2
    have ac1':act (h.puts up2).m n fr.ev o1.op=some (v1,up1):=by
     rw[<-ac1];refine Zhm _ λr hr=>Hp.puts_m λx hx1 e=>q2 x hx1 (e▸hr)
    have hcomm:(h.puts up1).puts up2=(h.puts up2).puts up1:=by
     refine Hp.puts_comm _ _ _ λx hx1 y hy1 e=>?_;rcases k1 x hx1 with g|⟨g1,g2,g3⟩
     .rcases k2 y hy1 with g'|⟨g1',g2',g3'⟩
      .exact hne (g.symm.trans (e.trans g'))
      .exact q1 x hx1 (e▸g2')
     .exact q2 y hy1 (e▸g2)
    exact⟨h.puts up2,ZdH w2 p2 ac2',by rw[hcomm];exact ZdH w1 p1 ac1'⟩
  | call c=>
   obtain⟨rfl,w1,f,args,id,caps,hop,hf,hcall⟩:=Zej e1
   cases t2 with
   |no=>
    obtain⟨hw,rfl,rfl⟩:=Zgm e2;exact⟨h,Zfn hw,e1⟩
   |call c'=>exact hap.elim
   | op l z t n=>
    obtain⟨w2,p2,rfl,rfl,rfl,up2,ac2,rfl,rfl⟩:=Ze7 e2;obtain⟨hl,ht⟩:=hap;have ac2':act h.m n fr.ev o2.op=some (v2,up2):=by
     rw[<-ac2];exact Zhm _ λr hr=>(Classical.not_not.1 (ht r hr)).symm
    rcases Zm5 ac2 hl with rfl|⟨ob,rfl⟩
    .exact⟨h,ZdH w2 p2 ac2',e1⟩
    .obtain⟨_,_,m3⟩:=Zek hc ob hn2 hl2 (λe=>hne e.symm) e1;exact⟨h.put n ob,ZdH w2 p2 ac2',m3⟩
 obtain⟨h1',b1,b2⟩:=key;exact⟨h1',b1,by rw[Zkk (Ziy a2)];exact b2⟩

end Mu
