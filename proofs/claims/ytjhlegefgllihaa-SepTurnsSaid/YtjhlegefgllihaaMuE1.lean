/- The evaluator: which operations may go in either order, and that a heap with an object more makes no difference. -/
import Derived.Test.YtjhlegefgllihaaMuE0
namespace Mu
open Go (IntKind BinOp UnOp)

def Zhi:Op→List Opd
 | .mv x|.box x|.ld _ _ x|.nilck x|.un _ x|.conv _ x|.fa _ x|.fld _ _ _ x|.ext x _|.len x|.slen x|.capn x|.clr _ x|.mlen x=>[x]
 | .alloc _|.cst _|.mkm|.bad=>[]
 | .pick c a b=>[c,a,b]
 | .build _ ps|.bsl _ _ _ ps=>ps.map (·.2.2)
 | .st _ a x|.bin _ a x|.eq _ _ a x|.mks _ _ _ a x|.growz _ _ _ a x|.ixa _ a x|.ixaa _ _ a x|.ix _ _ _ a x|.ixs a x|.app _ _ a x|.cpy _ a x|.mlk _ _ _ a x=>[a,x]
 | .clo _ xs|.mx xs|.mn xs=>xs
 | .slc _ x lo hi mx|.slca _ _ x lo hi mx=>x::(lo.toList++hi.toList++mx.toList)
 | .mup _ m k v=>[m,k,v]
 | .call f args=>f::args

theorem Zdu {e e':Opd→V}{x:Option Opd}{d n:Nat}(h:∀ y∈x.toList,e y=e' y):Zdd e x d n=Zdd e' x d n:=by
 cases x with
 | none=>rfl
 | some x=>simp only [Zdd,h x (by simp)]

theorem Zir {e e':Opd→V}{ps:List (Nat×Nat×Opd)}(h:∀ x∈ps.map (·.2.2),e x=e' x):evs e ps=evs e' ps:=by
 unfold evs;refine List.map_congr_left fun p hp=>?_;obtain ⟨o,sz,x⟩:=p;simp only [h x (List.mem_map.2 ⟨_,hp,rfl⟩)]

theorem ZhE {e e':Opd→V}{xs:List Opd}(h:∀ x∈xs,e x=e' x):V.ints e xs=V.ints e' xs:=by
 induction xs with
 | nil=>rfl
 | cons x l ih =>
  cases l with
  | nil=>simp only [V.ints,h x (by simp)]
  | cons y l=>simp only [V.ints,h x (by simp),ih fun z hz=>h z (by simp only [List.mem_cons] at hz ⊢; exact .inr hz)]

theorem Zo7 {rd:Nat→Option Obj}{nr:Nat}{e e':Opd→V}(op:Op) (h:∀ x∈Zhi op,e x=e' x):act rd nr e op=act rd nr e' op:=by
 cases op with
 | build z ps=>simp only [act,Zir h]
 | bsl sz n z ps=>simp only [act,Zir h]
 | clo id xs=>simp only [act];rw [List.map_congr_left (show ∀ x∈xs,e x=e' x from h)]
 | mx xs=>simp only [act,ZhE (show ∀ x∈xs,e x=e' x from h)]
 | mn xs=>simp only [act,ZhE (show ∀ x∈xs,e x=e' x from h)]
 | slc sz x lo hi mx =>
  simp only [Zhi,List.mem_cons,List.mem_append] at h;simp only [act,h x (.inl rfl)];simp only [Zdu (e:=e) (e':=e') (x:=lo) fun y hy=>h y (by simp_all),Zdu (e:=e) (e':=e') (x:=hi) fun y hy=>h y (by simp_all),
   Zdu (e:=e) (e':=e') (x:=mx) fun y hy=>h y (by simp_all)]
 | slca sz n x lo hi mx =>
  simp only [Zhi,List.mem_cons,List.mem_append] at h;simp only [act,h x (.inl rfl)];simp only [Zdu (e:=e) (e':=e') (x:=lo) fun y hy=>h y (by simp_all),Zdu (e:=e) (e':=e') (x:=hi) fun y hy=>h y (by simp_all),
   Zdu (e:=e) (e':=e') (x:=mx) fun y hy=>h y (by simp_all)]
 | pick c a b =>
  simp only [Zhi] at h;simp only [act,h c (by simp),h a (by simp),h b (by simp)]
 | mup ks m k v =>
  simp only [Zhi] at h;simp only [act,h m (by simp),h k (by simp),h v (by simp)]
 | _ =>
  simp only [Zhi,List.mem_cons,List.not_mem_nil,or_false,forall_eq,forall_eq_or_imp] at h;simp only [act]
  try simp only [h]

theorem ZmW {e e':Opd→V}(op:Op) (h:∀ x∈Zhi op,e x=e' x):ZbB e op=ZbB e' op:=by
 cases op with
 | slca sz n x lo hi mx=>simp only [ZbB,h x (by simp [Zhi])]
 | _ =>
  first
  | rfl
  | (simp only [Zhi,List.mem_cons,List.not_mem_nil,or_false,forall_eq,forall_eq_or_imp] at h;simp only [ZbB,h])

theorem Zh4 {rd rd':Nat→Option Obj}{nr:Nat}{e:Opd→V}(op:Op) (h:∀ r∈ZbB e op,rd r=rd' r):act rd nr e op=act rd' nr e op:=by
 cases op with
 | ld agg sz a =>
  simp only [act,ZbB] at *;cases ha:e a<;>simp only [ha,Zbe,List.mem_cons,List.not_mem_nil,or_false,forall_eq] at h ⊢;rw [h]
 | st sz a x =>
  simp only [act,ZbB] at *;cases ha:e a<;>simp only [ha,Zbe,List.mem_cons,List.not_mem_nil,or_false,forall_eq] at h ⊢;rw [h]
 | slca sz n x lo hi mx =>
  simp only [act,ZbB] at *;cases ha:e x<;>simp only [ha,Zbe,List.mem_cons,List.not_mem_nil,or_false,forall_eq] at h ⊢;rw [h]
 | app sz b x y =>
  simp only [act,ZbB,List.mem_append] at *;cases ha:e x<;>simp only []<;>cases hb:e y<;>simp only [ha,hb,Zbe,List.mem_cons,List.not_mem_nil,or_false,false_or,forall_eq,forall_eq_or_imp] at h ⊢
  ·obtain ⟨h1,h2⟩:=h;rw [h1,h2]
  ·rw [h]
 | cpy sz x y =>
  simp only [act,ZbB,List.mem_append] at *;cases ha:e x<;>cases hb:e y<;>simp only [ha,hb,Zbe,List.mem_cons,List.not_mem_nil,or_false,false_or,forall_eq,forall_eq_or_imp] at h ⊢;obtain ⟨h1,h2⟩:=h;rw [h1,h2]
 | clr z x =>
  simp only [act,ZbB] at *;cases ha:e x<;>simp only [ha,Zbe,List.mem_cons,List.not_mem_nil,or_false,forall_eq] at h ⊢;rw [h]
 | mlk ks ok z m k =>
  simp only [act,ZbB] at *;cases ha:e m<;>simp only [ha,Zbe,List.mem_cons,List.not_mem_nil,or_false,forall_eq] at h ⊢;rw [h]
 | mup ks m k v =>
  simp only [act,ZbB] at *;cases ha:e m<;>simp only [ha,Zbe,List.mem_cons,List.not_mem_nil,or_false,forall_eq] at h ⊢;rw [h]
 | mlen x =>
  simp only [act,ZbB] at *;cases ha:e x<;>simp only [ha,Zbe,List.mem_cons,List.not_mem_nil,or_false,forall_eq] at h ⊢;rw [h]
 | _=>rfl

theorem Zh3 {rd:Nat→Option Obj}{nr:Nat}{e:Opd→V}{op:Op}{v:V}{up:List (Nat×Obj)}(h:act rd nr e op=some (v,up)) :
  ∀ q∈up,q.1=nr∨(op.looks=false∧q.1∈ZbB e op∧rd q.1≠none):=by
 cases op<;>simp only [act] at h<;>(repeat' split at h) <;>
  (first
   | (simp only [Option.some.injEq,Prod.mk.injEq,reduceCtorEq] at h;obtain ⟨_,rfl⟩:=h;simp_all [ZbB,Op.looks,Zbe])
   | (simp only [reduceCtorEq] at h))

theorem Hp.put_m (h:Hp) (r:Nat) (o:Obj) (q:Nat):(h.put r o).m q=if q=r then some o else h.m q:=rfl
theorem Hp.puts_m {h:Hp}{up:List (Nat×Obj)}{q:Nat}(hq:∀ x∈up,x.1≠q):(h.puts up).m q=h.m q:=by
 induction up generalizing h with
 | nil=>rfl
 | cons x l ih =>
  obtain ⟨r,o⟩:=x;rw [Hp.puts,ih fun y hy=>hq y (by simp [hy]),Hp.put_m,if_neg fun e=>hq _ (List.mem_cons_self ..) e.symm]
theorem Hp.put_comm (h:Hp) {r r':Nat}(o o':Obj) (hn:r≠r'):(h.put r o).put r' o'=(h.put r' o').put r o:=by
 refine Hp.ext' (funext fun q=>?_) ?_
 ·simp only [Hp.put_m];by_cases h1:q=r<;>by_cases h2:q=r'<;>simp [h1,h2]
  ·exact absurd (h1.symm.trans h2) hn
  ·intro e;exact absurd e hn
  ·intro e;exact absurd e.symm hn
 ·simp only [Hp.put];omega
theorem Hp.put_puts (h:Hp) {r:Nat}(o:Obj) (up:List (Nat×Obj)) (hn:∀ x∈up,x.1≠r):(h.put r o).puts up=(h.puts up).put r o:=by
 induction up generalizing h with
 | nil=>rfl
 | cons x l ih =>
  obtain ⟨q,o'⟩:=x;rw [Hp.puts,Hp.put_comm h o o' (fun e=>hn _ (List.mem_cons_self ..) e.symm),ih _ fun y hy=>hn y (by simp [hy])];rfl
theorem Hp.puts_comm (h:Hp) (up up':List (Nat×Obj)) (hn:∀ x∈up,∀ y∈up',x.1≠y.1):(h.puts up).puts up'=(h.puts up').puts up:=by
 induction up generalizing h with
 | nil=>rfl
 | cons x l ih =>
  obtain ⟨q,o'⟩:=x;rw [Hp.puts,ih _ fun a ha=>hn a (by simp [ha]),Hp.put_puts _ _ _ fun y hy e=>hn _ (List.mem_cons_self ..) _ hy e.symm];rfl
theorem Hp.puts_n (h:Hp) (up:List (Nat×Obj)):h.n≤(h.puts up).n:=by
 induction up generalizing h with
 | nil=>exact Nat.le_refl _
 | cons x l ih=>obtain ⟨q,o'⟩:=x;exact Nat.le_trans (by simp only [Hp.put];omega) (ih _)
def Zhy (call:ZbR):Prop:=∀ f args h v h' n o,h.m n=none→n<h.n→call f args h=some (v,h')→h'.m n=none∧n<h'.n∧call f args (h.put n o)=some (v,h'.put n o)

theorem ZlW {rd:Nat→Option Obj}{nr n:Nat}{e:Opd→V}{op:Op}{v:V}{up:List (Nat×Obj)}{o:Obj}(hn:rd n=none)
  (h:act rd nr e op=some (v,up)):act (fun q=>if q=n then some o else rd q) nr e op=some (v,up):=by
 by_cases ht:n∈ZbB e op
 ·-- an operation that has come through has not leaned on what isn't there
  cases op with
  | ld agg sz a =>
   simp only [act] at h ⊢;split at h
   ·rename_i r o' ha;simp only [ZbB,ha,Zbe,List.mem_singleton] at ht;subst ht;simp [hn] at h
   ·cases h
  | st sz a x =>
   simp only [act] at h ⊢;split at h
   ·rename_i r o' ha;simp only [ZbB,ha,Zbe,List.mem_singleton] at ht;subst ht;simp [hn] at h
   ·cases h
  | slca sz n' x lo hi mx =>
   simp only [act] at h ⊢;split at h
   ·rename_i r o' ha;simp only [ZbB,ha,Zbe,List.mem_singleton] at ht;subst ht
    repeat' split at h
    all_goals first|(cases h;done)|simp_all
   ·cases h
  | app sz b x y =>
   simp only [act] at h ⊢;split at h
   ·split at h
    ·exact h
    ·rename_i es' r' o' n' c' ex' hy;split at h
     ·rename_i hes;split at h
      ·rename_i h0;simp [h0,hes];simpa using h
      ·rename_i h0;split at h
       ·rename_i w cs' hr;have:r'≠n:=fun e=>by subst e;rw [hn] at hr;cases hr
        simp only [this,if_false,hr,hes,if_true,h0];exact h
       ·cases h
     ·cases h
    ·cases h
   ·rename_i es r o' n0 c ex hx;split at h
    ·rename_i hes0;split at h
     ·subst hes0;simpa using h
     ·rename_i es' r' o'' n' c' ex' hy;split at h
      ·rename_i hes;split at h
       ·rename_i h0;subst hes0;simp only [h0,hes,if_true];simpa using h
       ·rename_i h0;split at h
        ·rename_i hg;split at h
         ·rename_i w' cs' hr';have h1:r'≠n:=fun e=>by subst e;rw [hn] at hr';cases hr'
          simp only [h1,if_false,hr',hes,hes0,if_true,h0];rw [if_pos hg];exact h
         ·cases h
        rename_i hg;split at h
        ·rename_i w cs w' cs' hr hr';have h1:r'≠n:=fun e=>by subst e;rw [hn] at hr';cases hr'
         have h2:r≠n:=fun e=>by subst e;rw [hn] at hr;cases hr
         simp only [h1,h2,if_false,hr,hr',hes,hes0,if_true,h0];rw [if_neg hg];exact h
        ·cases h
      ·cases h
     ·cases h
    ·cases h
   ·cases h
  | cpy sz x y =>
   simp only [act] at h ⊢;split at h
   ·split at h
    ·rename_i h0;simp only [h0,if_true];exact h
    ·rename_i h0;split at h
     ·rename_i es r o' n0 c ex es' r' o'' n' c' ex' hx hy;split at h
      ·rename_i hes;split at h
       ·rename_i cs w' cs' hr hr';have h1:r'≠n:=fun e=>by subst e;rw [hn] at hr';cases hr'
        have h2:r≠n:=fun e=>by subst e;rw [hn] at hr;cases hr
        simp only [h1,h2,if_false,hr,hr',if_pos hes,h0];exact h
       ·cases h
      ·cases h
     ·cases h
   ·cases h
  | clr z x =>
   simp only [act] at h ⊢;split at h
   ·exact h
   ·rename_i es r o' n0 c ex hx;split at h
    ·rename_i h0;simp only [h0,if_true];exact h
    ·rename_i h0;split at h
     ·rename_i hes;split at h
      ·rename_i cs hr;have h2:r≠n:=fun e=>by subst e;rw [hn] at hr;cases hr
       simp only [h2,if_false,hr,if_pos hes,h0];exact h
      ·cases h
     ·cases h
   ·cases h
  | mlk ks ok z m k =>
   simp only [act] at h ⊢;split at h
   ·rename_i r ha;simp only [ZbB,ha,Zbe,List.mem_singleton] at ht;subst ht;simp [hn] at h
   ·cases h
  | mup ks m k v =>
   simp only [act] at h ⊢;split at h
   ·rename_i r ha;simp only [ZbB,ha,Zbe,List.mem_singleton] at ht;subst ht;simp [hn] at h
   ·cases h
  | mlen x =>
   simp only [act] at h ⊢;split at h
   ·rename_i r ha;simp only [ZbB,ha,Zbe,List.mem_singleton] at ht;subst ht;simp [hn] at h
   ·cases h
  | _=>simp [ZbB] at ht
 ·rw [← h];refine (Zh4 op fun r hr=>?_).symm;have:r≠n:=fun e=>ht (e ▸ hr);simp [this]

theorem Zn9 {h:Hp}{nr n:Nat}{e:Opd→V}{op:Op}{v:V}{up:List (Nat×Obj)}(hn:h.m n=none) (hnr:n≠nr) (ha:act h.m nr e op=some (v,up)):∀ x∈up,x.1≠n:=by
 intro x hx e;rcases Zh3 ha x hx with h1|⟨_,_,h1⟩
 ·exact hnr (e.symm.trans h1)
 ·rw [e] at h1;exact h1 hn

theorem ZeB {call:ZbR}(hc:Zhy call) {nr n:Nat}{o:Oper}{fr:Fr}{h h':Hp}{v:V}{t:Tr}(ob:Obj) (hn:h.m n=none) (hlt:n<h.n) (hnr:n≠nr)
  (hs:ZaD call nr o fr h=some (v,h',t)):h'.m n=none∧n<h'.n∧ZaD call nr o fr (h.put n ob)=some (v,h'.put n ob,t):=by
 unfold ZaD at hs ⊢;split at hs
 ·rename_i hg;rw [if_pos hg];split at hs
  ·rename_i f args hop;split at hs
   ·rename_i id caps hf;split at hs
    ·rename_i v h1 hcall;obtain ⟨h2,h3,h4⟩:=hc _ _ _ _ _ _ ob hn hlt hcall;simp only [Option.some.injEq,Prod.mk.injEq] at hs;obtain ⟨rfl,rfl,rfl⟩:=hs;refine ⟨h2,h3,?_⟩;simp only [h4];simp only [Option.some.injEq,Prod.mk.injEq,true_and,Tr.call.injEq];funext r;simp only [Hp.put_m];by_cases hr:r=n
     ·subst hr;simp [hn,h2]
     ·simp [hr]
    ·cases hs
   ·cases hs
  ·rename_i hop;split at hs
   ·rename_i v up ha;simp only [Option.some.injEq,Prod.mk.injEq] at hs;obtain ⟨rfl,rfl,rfl⟩:=hs;have hk:=Zn9 hn hnr ha;refine ⟨by rw [Hp.puts_m hk];exact hn,Nat.lt_of_lt_of_le hlt (Hp.puts_n _ _),?_⟩;have ha':=ZlW (o:=ob) hn ha;have hm:(h.put n ob).m=fun q=>if q=n then some ob else h.m q:=funext fun q=>Hp.put_m ..;rw [hm,ha'];simp only [Hp.put_puts _ _ _ hk]
   ·cases hs
 ·rename_i hg;rw [if_neg hg];simp only [Option.some.injEq,Prod.mk.injEq] at hs;obtain ⟨rfl,rfl,rfl⟩:=hs;exact ⟨hn,hlt,rfl⟩

theorem put_n {h:Hp}{n:Nat}(ob:Obj) (hlt:n<h.n):(h.put n ob).n=h.n:=by simp only [Hp.put];omega

theorem Zgx {call:ZbR}(hc:Zhy call) {n:Nat}(ob:Obj):∀ {ops:List Oper}{fr fr':Fr}{h h':Hp},h.m n=none→n<h.n →
  ZbA call ops fr h=some (fr',h')→h'.m n=none∧n<h'.n∧ZbA call ops fr (h.put n ob)=some (fr',h'.put n ob)
 | [],fr,fr',h,h',hn,hlt,he=>by
  simp only [ZbA,Option.some.injEq,Prod.mk.injEq] at he;obtain ⟨rfl,rfl⟩:=he;exact ⟨hn,hlt,rfl⟩
 | o::l,fr,fr',h,h',hn,hlt,he=>by
  simp only [ZbA] at he ⊢;split at he
  ·rename_i v h1 t hs;obtain ⟨h2,h3,h4⟩:=ZeB hc ob hn hlt (by omega) hs;rw [put_n ob hlt,h4];exact Zgx hc ob h2 h3 he
  ·cases he

theorem Zgd {call:ZbR}(hc:Zhy call) {n base:Nat}(hb:n<base) (ob:Obj):∀ {ops:List (Nat×Oper)}{fr fr':Fr}{h h':Hp}{ts:List (Nat×Tr)},h.m n=none→n<h.n →
  Zad call base ops fr h=some (fr',h',ts)→h'.m n=none∧n<h'.n∧Zad call base ops fr (h.put n ob)=some (fr',h'.put n ob,ts)
 | [],fr,fr',h,h',ts,hn,hlt,he=>by
  simp only [Zad,Option.some.injEq,Prod.mk.injEq] at he;obtain ⟨rfl,rfl,rfl⟩:=he;exact ⟨hn,hlt,rfl⟩
 | (j,o)::l,fr,fr',h,h',ts,hn,hlt,he=>by
  simp only [Zad] at he ⊢;split at he
  ·rename_i v h1 t hs;split at he
   ·rename_i fr2 h2 ts2 hr;simp only [Option.some.injEq,Prod.mk.injEq] at he;obtain ⟨rfl,rfl,rfl⟩:=he;obtain ⟨g2,g3,g4⟩:=ZeB hc ob hn hlt (by omega) hs;obtain ⟨k2,k3,k4⟩:=Zgd hc hb ob g2 g3 hr;simp only [g4,k4];exact ⟨k2,k3,trivial⟩
   ·cases he
  ·cases he

theorem Zmf {h:Hp}{n k:Nat}(ob:Obj) (hlt:n<h.n):(h.put n ob).bump k=(h.bump k).put n ob :=
 Hp.ext' rfl (by simp only [Hp.put,Hp.bump];omega)

theorem Zhh {call:ZbR}(hc:Zhy call) {n:Nat}(ob:Obj) {ops:List Oper}{prs:List (Nat×Nat)}{fr fr':Fr}{h h':Hp}(hn:h.m n=none) (hlt:n<h.n)
  (he:Zcj call ops prs fr h=some (fr',h')):h'.m n=none∧n<h'.n∧Zcj call ops prs fr (h.put n ob)=some (fr',h'.put n ob):=by
 unfold Zcj at he ⊢;split at he
 ·rename_i fr1 h1 ts hd;split at he
  ·rename_i hp;simp only [Option.some.injEq,Prod.mk.injEq] at he;obtain ⟨rfl,rfl⟩:=he;obtain ⟨k2,k3,k4⟩:=Zgd hc hlt ob (h:=h.bump ops.length) hn (by simp only [Hp.bump];omega) hd;rw [put_n ob hlt,Zmf ob hlt,k4];exact ⟨k2,k3,if_pos hp⟩
  ·cases he
 ·cases he

theorem Zky {n:Nat}(ob:Obj) {fr:Fr}{h:Hp}(hn:h.m n=none) {r:Res}{v:V}(hr:ZgZ fr h r=some v):ZgZ fr (h.put n ob) r=some v:=by
 cases r with
 | t k=>exact hr
 | cell k agg sz =>
  simp only [ZgZ] at hr ⊢;split at hr
  ·rename_i q o hq;have:q≠n:=fun e=>by subst e;simp [hn] at hr
   rw [Hp.put_m,if_neg this];exact hr
  ·cases hr
theorem ZfJ {n:Nat}(ob:Obj) {fr:Fr}{h:Hp}(hn:h.m n=none):∀ {rs:List Res}{vs:List V},Zcq fr h rs=some vs→Zcq fr (h.put n ob) rs=some vs
 | [],vs,hr=>hr
 | r::l,vs,hr=>by
  simp only [Zcq] at hr ⊢;split at hr
  ·rename_i v vs' h1 h2;rw [Zky ob hn h1,ZfJ ob hn h2];exact hr
  ·cases hr

def ZlE (F:Fr→Hp→Option (Ex×Fr×Hp)):Prop:=∀ fr h e fr' h' n o,h.m n=none→n<h.n→F fr h=some (e,fr',h')→h'.m n=none∧n<h'.n∧F fr (h.put n o)=some (e,fr',h'.put n o)

theorem ZhH {F:Fr→Hp→Option (Ex×Fr×Hp)}(hF:ZlE F):∀ k,ZlE (Zfx F k)
 | 0=>fun fr h e fr' h' n o hn hlt he=>by cases he
 | k+1=>fun fr h e fr' h' n o hn hlt he=>by
  simp only [Zfx] at he ⊢;split at he
  ·rename_i fr1 h1 hb;obtain ⟨g2,g3,g4⟩:=hF _ _ _ _ _ _ o hn hlt hb;rw [g4];exact ZhH hF k _ _ _ _ _ _ _ g2 g3 he
  ·rename_i hb;obtain ⟨g2,g3,g4⟩:=hF _ _ _ _ _ _ o hn hlt he;rw [g4];refine ⟨g2,g3,?_⟩;split
   ·rename_i heq;simp only [Option.some.injEq,Prod.mk.injEq] at heq;obtain ⟨rfl,rfl,rfl⟩:=heq;exact absurd he (hb _ _)
   ·rfl

theorem Zct {call:ZbR}(hc:Zhy call) (k:Nat):∀ c,ZlE (ZaN call k c)
 | .skip=>fun fr h e fr' h' n o hn hlt he=>by
  simp only [ZaN,Option.some.injEq,Prod.mk.injEq] at he ⊢;obtain ⟨rfl,rfl,rfl⟩:=he;exact ⟨hn,hlt,rfl,rfl,rfl⟩
 | .region ops=>fun fr h e fr' h' n o hn hlt he=>by
  simp only [ZaN] at he ⊢;split at he
  ·rename_i fr1 h1 hb;obtain ⟨g2,g3,g4⟩:=Zgx hc o hn hlt hb;simp only [Option.some.injEq,Prod.mk.injEq] at he;obtain ⟨rfl,rfl,rfl⟩:=he;rw [g4];exact ⟨g2,g3,rfl⟩
  ·cases he
 | .draw ops prs=>fun fr h e fr' h' n o hn hlt he=>by
  simp only [ZaN] at he ⊢;split at he
  ·rename_i fr1 h1 hb;obtain ⟨g2,g3,g4⟩:=Zhh hc o hn hlt hb;simp only [Option.some.injEq,Prod.mk.injEq] at he;obtain ⟨rfl,rfl,rfl⟩:=he;rw [g4];exact ⟨g2,g3,rfl⟩
  ·cases he
 | .seq a b=>fun fr h e fr' h' n o hn hlt he=>by
  simp only [ZaN] at he ⊢;split at he
  ·rename_i fr1 h1 hb;obtain ⟨g2,g3,g4⟩:=Zct hc k a _ _ _ _ _ _ o hn hlt hb;rw [g4];exact Zct hc k b _ _ _ _ _ _ _ g2 g3 he
  ·rename_i hb;obtain ⟨g2,g3,g4⟩:=Zct hc k a _ _ _ _ _ _ o hn hlt he;rw [g4];refine ⟨g2,g3,?_⟩;split
   ·rename_i heq;simp only [Option.some.injEq,Prod.mk.injEq] at heq;obtain ⟨rfl,rfl,rfl⟩:=heq;exact absurd he (hb _ _)
   ·rfl
 | .cond c a b=>fun fr h e fr' h' n o hn hlt he=>by
  simp only [ZaN] at he ⊢;split at he
  ·exact Zct hc k a _ _ _ _ _ _ o hn hlt he
  ·exact Zct hc k b _ _ _ _ _ _ o hn hlt he
  ·cases he
 | .block id a=>fun fr h e fr' h' n o hn hlt he=>by
  simp only [ZaN] at he ⊢;split at he
  ·rename_i id' fr1 h1 hb;obtain ⟨g2,g3,g4⟩:=Zct hc k a _ _ _ _ _ _ o hn hlt hb;rw [g4];simp only;split at he
   ·rename_i hid;simp only [Option.some.injEq,Prod.mk.injEq] at he;obtain ⟨rfl,rfl,rfl⟩:=he;rw [if_pos hid];exact ⟨g2,g3,rfl⟩
   ·rename_i hid;simp only [Option.some.injEq,Prod.mk.injEq] at he;obtain ⟨rfl,rfl,rfl⟩:=he;rw [if_neg hid];exact ⟨g2,g3,rfl⟩
  ·rename_i hb;obtain ⟨g2,g3,g4⟩:=Zct hc k a _ _ _ _ _ _ o hn hlt he;rw [g4];refine ⟨g2,g3,?_⟩;split
   ·rename_i heq;simp only [Option.some.injEq,Prod.mk.injEq] at heq;obtain ⟨rfl,rfl,rfl⟩:=heq;exact absurd he (hb _ _ _)
   ·rfl
 | .loop a=>fun fr h e fr' h' n o hn hlt he=>ZhH (Zct hc k a) k _ _ _ _ _ _ _ hn hlt he
 | .exit id=>fun fr h e fr' h' n o hn hlt he=>by
  simp only [ZaN,Option.some.injEq,Prod.mk.injEq] at he ⊢;obtain ⟨rfl,rfl,rfl⟩:=he;exact ⟨hn,hlt,rfl,rfl,rfl⟩
 | .ret=>fun fr h e fr' h' n o hn hlt he=>by
  simp only [ZaN,Option.some.injEq,Prod.mk.injEq] at he ⊢;obtain ⟨rfl,rfl,rfl⟩:=he;exact ⟨hn,hlt,rfl,rfl,rfl⟩
 | .bad=>fun fr h e fr' h' n o hn hlt he=>by cases he

theorem Zfc (P:Prog):∀ k,Zhy (Zb9 P k)
 | 0=>fun f args h v h' n o hn hlt he=>by cases he
 | k+1=>fun f args h v h' n o hn hlt he=>by
  simp only [Zb9] at he ⊢;split at he
  ·cases he
  ·rename_i fn hf;split at he
   ·cases he
   rename_i hz;rw [if_neg hz];split at he
   ·rename_i fr1 h1 hb;obtain ⟨g2,g3,g4⟩:=Zct (Zfc P k) k _ _ _ _ _ _ _ o hn hlt hb;split at he
    ·rename_i vs hr;simp only [Option.some.injEq,Prod.mk.injEq] at he;obtain ⟨rfl,rfl⟩:=he;simp only [g4,ZfJ o g2 hr];exact ⟨g2,g3,trivial⟩
    ·cases he
   ·rename_i fr1 h1 hb;obtain ⟨g2,g3,g4⟩:=Zct (Zfc P k) k _ _ _ _ _ _ _ o hn hlt hb;split at he
    ·rename_i vs hr;simp only [Option.some.injEq,Prod.mk.injEq] at he;obtain ⟨rfl,rfl⟩:=he;simp only [g4,ZfJ o g2 hr];exact ⟨g2,g3,trivial⟩
    ·cases he
   ·cases he

/-! ### Which ZgJ first -/
def Zhc (o:Oper):List Nat:=(Zhi o.op).filterMap (fun|.t n=>some n|.c _=>none)++(match o.guard with|some (j,_)=>[j]|none=>[])

def ZgI (a b:Oper):Bool :=
 (match a.dst with|some d=>!(Zhc b).contains d&&b.dst != some d|none=>true) &&
 (match b.dst with|some d=>!(Zhc a).contains d|none=>true)

theorem ZjN {call:ZbR}{nr:Nat}{o:Oper}{fr fr':Fr}{h:Hp}(hs:∀ t∈Zhc o,fr t=fr' t):ZaD call nr o fr h=ZaD call nr o fr' h:=by
 have hw:ZbO o.guard fr=ZbO o.guard fr':=by
  cases hg:o.guard with
  | none=>rfl
  | some g =>
   obtain ⟨j,w⟩:=g;simp only [ZbO];rw [hs j (by simp [Zhc,hg])]
 have he:∀ x∈Zhi o.op,fr.ev x=fr'.ev x:=by
  intro x hx
  cases x with
  | t n=>exact hs n (List.mem_append_left _ (List.mem_filterMap.2 ⟨_,hx,rfl⟩))
  | c v=>rfl
 unfold ZaD;rw [hw];split
 ·cases hop:o.op with
  | call f args =>
   rw [hop] at he;simp only [he f (by simp [Zhi]),List.map_congr_left fun x hx=>he x (show x∈f::args from List.mem_cons_of_mem _ hx)]
  | _=>rw [hop] at he;simp only [Zo7 _ he,ZmW _ he]
 ·rfl

theorem Zi4 {o:Oper}{fr:Fr}{d:Option Nat}{v:V}(hd:∀ k,d=some k→k ∉ Zhc o):∀ t∈Zhc o,(fr.put d v) t=fr t:=by
 intro t ht
 cases d with
 | none=>rfl
 | some k =>
  simp only [Fr.put,Fr.set];rw [if_neg];intro e;exact hd k rfl (e ▸ ht)

theorem Zjd {fr:Fr}{a b:Option Nat}{x y:V}(hd:∀ k,a=some k→b≠some k):(fr.put a x).put b y=(fr.put b y).put a x:=by
 cases a with
 | none=>rfl
 | some k =>
  cases b with
  | none=>rfl
  | some j =>
   funext t;have:j≠k:=fun e=>hd k rfl (by rw [e]);simp only [Fr.put,Fr.set];by_cases h1:t=k<;>by_cases h2:t=j<;>simp [h1,h2]
   ·exact absurd (h2.symm.trans h1) this
   ·intro e;exact absurd e.symm this
   ·intro e;exact absurd e this

theorem ZgU {a b:Oper}(h:ZgI a b=true):(∀ k,a.dst=some k→k ∉ Zhc b)∧(∀ k,b.dst=some k→k ∉ Zhc a)∧(∀ k,a.dst=some k→b.dst≠some k):=by
 unfold ZgI at h;simp only [Bool.and_eq_true] at h;obtain ⟨h1,h2⟩:=h;refine ⟨fun k hk=>?_,fun k hk=>?_,fun k hk=>?_⟩
 ·rw [hk] at h1;simp at h1;exact h1.1
 ·rw [hk] at h2;simpa using h2
 ·rw [hk] at h1;simp at h1;exact h1.2

theorem ZlV {rd:Nat→Option Obj}{nr:Nat}{e:Opd→V}{op:Op}{v:V}{up:List (Nat×Obj)}(h:act rd nr e op=some (v,up)) (hl:op.looks=true):up=[]∨∃ o,up=[(nr,o)]:=by
 cases op<;>simp only [Op.looks,Bool.false_eq_true] at hl<;>simp only [act] at h<;>(repeat' split at h) <;>
  (first
   | (simp only [Option.some.injEq,Prod.mk.injEq,reduceCtorEq] at h;obtain ⟨_,rfl⟩:=h;first|exact .inl rfl|exact .inr ⟨_,rfl⟩)
   | (simp only [reduceCtorEq] at h))

theorem ZeY {call:ZbR}{nr:Nat}{o:Oper}{fr:Fr}{h h':Hp}{v:V}{l z:Bool}{t:List Nat}{n:Nat}(hs:ZaD call nr o fr h=some (v,h',.op l z t n)) :
  ZbO o.guard fr=true∧(∀ f args,o.op≠.call f args)∧n=nr∧l=o.op.looks∧t=ZbB fr.ev o.op∧∃ up,act h.m nr fr.ev o.op=some (v,up)∧h'=h.puts up∧z=up.isEmpty:=by
 unfold ZaD at hs;split at hs
 ·rename_i hw;split at hs
  ·split at hs
   ·split at hs<;>simp at hs
   ·cases hs
  ·rename_i hop;split at hs
   ·rename_i v' up ha;simp only [Option.some.injEq,Prod.mk.injEq,Tr.op.injEq] at hs;obtain ⟨rfl,rfl,rfl,rfl,rfl,rfl⟩:=hs;exact ⟨hw,fun f args=>hop f args,rfl,rfl,rfl,up,ha,rfl,rfl⟩
   ·cases hs
 ·simp at hs

theorem Zed {call:ZbR}{nr:Nat}{o:Oper}{fr:Fr}{h:Hp}{v:V}{up:List (Nat×Obj)}(hw:ZbO o.guard fr=true) (hop:∀ f args,o.op≠.call f args) (ha:act h.m nr fr.ev o.op=some (v,up)) :
  ZaD call nr o fr h=some (v,h.puts up,.op o.op.looks up.isEmpty (ZbB fr.ev o.op) nr):=by
 unfold ZaD;rw [if_pos hw];split
 ·exact absurd ‹_› (hop _ _)
 ·rw [ha]

theorem ZeA {call:ZbR}{nr:Nat}{o:Oper}{fr:Fr}{h h':Hp}{v:V}{c:Nat→Prop}(hs:ZaD call nr o fr h=some (v,h',.call c)) :
  (c=fun r=>h'.m r≠h.m r)∧ZbO o.guard fr=true∧∃ f args id caps,o.op=.call f args∧fr.ev f=.f id caps∧call (fid id) (ZdX id (args.map fr.ev) caps) h=some (v,h'):=by
 unfold ZaD at hs;split at hs
 ·rename_i hw;split at hs
  ·rename_i f args hop;split at hs
   ·rename_i id caps hf;split at hs
    ·rename_i v' h1 hc;simp only [Option.some.injEq,Prod.mk.injEq,Tr.call.injEq] at hs;obtain ⟨rfl,rfl,rfl⟩:=hs;exact ⟨rfl,hw,f,args,id,caps,hop,hf,hc⟩
    ·cases hs
   ·cases hs
  ·split at hs<;>simp at hs
 ·simp at hs

theorem Zik {call:ZbR}{nr:Nat}{o:Oper}{fr:Fr}{h h':Hp}{v:V}{f:Opd}{args:List Opd}{id:Nat}{caps:List V}(hw:ZbO o.guard fr=true) (hop:o.op=.call f args) (hf:fr.ev f=.f id caps)
  (hc:call (fid id) (ZdX id (args.map fr.ev) caps) h=some (v,h')):ZaD call nr o fr h=some (v,h',.call fun r=>h'.m r≠h.m r):=by
 unfold ZaD;rw [if_pos hw,hop];simp only [hf,hc]

theorem ZgD {call:ZbR}{nr:Nat}{o:Oper}{fr:Fr}{h h':Hp}{v:V}(hs:ZaD call nr o fr h=some (v,h',.no)):ZbO o.guard fr≠true∧v=.un∧h'=h:=by
 unfold ZaD at hs;split at hs
 ·split at hs
  ·split at hs
   ·split at hs<;>simp at hs
   ·cases hs
  ·split at hs<;>simp at hs
 ·rename_i hw;simp only [Option.some.injEq,Prod.mk.injEq] at hs;exact ⟨hw,hs.1.symm,hs.2.1.symm⟩

theorem ZfM {call:ZbR}{nr:Nat}{o:Oper}{fr:Fr}{h:Hp}(hw:ZbO o.guard fr≠true):ZaD call nr o fr h=some (.un,h,.no):=by
 unfold ZaD;rw [if_neg hw]

theorem swap {call:ZbR}(hc:Zhy call) {n1 n2:Nat}{o1 o2:Oper}{fr:Fr}{h h1 h2:Hp}{v1 v2:V}{t1 t2:Tr}
  (e1:ZaD call n1 o1 fr h=some (v1,h1,t1)) (e2:ZaD call n2 o2 (fr.put o1.dst v1) h1=some (v2,h2,t2)) (ha:ZgI o1 o2=true) (hne:n1≠n2)
  (hn2:h.m n2=none) (hl2:n2<h.n) (hap:t1.apart t2) :
  ∃ h1',ZaD call n2 o2 fr h=some (v2,h1',t2)∧ZaD call n1 o1 (fr.put o2.dst v2) h1'=some (v1,h2,t1):=by
 obtain ⟨a1,a2,a3⟩:=ZgU ha;rw [ZjN (Zi4 a1)] at e2;have key:∃ h1',ZaD call n2 o2 fr h=some (v2,h1',t2)∧ZaD call n1 o1 fr h1'=some (v1,h2,t1):=by
  cases t1 with
  | no =>
   obtain ⟨hw,rfl,rfl⟩:=ZgD e1;exact ⟨h2,e2,ZfM hw⟩
  | op l z t n =>
   obtain ⟨w1,p1,rfl,rfl,rfl,up1,ac1,rfl,rfl⟩:=ZeY e1;have k1:=Zh3 ac1
   cases t2 with
   | no =>
    obtain ⟨hw,rfl,rfl⟩:=ZgD e2;exact ⟨h,ZfM hw,e1⟩
   | call c =>
    obtain ⟨rfl,w2,f,args,id,caps,hop,hf,hcall⟩:=ZeA e2;obtain ⟨hl,hz,ht⟩:=hap;obtain rfl:up1=[]:=by cases up1<;>simp_all
    simp only [Hp.puts] at *;refine ⟨h2,Zik w2 hop hf hcall,?_⟩;have:act h2.m n fr.ev o1.op=some (v1,[]):=by
     rw [← ac1];exact Zh4 _ fun r hr=>Classical.not_not.1 (ht r hr)
    exact Zed w1 p1 this
   | op l' z' t' n' =>
    obtain ⟨w2,p2,rfl,rfl,rfl,up2,ac2,rfl,rfl⟩:=ZeY e2;obtain ⟨hd,hx,hy⟩:=hap
    -- what each turns the other doesn't look at
    have q1:∀ x∈up1,x.1 ∉ ZbB fr.ev o2.op:=by
     intro x hx1 hx2;rcases k1 x hx1 with g|⟨g1,g2,_⟩
     ·exact hx (by cases up1<;>simp_all) (g ▸ hx2)
     ·rcases hd with ⟨d,_⟩|d
      ·rw [g1] at d;cases d
      ·exact d _ g2 hx2
    have ac2':act h.m n' fr.ev o2.op=some (v2,up2):=by
     rw [← ac2];refine Zh4 _ fun r hr=>(Hp.puts_m fun x hx1 e=>q1 x hx1 (e ▸ hr)).symm
    have k2:=Zh3 ac2';have q2:∀ x∈up2,x.1 ∉ ZbB fr.ev o1.op:=by
     intro x hx1 hx2;rcases k2 x hx1 with g|⟨g1,g2,_⟩
     ·exact hy (by cases up2<;>simp_all) (g ▸ hx2)
     ·rcases hd with ⟨_,d⟩|d
      ·rw [g1] at d;cases d
      ·exact d _ hx2 g2
    have ac1':act (h.puts up2).m n fr.ev o1.op=some (v1,up1):=by
     rw [← ac1];refine Zh4 _ fun r hr=>Hp.puts_m fun x hx1 e=>q2 x hx1 (e ▸ hr)
    have hcomm:(h.puts up1).puts up2=(h.puts up2).puts up1:=by
     refine Hp.puts_comm _ _ _ fun x hx1 y hy1 e=>?_;rcases k1 x hx1 with g|⟨g1,g2,g3⟩
     ·rcases k2 y hy1 with g'|⟨g1',g2',g3'⟩
      ·exact hne (g.symm.trans (e.trans g'))
      ·exact q1 x hx1 (e ▸ g2')
     ·exact q2 y hy1 (e ▸ g2)
    exact ⟨h.puts up2,Zed w2 p2 ac2',by rw [hcomm];exact Zed w1 p1 ac1'⟩
  | call c =>
   obtain ⟨rfl,w1,f,args,id,caps,hop,hf,hcall⟩:=ZeA e1
   cases t2 with
   | no =>
    obtain ⟨hw,rfl,rfl⟩:=ZgD e2;exact ⟨h,ZfM hw,e1⟩
   | call c'=>exact hap.elim
   | op l z t n =>
    obtain ⟨w2,p2,rfl,rfl,rfl,up2,ac2,rfl,rfl⟩:=ZeY e2;obtain ⟨hl,ht⟩:=hap;have ac2':act h.m n fr.ev o2.op=some (v2,up2):=by
     rw [← ac2];exact Zh4 _ fun r hr=>(Classical.not_not.1 (ht r hr)).symm
    rcases ZlV ac2 hl with rfl|⟨ob,rfl⟩
    ·exact ⟨h,Zed w2 p2 ac2',e1⟩
    ·obtain ⟨_,_,m3⟩:=ZeB hc ob hn2 hl2 (fun e=>hne e.symm) e1;exact ⟨h.put n ob,Zed w2 p2 ac2',m3⟩
 obtain ⟨h1',b1,b2⟩:=key;exact ⟨h1',b1,by rw [ZjN (Zi4 a2)];exact b2⟩

end Mu
